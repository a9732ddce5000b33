import Derived.Test.YtnjbcjmkkejfpaaGreatQf
set_option linter.unusedVariables false
set_option linter.unusedSimpArgs false
set_option linter.unusedVariables false
set_option linter.unusedSimpArgs false
set_option maxHeartbeats 4000000
set_option maxRecDepth 100000
set_option synthInstance.maxSize 100000
set_option synthInstance.maxHeartbeats 400000
namespace Go.Proofs.YtnjbcjmkkejfpaaGreat
open Go.RowKit (Below)
attribute [local irreducible] Go.Code.wp Go.wpList Go.bodyPost
private theorem gS_ {W0 : World} {G0 : Gh} {N : Nat} {L : List (Nat × MT)} {B : List BX} {a : Act} {w : World} {G : Gh} {q : Prop} (h : St W0 G0 N L B a w G → q) : St W0 G0 N L B a w G → q:=h
private theorem gL_ {p : Prop} {P : Program} {arr : Array Oper} {Q : Exit → Act → World → Prop} {l : List Oper} {a : Act} {w : World} (h : p → wpList P arr Q l a w) : p → wpList P arr Q l a w:=h
private theorem gC_ {p : Prop} {P : Program} {c : Code} {Q : Exit → Act → World → Prop} {a : Act} {w : World} (h : p → c.wp P Q a w) : p → c.wp P Q a w:=h
private theorem mixedOrders : Tryz.prog.follows .mixedOrders = true:=by kernel_rfl
attribute [local irreducible] plusF minusF joinF levI lev PW RLN tB sB timesF stepF tmF normF shoF TOK
theorem lvM_eq {l k : List Rat} {j : Nat} (hl : l.length = 2 ^ j) (hk : k.length = 2 ^ j) : lvM l k = j:=by unfold lvM;rw [hl,hk,Nat.max_self,lev_pow]
theorem lvM_r {l k : List Rat} {j : Nat} (hl : l.length ≤ 2 ^ j) (hk : k.length = 2 ^ j) : lvM l k = j:=by unfold lvM;rw [hk,Nat.max_eq_right hl,lev_pow]
theorem nm_facts {rs : List (List Rat)} {l : List Rat} {j : Nat} (p2 : rs.length ≤ 5) (p3 : RLN rs) (hj : j < rs.length) (hl : l.length = 2 ^ (j + 1)) :
    l.length / 2 = 2 ^ j ∧ (2 ^ j ≤ 16 ∧ 1 ≤ 2 ^ j ∧ 2 ^ (j + 1) = 2 ^ j + 2 ^ j) ∧ lvM (l.take (l.length / 2)) (l.take (l.length / 2)) = j ∧ lvM (l.drop (l.length / 2)) (l.drop (l.length / 2)) = j ∧ lvM (tmF rs (l.drop (l.length / 2)) (l.drop (l.length / 2))) (rs.getD (levI l.length - 1).toNat default) = j ∧
    PW j (l.take (l.length / 2)) ∧ PW j (l.drop (l.length / 2)) ∧ PW j (tmF rs (l.drop (l.length / 2)) (l.drop (l.length / 2))) ∧ PW j (rs.getD (levI l.length - 1).toNat default) ∧ (0 ≤ levI l.length - 1 ∧ levI l.length - 1 < (rs.length : Int)) ∧ rs.getD (levI l.length - 1).toNat default = rs.getD (lev l.length - 1) [] ∧ rs.getD (lev l.length - 1) [] = rs.getD j []:=by
  obtain ⟨e1,e2,_,e3,e4⟩:=lv_facts p3 (Nat.le_refl _) hj hl
  have hp:=Nat.two_pow_pos j
  have h16 : 2 ^ j ≤ 2 ^ 4:=Nat.pow_le_pow_right (by decide) (by omega)
  have e5 : 2 ^ (j + 1) = 2 ^ j + 2 ^ j:=by rw [Nat.pow_succ];omega
  have hh : l.length / 2 = 2 ^ j:=by omega
  have hx : (l.take (2 ^ j)).length = 2 ^ j:=by rw [List.length_take];omega
  have hy : (l.drop (2 ^ j)).length = 2 ^ j:=by rw [List.length_drop];omega
  have hd:=PW.rt p3 hj (Nat.le_refl j)
  have hyy:=PW.tm p3 (by omega : j ≤ rs.length) (PW.pow hy) (PW.pow hy)
  rw [hh,e3,e4]
  exact ⟨rfl,⟨h16,hp,e5⟩,lvM_eq hx hx,lvM_eq hy hy,lvM_r hyy.le (p3.at hj),PW.pow hx,PW.pow hy,hyy,hd,⟨e1,e2⟩,e4.symm ▸ rfl,rfl⟩
theorem w117 {n r : Nat} {rs : List (List Rat)} {l : List Rat} : Con Tryz.prog 117 [TWR r rs,NM n l] (l.length = 2 ^ (lev l.length - 1 + 1) ∧ lev l.length - 1 < rs.length ∧ rs.length ≤ 5 ∧ RLN rs ∧ 1 ≤ n ∧ 1 ≤ r ∧ tB (lev l.length - 1 + 1) (n + n) r ≤ BIG) (NM (tB (lev l.length - 1 + 1) (n + n) r) (normF rs l)):=.o2 fun hok h1 h2 hp=>by
  refine St.enter (N:=36) Tryz.func117 rfl rfl rfl hok (enter2 h1 h2) fun a=>?_
  repeat' (first|((with_reducible refine gS_ ?_);first|((with_reducible refine gL_ ?_);first|refine W.run ?_ fun a w G=>?_|refine W.mv fun a w G=>?_|refine W.asg fun a w G=>?_|refine W.bx fun b a w G=>?_|(refine W.nn hK ?_;clear hK K)|refine W.nl ?_|refine W.al fun b a w G=>?_|refine W.st fun w=>?_|refine W.stp fun w=>?_|refine W.ste ?_ fun w=>?_)|((with_reducible refine gC_ ?_);first|refine W.reg fun K hK=>?_|refine W.reg1 ?_|refine W.sq fun K hK=>?_|refine W.ds ?_ (fun β a w G hu=>W.fin ?_ hu) mixedOrders (by kernel_rfl)|refine W.sk ?_|refine W.cd (fun hc=>?_) (fun hc=>?_)|refine W.cb (fun hc=>?_) (fun hc=>?_)|refine W.bl ?_|refine W.ex ?_|refine W.rt ?_)|((with_reducible refine W.kn hK ?_);clear hK K)|(with_reducible first|refine W.bn ?_|refine W.xt ?_|refine W.xb ?_|refine W.xo ?_|refine W.tr ?_|refine W.br ?_)|refine W.rt1 rfl ?_|refine W.rt2 rfl ?_ ?_|refine W.rt3 rfl ?_ ?_ ?_)|clear hK K|clear hu|exact True.intro|exact Nat.le_trans (by clear hp;omega) hp|exact Nat.le_trans (by clear hp;omega) hp.1|exact Nat.le_trans (by clear hp;omega) hp.2|(clear hp;omega)|apply And.intro|refine GI.i fun _=>?_|with_reducible rfl|decide|(simp only [List.length_cons,List.length_nil];omega))
  all_goals obtain ⟨p1,p2,p3,p4,p5,p6,p7⟩:=hp
  all_goals obtain ⟨f1,⟨f2,f3,f3'⟩,f4,f5,f6,f7,f8,f9,f10,f11,f12,f13⟩:=nm_facts p3 p4 p2 p1
  all_goals have hb : tB (lev l.length - 1 + 1) (n + n) r = tB (lev l.length - 1) (n + n) r + tB (lev l.length - 1) (tB (lev l.length - 1) (n + n) r + r) r + 1:=tB_facts (kk:=lev l.length - 1 + 1) (Nat.succ_ne_zero _) |>.1
  all_goals have hb2:=tB_le (r:=r) (k:=lev l.length - 1) (n:=n + n)
  all_goals have hb3:=tB_le (r:=r) (k:=lev l.length - 1) (n:=tB (lev l.length - 1) (n + n) r + r)
  all_goals have q1:=(PW.tm p4 (by omega) f7 f7).l32 (by omega)
  all_goals have q2:=(PW.tm p4 (by omega) f9 f10).l32 (by omega)
  all_goals have q3:=(PW.tm p4 (by omega) f9 f10).minus.l32 (by omega)
  all_goals (try simp only [f4,f5,f6])
  all_goals first
    | omega
    | assumption
    | (show _ = normF rs l;unfold normF;rw [f12])
    | skip
instance {n r : Nat} {rs : List (List Rat)} {l : List Rat} {τ1 : MT} [j1 : NU τ1 (TWR r rs)] {τ2 : MT} [j2 : NU τ2 (NM n l)] : Con Tryz.prog 117 [τ1,τ2] (l.length = 2 ^ (lev l.length - 1 + 1) ∧ lev l.length - 1 < rs.length ∧ rs.length ≤ 5 ∧ RLN rs ∧ 1 ≤ n ∧ 1 ≤ r ∧ tB (lev l.length - 1 + 1) (n + n) r ≤ BIG) (NM (tB (lev l.length - 1 + 1) (n + n) r) (normF rs l)):=.o2 fun hok h1 h2 hp=>w117.c2 hok (j1.h h1) (j2.h h2) hp
end Go.Proofs.YtnjbcjmkkejfpaaGreat
set_option linter.unusedVariables false
set_option linter.unusedSimpArgs false
set_option maxHeartbeats 4000000
set_option maxRecDepth 100000
set_option synthInstance.maxSize 100000
set_option synthInstance.maxHeartbeats 400000
namespace Go.Proofs.YtnjbcjmkkejfpaaGreat
open Go.RowKit (Below)
attribute [local irreducible] Go.Code.wp Go.wpList Go.bodyPost
theorem sB_s {k n r : Nat} : sB (k + 1) n r = sB k (tB (k + 1) (n + n) r) r:=rfl
attribute [local irreducible] plusF minusF joinF levI lev PW RLN tB sB timesF stepF tmF normF shoF TOK
theorem TOK.rl {rs : List (List Rat)} (h : TOK rs) : RLN rs ∧ rs.length ≤ 5:=by unfold TOK at h;exact ⟨h.2.1,h.1⟩
theorem sg_facts {kk n r : Nat} {rs : List (List Rat)} {l : List Rat} (p1 : kk ≤ rs.length) (p2 : TOK rs) (p3 : PW kk l) (p4 : 1 ≤ n) (p5 : 1 ≤ r) (p6 : sB kk (n + r) r ≤ BIG) (h0 : ¬ (((shoF l).length : Nat) : Int) = 0) (h1 : ¬ (((shoF l).length : Nat) : Int) = 1) :
    kk ≠ 0 ∧ ∃ j,j + 1 ≤ kk ∧ (shoF l).length = 2 ^ (j + 1) ∧ lev (shoF l).length - 1 = j ∧ PW (kk - 1) ((shoF l).take ((shoF l).length / 2)) ∧ PW (kk - 1) ((shoF l).drop ((shoF l).length / 2)) ∧ ((shoF l).length / 2 ≤ (shoF l).length ∧ (shoF l).length ≤ 32) ∧ (0 ≤ levI (shoF l).length - 1 ∧ levI (shoF l).length - 1 < (rs.length : Int)) ∧
    rs.getD (levI (shoF l).length - 1).toNat default = rs.getD j [] ∧ PW (kk - 1) (rs.getD j []) ∧ PW (kk - 1) (normF rs (shoF l)) ∧ tB (j + 1) (n + n) r ≤ BIG ∧ sB (kk - 1) (n + r) r ≤ BIG ∧ sB (kk - 1) (r + r) r ≤ BIG ∧ sB (kk - 1) (tB (j + 1) (n + n) r + r) r ≤ BIG ∧ 1 ≤ tB (j + 1) (n + n) r:=by
  obtain ⟨p7,p8⟩:=p2.rl
  obtain ⟨s1,s2,s3,s4⟩:=sho_ok (by omega) p3
  have hj : ∃ j,j < kk ∧ (shoF l).length = 2 ^ (j + 1):=by
    unfold PW at s2
    rcases s2 with h | ⟨i,hi,h⟩
    · omega
    · cases i with
      | zero=>simp at h;omega
      | succ j=>exact ⟨j,by omega,h⟩
  obtain ⟨j,hj,hl⟩:=hj
  obtain ⟨f1,⟨f2,f3,f3'⟩,f4,f5,f6,f7,f8,f9,f10,f11,f12,f13⟩:=nm_facts p8 p7 (by omega : j < rs.length) hl
  have hn:=norm_ok p7 (by omega : j < rs.length) hl
  obtain ⟨i,rfl⟩ : ∃ i,kk = i + 1:=⟨kk - 1,by omega⟩
  have hs : sB (i + 1) (n + r) r = sB i (tB (i + 1) (n + r + (n + r)) r) r:=sB_s
  have hle : tB (j + 1) (n + n) r + r ≤ tB (i + 1) (n + r + (n + r)) r:=by
    have h1:=tB_up (r:=r) (n:=n + n) (show j + 1 ≤ i + 1 by omega)
    have h2:=tB_add (r:=r) (k:=i + 1) (n:=n + n) (m:=r + r)
    rw [show n + n + (r + r) = n + r + (n + r) by omega] at h2
    omega
  have hbig:=tB_le (r:=r) (k:=i + 1) (n:=n + r + (n + r))
  have hS:=sB_le (r:=r) (k:=i) (n:=tB (i + 1) (n + r + (n + r)) r)
  have m1:=sB_mono (r:=r) (k:=i) hle
  have m2:=sB_mono (r:=r) (k:=i) (n:=n + r) (m:=tB (i + 1) (n + r + (n + r)) r) (by omega)
  have m3:=sB_mono (r:=r) (k:=i) (n:=r + r) (m:=tB (i + 1) (n + r + (n + r)) r) (by omega)
  have hb1:=tB_le (r:=r) (k:=j + 1) (n:=n + n)
  rw [Nat.add_sub_cancel]
  exact ⟨Nat.succ_ne_zero _,j,hj,hl,by rw [hl,lev_pow];rfl,f7.mono (by omega),f8.mono (by omega),⟨by omega,by omega⟩,f11,f12.trans f13,PW.rt p7 (by omega) (by omega),hn.2.mono (by omega),by omega,by omega,by omega,by omega,by omega⟩
theorem sg_short {kk : Nat} {rs : List (List Rat)} {l : List Rat} (p1 : kk ≤ rs.length) (p2 : TOK rs) (p3 : PW kk l) : sgL rs l = sgL rs (shoF l):=(sgL_short (by have:=p2.rl.2;omega) p3).symm
theorem sgStep {kk : Nat} (ih : ∀ {n r : Nat} {rs : List (List Rat)} {l : List Rat},Con Tryz.prog 80 [TWR r rs,NM n l] (kk ≠ 0 ∧ (kk - 1) ≤ rs.length ∧ TOK rs ∧ PW (kk - 1) l ∧ 1 ≤ n ∧ 1 ≤ r ∧ sB (kk - 1) (n + r) r ≤ BIG) (IT (sgL rs l))) {n r : Nat} {rs : List (List Rat)} {l : List Rat} : Con Tryz.prog 80 [TWR r rs,NM n l] (kk ≤ rs.length ∧ TOK rs ∧ PW kk l ∧ 1 ≤ n ∧ 1 ≤ r ∧ sB kk (n + r) r ≤ BIG) (IT (sgL rs l)):=.o2 fun hok h1 h2 hp=>by
  refine St.enter (N:=64) Tryz.func80 rfl rfl rfl hok (enter2 h1 h2) fun a=>?_
  repeat' (first|((with_reducible refine gS_ ?_);first|((with_reducible refine gL_ ?_);first|refine W.run ?_ fun a w G=>?_|refine W.mv fun a w G=>?_|refine W.asg fun a w G=>?_|refine W.bx fun b a w G=>?_|(refine W.nn hK ?_;clear hK K)|refine W.nl ?_|refine W.al fun b a w G=>?_|refine W.st fun w=>?_|refine W.stp fun w=>?_|refine W.ste ?_ fun w=>?_)|((with_reducible refine gC_ ?_);first|refine W.reg fun K hK=>?_|refine W.reg1 ?_|refine W.sq fun K hK=>?_|refine W.ds ?_ (fun β a w G hu=>W.fin ?_ hu) mixedOrders (by kernel_rfl)|refine W.sk ?_|refine W.cd (fun hc=>?_) (fun hc=>?_)|refine W.cb (fun hc=>?_) (fun hc=>?_)|refine W.bl ?_|refine W.ex ?_|refine W.rt ?_)|((with_reducible refine W.kn hK ?_);clear hK K)|(with_reducible first|refine W.bn ?_|refine W.xt ?_|refine W.xb ?_|refine W.xo ?_|refine W.tr ?_|refine W.br ?_)|refine W.rt1 rfl ?_|refine W.rt2 rfl ?_ ?_|refine W.rt3 rfl ?_ ?_ ?_)|clear hK K|clear hu|exact True.intro|exact Nat.le_trans (by clear hp;omega) hp|exact Nat.le_trans (by clear hp;omega) hp.1|exact Nat.le_trans (by clear hp;omega) hp.2|(clear hp;omega)|apply And.intro|refine GI.i fun _=>?_|with_reducible rfl|decide|(simp only [List.length_cons,List.length_nil];omega))
  all_goals obtain ⟨p1,p2,p3,p4,p5,p6⟩:=hp
  all_goals have hn:=sB_le (r:=r) (k:=kk) (n:=n + r)
  all_goals have hl32:=p3.l32 (by have:=p2.rl.2;omega)
  all_goals have e0:=sg_short p1 p2 p3
  all_goals have hsl : (shoF l).length ≤ l.length:=(sho_ok (by have:=p2.rl.2;omega) p3).2.2.2
  all_goals first
    | omega
    | (have h0 : (((shoF l).length : Nat) : Int) = 0 := by assumption
       rw [e0,List.length_eq_zero_iff.1 (show (shoF l).length = 0 by omega),sgL_nil])
    | (have h1 : (((shoF l).length : Nat) : Int) = 1 := by assumption
       rw [e0,sgL_one (by omega)];rfl)
    | (obtain ⟨g1, j, g2, g3, g4, g5, g6, ⟨g7, g7'⟩, g8, g9, g10, g11, g12, g13, g14, g15, g16⟩ := sg_facts p1 p2 p3 p4 p5 p6 (by assumption) (by assumption)
       have g17:=p2.rl
       have g18:=sgL_step p2 (by omega : j < rs.length) g3
       have g19:=sgL_mul_bd rs ((shoF l).take ((shoF l).length / 2)) (normF rs (shoF l))
       (try simp only [g9] at *)
       (try rw [g4])
       first
       | omega
       | assumption
       | exact g17.1
       | exact g19.1
       | exact g19.2
       | (rw [e0,g18];simp only [Bool.or_eq_true,Bool.or_eq_false_iff,decide_eq_true_eq,decide_eq_false_iff_not] at *;grind)
       | skip)
    | skip
theorem sgK : ∀ (kk : Nat) {n r : Nat} {rs : List (List Rat)} {l : List Rat},Con Tryz.prog 80 [TWR r rs,NM n l] (kk ≤ rs.length ∧ TOK rs ∧ PW kk l ∧ 1 ≤ n ∧ 1 ≤ r ∧ sB kk (n + r) r ≤ BIG) (IT (sgL rs l)):=fun kk=>by
  induction kk with
  | zero=>exact sgStep (kk:=0) ⟨fun _ _ hp=>absurd rfl hp.1⟩
  | succ kk ih=>exact sgStep (kk:=kk + 1) ⟨fun hok ha hp=>ih.h hok ha hp.2⟩
instance {n r : Nat} {rs : List (List Rat)} {l : List Rat} {τ1 : MT} [j1 : NU τ1 (TWR r rs)] {τ2 : MT} [j2 : NU τ2 (NM n l)] : Con Tryz.prog 80 [τ1,τ2] (TOK rs ∧ PW rs.length l ∧ 1 ≤ n ∧ 1 ≤ r ∧ sB rs.length (n + r) r ≤ BIG) (IT (sgL rs l)):=.o2 fun hok h1 h2 hp=>(sgK rs.length).c2 hok (j1.h h1) (j2.h h2) ⟨Nat.le_refl _,hp.1,hp.2.1,hp.2.2.1,hp.2.2.2.1,hp.2.2.2.2⟩
theorem num_f {K : Nat} {l : List Rat} {z : Int} (h : PW K l) (hz : z = K) (hl : 0 < l.length) (hc : (decide (levI l.length < 0) || decide (levI l.length > z)) = true) : False:=by
  have key : ∃ j : Nat,j ≤ K ∧ levI l.length = j:=by
    unfold PW at h
    rcases h with h | ⟨j,hj,h⟩
    · omega
    · exact ⟨j,hj,by rw [h,levI_pow]⟩
  obtain ⟨j,hj,e⟩:=key
  rw [e] at hc
  simp only [Bool.or_eq_true,decide_eq_true_eq] at hc
  omega
theorem w115 {n r : Nat} {rs : List (List Rat)} {l : List Rat} : Con Tryz.prog 115 [TWR r rs,NM n l] (n ≤ BIG ∧ rs.length ≤ 5 ∧ PW rs.length l) (.ex (errV 46 (0))):=.o2 fun hok h1 h2 hp=>by
  refine St.enter (N:=34) Tryz.func115 rfl rfl rfl hok (enter2 h1 h2) fun a=>?_
  have hl32:=hp.2.2.l32 hp.2.1
  repeat' (first|((with_reducible refine gS_ ?_);first|((with_reducible refine gL_ ?_);first|refine W.run ?_ fun a w G=>?_|refine W.mv fun a w G=>?_|refine W.asg fun a w G=>?_|refine W.bx fun b a w G=>?_|(refine W.nn hK ?_;clear hK K)|refine W.nl ?_|refine W.al fun b a w G=>?_|refine W.st fun w=>?_|refine W.stp fun w=>?_|refine W.ste ?_ fun w=>?_)|((with_reducible refine gC_ ?_);first|refine W.reg fun K hK=>?_|refine W.reg1 ?_|refine W.sq fun K hK=>?_|refine W.ds ?_ (fun β a w G hu=>W.fin ?_ hu) mixedOrders (by kernel_rfl)|refine W.sk ?_|refine W.cd (fun hc=>?_) (fun hc=>?_)|refine W.cb (fun hc=>?_) (fun hc=>?_)|refine W.bl ?_|refine W.ex ?_|refine W.rt ?_)|((with_reducible refine W.kn hK ?_);clear hK K)|(with_reducible first|refine W.bn ?_|refine W.xt ?_|refine W.xb ?_|refine W.xo ?_|refine W.tr ?_|refine W.br ?_)|refine W.rt1 rfl ?_|refine W.rt2 rfl ?_ ?_|refine W.rt3 rfl ?_ ?_ ?_)|refine W.lp 26 (α:=Nat) (fun j=>l.length - j) (fun j=>j ≤ l.length) [4,7,25,26,27,28,29,30,31,32,33] (fun j=>[(25,NT j)]) (fun j=>[]) (0) ?_ ?_ ?_ fun j hj a w G=>?_|refine W.ag (x:=j) (j+1) ?_ ?_ ?_ ?_|clear hK K|clear hu|exact True.intro|exact Nat.le_trans (by clear hp;omega) hp|exact Nat.le_trans (by clear hp;omega) hp.1|exact Nat.le_trans (by clear hp;omega) hp.2|(clear hp;omega)|apply And.intro|refine GI.i fun _=>?_|with_reducible rfl|decide|(simp only [List.length_cons,List.length_nil];omega))
  all_goals first
    | omega
    | (exfalso;exact num_f hp.2.2 rfl (by omega) (by assumption))
    | (exfalso;rw [FR.of_ok] at *;contradiction)
    | (exfalso;simp only [FR.of_ok,Bool.not_true] at *;contradiction)
    | skip
instance {n r : Nat} {rs : List (List Rat)} {l : List Rat} {τ1 : MT} [j1 : NU τ1 (TWR r rs)] {τ2 : MT} [j2 : NU τ2 (NM n l)] : Con Tryz.prog 115 [τ1,τ2] (n ≤ BIG ∧ rs.length ≤ 5 ∧ PW rs.length l) (.ex (errV 46 (0))):=.o2 fun hok h1 h2 hp=>w115.c2 hok (j1.h h1) (j2.h h2) hp
theorem w83 {r : Nat} {rs : List (List Rat)} : Con Tryz.prog 83 [TWR r rs] (TOK rs ∧ 1 ≤ r ∧ sB rs.length (r + r) r ≤ BIG) (.ex (errV 46 (0))):=.o1 fun hok h1 hp=>by
  refine St.enter (N:=43) Tryz.func83 rfl rfl rfl hok (enter1 h1) fun a=>?_
  have h5:=hp.1.rl
  have hbg:=sB_le (r:=r) (k:=rs.length) (n:=r + r)
  repeat' (first|((with_reducible refine gS_ ?_);first|((with_reducible refine gL_ ?_);first|refine W.run ?_ fun a w G=>?_|refine W.mv fun a w G=>?_|refine W.asg fun a w G=>?_|refine W.bx fun b a w G=>?_|(refine W.nn hK ?_;clear hK K)|refine W.nl ?_|refine W.al fun b a w G=>?_|refine W.st fun w=>?_|refine W.stp fun w=>?_|refine W.ste ?_ fun w=>?_)|((with_reducible refine gC_ ?_);first|refine W.reg fun K hK=>?_|refine W.reg1 ?_|refine W.sq fun K hK=>?_|refine W.ds ?_ (fun β a w G hu=>W.fin ?_ hu) mixedOrders (by kernel_rfl)|refine W.sk ?_|refine W.cd (fun hc=>?_) (fun hc=>?_)|refine W.cb (fun hc=>?_) (fun hc=>?_)|refine W.bl ?_|refine W.ex ?_|refine W.rt ?_)|((with_reducible refine W.kn hK ?_);clear hK K)|(with_reducible first|refine W.bn ?_|refine W.xt ?_|refine W.xb ?_|refine W.xo ?_|refine W.tr ?_|refine W.br ?_)|refine W.rt1 rfl ?_|refine W.rt2 rfl ?_ ?_|refine W.rt3 rfl ?_ ?_ ?_)|refine W.lp 16 (α:=Nat) (fun j=>rs.length - j) (fun j=>j ≤ rs.length) [2,3,4,5,6,15,16,17,18,19,20,21,22,23,24,25,26,27,28,29,30,31,32,33,34,35,36,37,38,39,40,41,42] (fun j=>[(15,NT j)]) (fun j=>[]) (0) ?_ ?_ ?_ fun j hj a w G=>?_|refine W.ag (x:=j) (j+1) ?_ ?_ ?_ ?_|clear hK K|clear hu|exact True.intro|exact Nat.le_trans (by clear hp;omega) hp|exact Nat.le_trans (by clear hp;omega) hp.1|exact Nat.le_trans (by clear hp;omega) hp.2|(clear hp;omega)|apply And.intro|refine GI.i fun _=>?_|with_reducible rfl|decide|(simp only [List.length_cons,List.length_nil];omega))
  all_goals first
    | omega
    | (have ht := hp.1.take j
       have hl:=h5.1.at (show j < rs.length by omega)
       have hs:=sB_ups (r:=r) (n:=r + r) (show (rs.take j).length ≤ rs.length by rw [List.length_take];omega)
       have hlt : (rs.take j).length = j:=by rw [List.length_take];omega
       have hpw : PW (rs.take j).length (rs.getD j []):=by rw [hlt];exact PW.pow hl
       have hj5 : 2 ^ j ≤ 2 ^ 5:=Nat.pow_le_pow_right (by decide) (by omega)
       have hnn:=hp.1.nn (show j < rs.length by omega)
       rw [← ht.2 _ hpw] at hnn
       first
       | omega
       | exact ht.1
       | exact hpw
       | (exfalso;have hd : (rs.getD j default).length = 2 ^ j:=hl;omega)
       | (exfalso;have hd : 0 ≤ sgL (List.take j rs) (rs.getD j default):=hnn;omega)
       | skip)
    | skip
instance {r : Nat} {rs : List (List Rat)} {τ1 : MT} [j1 : NU τ1 (TWR r rs)] : Con Tryz.prog 83 [τ1] (TOK rs ∧ 1 ≤ r ∧ sB rs.length (r + r) r ≤ BIG) (.ex (errV 46 (0))):=.o1 fun hok h1 hp=>w83.c1 hok (j1.h h1) hp
theorem getD_mem {l : List (List Rat)} {j : Nat} (h : j < l.length) : l.getD j default ∈ l:=by rw [List.getD_eq_getElem?_getD,List.getElem?_eq_getElem h];exact List.getElem_mem h
theorem w79 {r n : Nat} {rs ls : List (List Rat)} : Con Tryz.prog 79 [TWR r rs,RTS n ls] (TOK rs ∧ 1 ≤ r ∧ n ≤ BIG ∧ sB rs.length (r + r) r ≤ BIG ∧ ls.length ≤ 8 ∧ ∀ x ∈ ls,PW rs.length x) (.ex (errV 46 (0))):=.o2 fun hok h1 h2 hp=>by
  refine St.enter (N:=27) Tryz.func79 rfl rfl rfl hok (enter2 h1 h2) fun a=>?_
  have h5:=hp.1.rl
  repeat' (first|((with_reducible refine gS_ ?_);first|((with_reducible refine gL_ ?_);first|refine W.run ?_ fun a w G=>?_|refine W.mv fun a w G=>?_|refine W.asg fun a w G=>?_|refine W.bx fun b a w G=>?_|(refine W.nn hK ?_;clear hK K)|refine W.nl ?_|refine W.al fun b a w G=>?_|refine W.st fun w=>?_|refine W.stp fun w=>?_|refine W.ste ?_ fun w=>?_)|((with_reducible refine gC_ ?_);first|refine W.reg fun K hK=>?_|refine W.reg1 ?_|refine W.sq fun K hK=>?_|refine W.ds ?_ (fun β a w G hu=>W.fin ?_ hu) mixedOrders (by kernel_rfl)|refine W.sk ?_|refine W.cd (fun hc=>?_) (fun hc=>?_)|refine W.cb (fun hc=>?_) (fun hc=>?_)|refine W.bl ?_|refine W.ex ?_|refine W.rt ?_)|((with_reducible refine W.kn hK ?_);clear hK K)|(with_reducible first|refine W.bn ?_|refine W.xt ?_|refine W.xb ?_|refine W.xo ?_|refine W.tr ?_|refine W.br ?_)|refine W.rt1 rfl ?_|refine W.rt2 rfl ?_ ?_|refine W.rt3 rfl ?_ ?_ ?_)|refine W.lp 17 (α:=Nat) (fun j=>ls.length - j) (fun j=>j ≤ ls.length) [4,7,8,16,17,18,19,20,21,22,23,24,25,26] (fun j=>[(16,NT j)]) (fun j=>[]) (0) ?_ ?_ ?_ fun j hj a w G=>?_|refine W.ag (x:=j) (j+1) ?_ ?_ ?_ ?_|clear hK K|clear hu|exact True.intro|exact Nat.le_trans (by clear hp;omega) hp|exact Nat.le_trans (by clear hp;omega) hp.1|exact Nat.le_trans (by clear hp;omega) hp.2|(clear hp;omega)|apply And.intro|refine GI.i fun _=>?_|with_reducible rfl|decide|(simp only [List.length_cons,List.length_nil];omega))
  all_goals first
    | omega
    | exact hp.1
    | exact hp.2.2.2.2.2 _ (getD_mem (by omega))
    | skip
instance {r n : Nat} {rs ls : List (List Rat)} {τ1 : MT} [j1 : NU τ1 (TWR r rs)] {τ2 : MT} [j2 : NU τ2 (RTS n ls)] : Con Tryz.prog 79 [τ1,τ2] (TOK rs ∧ 1 ≤ r ∧ n ≤ BIG ∧ sB rs.length (r + r) r ≤ BIG ∧ ls.length ≤ 8 ∧ ∀ x ∈ ls,PW rs.length x) (.ex (errV 46 (0))):=.o2 fun hok h1 h2 hp=>w79.c2 hok (j1.h h1) (j2.h h2) hp
theorem w43 {n r : Nat} {rs : List (List Rat)} {l : List Rat} : Con Tryz.prog 43 [TWR r rs,NM n l] (TOK rs ∧ PW rs.length l ∧ 1 ≤ r ∧ 1 ≤ n ∧ sB rs.length (n + r) r ≤ BIG ∧ sB rs.length (r + r) r ≤ BIG) (MT.tup2 (IT (sgL rs l)) (.ex (errV 46 (0)))):=.o2 fun hok h1 h2 hp=>by
  refine St.enter (N:=17) Tryz.func43 rfl rfl rfl hok (enter2 h1 h2) fun a=>?_
  have h5:=hp.1.rl
  have hbg:=sB_le (r:=r) (k:=rs.length) (n:=n + r)
  repeat' (first|((with_reducible refine gS_ ?_);first|((with_reducible refine gL_ ?_);first|refine W.run ?_ fun a w G=>?_|refine W.mv fun a w G=>?_|refine W.asg fun a w G=>?_|refine W.bx fun b a w G=>?_|(refine W.nn hK ?_;clear hK K)|refine W.nl ?_|refine W.al fun b a w G=>?_|refine W.st fun w=>?_|refine W.stp fun w=>?_|refine W.ste ?_ fun w=>?_)|((with_reducible refine gC_ ?_);first|refine W.reg fun K hK=>?_|refine W.reg1 ?_|refine W.sq fun K hK=>?_|refine W.ds ?_ (fun β a w G hu=>W.fin ?_ hu) mixedOrders (by kernel_rfl)|refine W.sk ?_|refine W.cd (fun hc=>?_) (fun hc=>?_)|refine W.cb (fun hc=>?_) (fun hc=>?_)|refine W.bl ?_|refine W.ex ?_|refine W.rt ?_)|((with_reducible refine W.kn hK ?_);clear hK K)|(with_reducible first|refine W.bn ?_|refine W.xt ?_|refine W.xb ?_|refine W.xo ?_|refine W.tr ?_|refine W.br ?_)|refine W.rt1 rfl ?_|refine W.rt2 rfl ?_ ?_|refine W.rt3 rfl ?_ ?_ ?_)|clear hK K|clear hu|exact True.intro|exact Nat.le_trans (by clear hp;omega) hp|exact Nat.le_trans (by clear hp;omega) hp.1|exact Nat.le_trans (by clear hp;omega) hp.2|(clear hp;omega)|apply And.intro|refine GI.i fun _=>?_|with_reducible rfl|decide|(simp only [List.length_cons,List.length_nil];omega))
  all_goals first
    | omega
    | exact hp.1
    | exact hp.2.1
    | (intro x hx;simp only [List.mem_cons,List.not_mem_nil,or_false] at hx;subst hx;exact hp.2.1)
    | (simp;done)
    | skip
instance {n r : Nat} {rs : List (List Rat)} {l : List Rat} {τ1 : MT} [j1 : NU τ1 (TWR r rs)] {τ2 : MT} [j2 : NU τ2 (NM n l)] : Con Tryz.prog 43 [τ1,τ2] (TOK rs ∧ PW rs.length l ∧ 1 ≤ r ∧ 1 ≤ n ∧ sB rs.length (n + r) r ≤ BIG ∧ sB rs.length (r + r) r ≤ BIG) (MT.tup2 (IT (sgL rs l)) (.ex (errV 46 (0)))):=.o2 fun hok h1 h2 hp=>w43.c2 hok (j1.h h1) (j2.h h2) hp
theorem w38 {n m r : Nat} {rs : List (List Rat)} {l k : List Rat} : Con Tryz.prog 38 [TWR r rs,NM n l,NM m k] (TOK rs ∧ PW rs.length l ∧ PW rs.length k ∧ 1 ≤ r ∧ 1 ≤ n ∧ 1 ≤ m ∧ sB rs.length (n + m + 1 + r) r ≤ BIG ∧ sB rs.length (r + r) r ≤ BIG) (MT.tup2 (IT (sgL rs (plusF l (minusF k)))) (.ex (errV 46 (0)))):=.o3 fun hok h1 h2 h3 hp=>by
  refine St.enter (N:=23) Tryz.func38 rfl rfl rfl hok (enter3 h1 h2 h3) fun a=>?_
  have h5:=hp.1.rl
  have hbg:=sB_le (r:=r) (k:=rs.length) (n:=n + m + 1 + r)
  have l1:=hp.2.1.l32 h5.2
  have l2:=hp.2.2.1.l32 h5.2
  have l3:=hp.2.2.1.minus.l32 h5.2
  repeat' (first|((with_reducible refine gS_ ?_);first|((with_reducible refine gL_ ?_);first|refine W.run ?_ fun a w G=>?_|refine W.mv fun a w G=>?_|refine W.asg fun a w G=>?_|refine W.bx fun b a w G=>?_|(refine W.nn hK ?_;clear hK K)|refine W.nl ?_|refine W.al fun b a w G=>?_|refine W.st fun w=>?_|refine W.stp fun w=>?_|refine W.ste ?_ fun w=>?_)|((with_reducible refine gC_ ?_);first|refine W.reg fun K hK=>?_|refine W.reg1 ?_|refine W.sq fun K hK=>?_|refine W.ds ?_ (fun β a w G hu=>W.fin ?_ hu) mixedOrders (by kernel_rfl)|refine W.sk ?_|refine W.cd (fun hc=>?_) (fun hc=>?_)|refine W.cb (fun hc=>?_) (fun hc=>?_)|refine W.bl ?_|refine W.ex ?_|refine W.rt ?_)|((with_reducible refine W.kn hK ?_);clear hK K)|(with_reducible first|refine W.bn ?_|refine W.xt ?_|refine W.xb ?_|refine W.xo ?_|refine W.tr ?_|refine W.br ?_)|refine W.rt1 rfl ?_|refine W.rt2 rfl ?_ ?_|refine W.rt3 rfl ?_ ?_ ?_)|clear hK K|clear hu|exact True.intro|exact Nat.le_trans (by clear hp;omega) hp|exact Nat.le_trans (by clear hp;omega) hp.1|exact Nat.le_trans (by clear hp;omega) hp.2|(clear hp;omega)|apply And.intro|refine GI.i fun _=>?_|with_reducible rfl|decide|(simp only [List.length_cons,List.length_nil];omega))
  all_goals first
    | omega
    | exact hp.1
    | exact hp.2.1.plus hp.2.2.1.minus
    | (intro x hx;simp only [List.mem_cons,List.not_mem_nil,or_false] at hx;rcases hx with hx | hx <;> subst hx <;> first | exact hp.2.1 | exact hp.2.2.1)
    | (simp;done)
    | skip
instance {n m r : Nat} {rs : List (List Rat)} {l k : List Rat} {τ1 : MT} [j1 : NU τ1 (TWR r rs)] {τ2 : MT} [j2 : NU τ2 (NM n l)] {τ3 : MT} [j3 : NU τ3 (NM m k)] : Con Tryz.prog 38 [τ1,τ2,τ3] (TOK rs ∧ PW rs.length l ∧ PW rs.length k ∧ 1 ≤ r ∧ 1 ≤ n ∧ 1 ≤ m ∧ sB rs.length (n + m + 1 + r) r ≤ BIG ∧ sB rs.length (r + r) r ≤ BIG) (MT.tup2 (IT (sgL rs (plusF l (minusF k)))) (.ex (errV 46 (0)))):=.o3 fun hok h1 h2 h3 hp=>w38.c3 hok (j1.h h1) (j2.h h2) (j3.h h3) hp
theorem zv0' : (default : FR).val = 0:=rfl
end Go.Proofs.YtnjbcjmkkejfpaaGreat
set_option linter.unusedVariables false
set_option linter.unusedSimpArgs false
set_option maxHeartbeats 4000000
set_option maxRecDepth 100000
set_option synthInstance.maxSize 100000
set_option synthInstance.maxHeartbeats 400000
namespace Go.Proofs.YtnjbcjmkkejfpaaGreat
open Go.RowKit (Below)
attribute [local irreducible] Go.Code.wp Go.wpList Go.bodyPost
theorem vl2 {p s x y z u : Rat} : vlL [[p],[s,0]] [x,y,z,u] = (RR.of x + RR.of y * rt p) + (RR.of z + RR.of u * rt p) * rt s:=by
  rw [El.vl_at (k:=2) (l:=[x,y,z,u]) (by decide) (Nat.le_refl 4)]
  show (RR.of x + RR.of y * (RR.of p).sq) + (RR.of z + RR.of u * (RR.of p).sq) * (RR.of s + RR.of 0 * (RR.of p).sq).sq = _
  rw [show RR.of 0 = (0 : RR) from rfl,RR.zero_mul,RR.add_zero];rfl
theorem sg2 {p s x y z : Rat} (hp : 0 ≤ p) (hs : 0 ≤ s) : sgL [[p],[s,0]] [x,y,z,0] = surdsF x y p z s:=by
  unfold sgL
  rw [vl2,surds_sg hp hs,show RR.of 0 = (0 : RR) from rfl,RR.zero_mul,RR.add_zero]
theorem tok2 {p s : Rat} (hp : 0 ≤ p) (hs : 0 ≤ s) : TOK [[p],[s,0]]:=by
  refine ⟨show 2 ≤ 5 by decide,fun j hj=>?_,fun j hj=>?_⟩
  · match j,hj with
    | 0,_=>rfl
    | 1,_=>rfl
  · match j,hj with
    | 0,_ =>
      show 0 ≤ vlL [[p],[s,0]] [p]
      rw [El.vl_at (k:=0) (l:=[p]) (by decide) (Nat.le_refl 1)]
      exact RR.of_le (p:=0) |>.2 hp
    | 1,_ =>
      show 0 ≤ vlL [[p],[s,0]] [s,0]
      rw [El.vl_at (k:=1) (l:=[s,0]) (by decide) (Nat.le_refl 2)]
      show 0 ≤ RR.of s + RR.of 0 * (RR.of p).sq
      rw [show RR.of 0 = (0 : RR) from rfl,RR.zero_mul,RR.add_zero]
      exact RR.of_le (p:=0) |>.2 hs
theorem pw4 {x y z u : Rat} : PW 2 [x,y,z,u]:=.inr ⟨2,Nat.le_refl _,rfl⟩
theorem sB2 {x r : Nat} : sB 2 x r = 48 * x + 25 * r + 21:=by simp only [sB,tB];omega
def nearF (g a b c : FR) (k : Rat) : Int:=surdsF (g.val + a.val - (b.val + c.val)) (-(2 * k)) (a.val * g.val) 2 (b.val * c.val)
def farF (g a b c : FR) (k : Rat) : Int:=surdsF (b.val + c.val - (g.val + a.val)) (2 * k) (a.val * g.val) 2 (b.val * c.val)
def gapC (g a b c k : FR) : Int:=if chkF [g,a,b,c] = 0 then (if k.ok then (if 1 < k.val ∨ k.val < -1 then 3 else 0) else 2) else chkF [g,a,b,c]
def fullF (g a b c : FR) : Bool:=decide (chkF [g,a,b,c] = 0) && decide (0 ≤ nearF g a b c 1) && decide (0 ≤ farF g a b c (-1))
instance NU.qc {τ : MT} {n : Nat} {x : Rat} [h : Rdn τ QC n x] : NU τ (QC n x):=⟨fun hv=>h.h hv⟩
attribute [local irreducible] plusF minusF joinF levI lev PW RLN tB sB timesF stepF tmF normF shoF TOK sgL surdsF chkF
end Go.Proofs.YtnjbcjmkkejfpaaGreat
set_option linter.unusedVariables false
set_option linter.unusedSimpArgs false
set_option maxHeartbeats 4000000
set_option maxRecDepth 100000
set_option synthInstance.maxSize 100000
set_option synthInstance.maxHeartbeats 400000
namespace Go.Proofs.YtnjbcjmkkejfpaaGreat
open Go.RowKit (Below)
attribute [local irreducible] Go.Code.wp Go.wpList Go.bodyPost
instance : DecidableEq FR:=fun r s=>decidable_of_iff (r.s = s.s ∧ r.p = s.p ∧ r.q = s.q) ⟨fun h=>by obtain ⟨a,b,c⟩:=r;obtain ⟨d,e,f⟩:=s;simp only at h;obtain ⟨rfl,rfl,rfl⟩:=h;rfl,fun h=>by subst h;exact ⟨rfl,rfl,rfl⟩⟩
theorem FR.of_inj {x y : Rat} (h : FR.of x = FR.of y) : x = y:=by rw [← FR.of_val (x:=x),h,FR.of_val]
section
variable {α : Type} {l k : List α} {j : Nat}
end
abbrev LFR (l : List FR) : MT:=LS (some 3) (l.map RX)
instance {l : List FR} : AsT (LS (some 3) (l.map RX)) LFR l:=⟨fun h=>h⟩
theorem NM.lfr {n : Nat} {l : List Rat} {v : Value} {G : Gh} (h : (NM n l).t v G) : (LFR (l.map FR.of)).t v G:=LS.convM (T:=QC n) (U:=RX) (f:=FR.of) h (by simp) fun x hx v G hv=>FX.toRX (QC.toFX hv (QC.one hv))
instance NR.nm {n : Nat} {l : List Rat} : NR (LS (some 3) (l.map (QC n))) (LS (some 3) ((l.map FR.of).map RX)):=⟨NM.lfr⟩
instance NR.rts {n : Nat} {rs : List (List Rat)} : NR (LS none (rs.map (NM n))) (LS none ((rs.map (List.map FR.of)).map LFR)):=⟨fun h=>LS.convM (T:=NM n) (U:=LFR) (f:=List.map FR.of) h (by simp) fun x hx v G hv=>NM.lfr hv⟩
theorem PTS.lenL {α : Type} {T : α → MT} {xs : List α} {v : Value} {G : Gh} (h : (PTS [(none,LS none (xs.map T))]).t v G) : xs.length ≤ LIM:=by
  obtain ⟨us,_,hl,hE⟩:=h
  match us,hl with
  | u :: us,_=>exact LS.lenM (hE 0 _ u rfl rfl).2
end Go.Proofs.YtnjbcjmkkejfpaaGreat
set_option linter.unusedVariables false
set_option linter.unusedSimpArgs false
namespace Go.Proofs.YtnjbcjmkkejfpaaGreat
open Go.RowKit (Below)
def MT.tup4 (a b c d : MT) : MT:=⟨fun v G=>∃ x y z u,v = .tuple #[x,y,z,u] ∧ a.t x G ∧ b.t y G ∧ c.t z G ∧ d.t u G,fun hle ⟨x,y,z,u,h,h1,h2,h3,h4⟩=>⟨x,y,z,u,h,a.mono hle h1,b.mono hle h2,c.mono hle h3,d.mono hle h4⟩⟩
def MT.tup5 (a b c d e : MT) : MT:=⟨fun v G=>∃ x y z u s,v = .tuple #[x,y,z,u,s] ∧ a.t x G ∧ b.t y G ∧ c.t z G ∧ d.t u G ∧ e.t s G,fun hle ⟨x,y,z,u,s,h,h1,h2,h3,h4,h5⟩=>⟨x,y,z,u,s,h,a.mono hle h1,b.mono hle h2,c.mono hle h3,d.mono hle h4,e.mono hle h5⟩⟩
section
variable {P : Program} {L : List (Nat × MT)} {B : List BX} {x : Operand} {τ1 τ2 τ3 τ4 τ5 : MT} {u : List Nat}
instance Op1.ex40 [h : Opd L x (.tup4 τ1 τ2 τ3 τ4) u] : Op1 P L B (.extract x 0) True τ1 u:=⟨fun ho hok e _ _=>by
  obtain ⟨a,b,c,d,h,h1,h2,h3,h4⟩:=h.h e
  exact .run hok (by simp [execOp,ho,h,Instr.extract]) h1⟩
instance Op1.ex41 [h : Opd L x (.tup4 τ1 τ2 τ3 τ4) u] : Op1 P L B (.extract x 1) True τ2 u:=⟨fun ho hok e _ _=>by
  obtain ⟨a,b,c,d,h,h1,h2,h3,h4⟩:=h.h e
  exact .run hok (by simp [execOp,ho,h,Instr.extract]) h2⟩
instance Op1.ex42 [h : Opd L x (.tup4 τ1 τ2 τ3 τ4) u] : Op1 P L B (.extract x 2) True τ3 u:=⟨fun ho hok e _ _=>by
  obtain ⟨a,b,c,d,h,h1,h2,h3,h4⟩:=h.h e
  exact .run hok (by simp [execOp,ho,h,Instr.extract]) h3⟩
instance Op1.ex43 [h : Opd L x (.tup4 τ1 τ2 τ3 τ4) u] : Op1 P L B (.extract x 3) True τ4 u:=⟨fun ho hok e _ _=>by
  obtain ⟨a,b,c,d,h,h1,h2,h3,h4⟩:=h.h e
  exact .run hok (by simp [execOp,ho,h,Instr.extract]) h4⟩
instance Op1.ex50 [h : Opd L x (.tup5 τ1 τ2 τ3 τ4 τ5) u] : Op1 P L B (.extract x 0) True τ1 u:=⟨fun ho hok e _ _=>by
  obtain ⟨a,b,c,d,f,h,h1,h2,h3,h4,h5⟩:=h.h e
  exact .run hok (by simp [execOp,ho,h,Instr.extract]) h1⟩
instance Op1.ex51 [h : Opd L x (.tup5 τ1 τ2 τ3 τ4 τ5) u] : Op1 P L B (.extract x 1) True τ2 u:=⟨fun ho hok e _ _=>by
  obtain ⟨a,b,c,d,f,h,h1,h2,h3,h4,h5⟩:=h.h e
  exact .run hok (by simp [execOp,ho,h,Instr.extract]) h2⟩
instance Op1.ex52 [h : Opd L x (.tup5 τ1 τ2 τ3 τ4 τ5) u] : Op1 P L B (.extract x 2) True τ3 u:=⟨fun ho hok e _ _=>by
  obtain ⟨a,b,c,d,f,h,h1,h2,h3,h4,h5⟩:=h.h e
  exact .run hok (by simp [execOp,ho,h,Instr.extract]) h3⟩
instance Op1.ex53 [h : Opd L x (.tup5 τ1 τ2 τ3 τ4 τ5) u] : Op1 P L B (.extract x 3) True τ4 u:=⟨fun ho hok e _ _=>by
  obtain ⟨a,b,c,d,f,h,h1,h2,h3,h4,h5⟩:=h.h e
  exact .run hok (by simp [execOp,ho,h,Instr.extract]) h4⟩
instance Op1.ex54 [h : Opd L x (.tup5 τ1 τ2 τ3 τ4 τ5) u] : Op1 P L B (.extract x 4) True τ5 u:=⟨fun ho hok e _ _=>by
  obtain ⟨a,b,c,d,f,h,h1,h2,h3,h4,h5⟩:=h.h e
  exact .run hok (by simp [execOp,ho,h,Instr.extract]) h5⟩
end
theorem rv_4 {fn : Func} {r r2 r3 r4 : ResultVar} (hr : fn.results = #[r,r2,r3,r4]) {tmps : Array Value} {P : Program} {w : World} {v v2 v3 v4 : Value} (h : (rvRun r tmps).run P w = .ok v w) (h2 : (rvRun r2 tmps).run P w = .ok v2 w) (h3 : (rvRun r3 tmps).run P w = .ok v3 w) (h4 : (rvRun r4 tmps).run P w = .ok v4 w) : (results fn tmps).run P w = .ok (.tuple #[v,v2,v3,v4]) w:=by
  rw [results_rv];simp [hr,h,h2,h3,h4]
section
variable {P : Program} {B : List BX} {L : List (Nat × MT)} {W0 : World} {G0 : Gh} {N : Nat} {a : Act} {w : World} {G : Gh} {fn : Func} {τ1 τ2 τ3 τ4 τ5 ρ1 ρ2 ρ3 ρ4 ρ5 : MT} {p1 p2 p3 p4 p5 : Prop}
theorem W.rt4 {r r2 r3 r4 : ResultVar} (hr : fn.results = #[r,r2,r3,r4]) [h : Rs1 P L B r τ1] [c : Cv τ1 ρ1 p1] [h2 : Rs1 P L B r2 τ2] [c2 : Cv τ2 ρ2 p2] [h3 : Rs1 P L B r3 τ3] [c3 : Cv τ3 ρ3 p3] [h4 : Rs1 P L B r4 τ4] [c4 : Cv τ4 ρ4 p4] (q1 : p1) (q2 : p2) (q3 : p3) (q4 : p4) : St W0 G0 N L B a w G → bodyPost P fn (Ret W0 G0 (.tup4 ρ1 ρ2 ρ3 ρ4)) .ret a w:=fun S=>by
  obtain ⟨v,f1,e1⟩:=h.h (fun u=>S.env u) (fun u=>S.bok u)
  obtain ⟨v2,f2,e2⟩:=h2.h (fun u=>S.env u) (fun u=>S.bok u)
  obtain ⟨v3,f3,e3⟩:=h3.h (fun u=>S.env u) (fun u=>S.bok u)
  obtain ⟨v4,f4,e4⟩:=h4.h (fun u=>S.env u) (fun u=>S.bok u)
  exact bodyPost_ret (rv_4 hr e1 e2 e3 e4) S.dfr ⟨_,G,rfl,⟨v,v2,v3,v4,rfl,c.h q1 f1,c2.h q2 f2,c3.h q3 f3,c4.h q4 f4⟩,S.nxt⟩
end
end Go.Proofs.YtnjbcjmkkejfpaaGreat
set_option linter.unusedVariables false
set_option linter.unusedSimpArgs false
namespace Go.Proofs.YtnjbcjmkkejfpaaGreat
open Go.RowKit (Below)
class Drp (L : List (Nat × MT)) (ws : List Nat) (L' : outParam (List (Nat × MT))) : Prop where
  h : ∀ p ∈ L',p ∈ L
instance Drp.nil {ws : List Nat} : Drp [] ws []:=⟨fun _ h=>h⟩
instance Drp.hd {L L' : List (Nat × MT)} {ws : List Nat} {t : Nat} {τ : MT} [In ws t] [h : Drp L ws L'] : Drp ((t,τ) :: L) ws L':=⟨fun p hp=>.tail _ (h.h p hp)⟩
instance (priority:=500) Drp.tl {L L' : List (Nat × MT)} {ws : List Nat} {x : Nat × MT} [h : Drp L ws L'] : Drp (x :: L) ws (x :: L'):=⟨fun p hp=>by
  rcases List.mem_cons.1 hp with e | e
  · subst e;exact .head _
  · exact .tail _ (h.h p e)⟩
class GcT (f id : Nat) (k : Bool) (t : outParam Nat) (ws : outParam (List Nat)) : Prop
section
variable {P : Program} {B : List BX} {L L' : List (Nat × MT)} {W0 : World} {G0 : Gh} {N : Nat} {a : Act} {w : World} {G : Gh} {Q : Exit → Act → World → Prop} {c c1 : Code} {τ0 : MT} {bd : Bool} {l : Array Oper}
theorem W.gcc (f : Nat) {id t : Nat} {ws : List Nat} [g : GcT f id false t ws] [Lk L t τ0] [d : Drp L (t :: ws) L'] (h : St W0 G0 N L' B a w G → (Code.seq (.region id l bd) c).wp P Q a w) : St W0 G0 N L B a w G → (Code.seq (.region id l bd) c).wp P Q a w:=fun S=>h (S.only d.h)
theorem W.gcd (f : Nat) {id t : Nat} {ws : List Nat} [g : GcT f id true t ws] [Lk L t τ0] [d : Drp L (t :: ws) L'] (h : St W0 G0 N L' B a w G → (Code.seq (.block id c1) c).wp P Q a w) : St W0 G0 N L B a w G → (Code.seq (.block id c1) c).wp P Q a w:=fun S=>h (S.only d.h)
end
end Go.Proofs.YtnjbcjmkkejfpaaGreat
set_option linter.unusedVariables false
set_option linter.unusedSimpArgs false
set_option maxHeartbeats 4000000
set_option maxRecDepth 100000
set_option synthInstance.maxSize 100000
set_option synthInstance.maxHeartbeats 400000
namespace Go.Proofs.YtnjbcjmkkejfpaaGreat
open Go.RowKit (Below)
attribute [local irreducible] Go.Code.wp Go.wpList Go.bodyPost
theorem vl1 {p x y : Rat} : vlL [[p]] [x,y] = RR.of x + RR.of y * rt p:=by
  rw [El.vl_at (k:=1) (l:=[x,y]) (by decide) (Nat.le_refl 2)]
  rfl
theorem sg1 {p x y : Rat} (hp : 0 ≤ p) : sgL [[p]] [x,y] = surdF x y p:=by
  unfold sgL;rw [vl1,surd_sg hp]
theorem tok1 {p : Rat} (hp : 0 ≤ p) : TOK [[p]]:=by
  refine ⟨show 1 ≤ 5 by decide,fun j hj=>?_,fun j hj=>?_⟩
  · match j,hj with
    | 0,_=>rfl
  · match j,hj with
    | 0,_ =>
      show 0 ≤ vlL [[p]] [p]
      rw [El.vl_at (k:=0) (l:=[p]) (by decide) (Nat.le_refl 1)]
      exact RR.of_le (p:=0) |>.2 hp
theorem pw2 {k : Nat} (h : 1 ≤ k) {x y : Rat} : PW k [x,y]:=.inr ⟨1,h,rfl⟩
theorem pw1k {k : Nat} {x : Rat} : PW k [x]:=.inr ⟨0,Nat.zero_le _,rfl⟩
theorem sB1 {x r : Nat} : sB 1 x r = 4 * x + r + 1:=by simp only [sB,tB];omega
def sinA (g a b c : FR) (k : Rat) : Rat:=((b.val + c.val - (g.val + a.val)) * (b.val + c.val - (g.val + a.val)) + k * k * (4 * (a.val * g.val))) / (4 * (b.val * c.val))
def sinB (g a b c : FR) (k : Rat) : Rat:=(b.val + c.val - (g.val + a.val)) * k / (b.val * c.val)
def sinL (g a b c : FR) (k : Rat) : List Rat:=[1 - sinA g a b c k,-sinB g a b c k]
def sinC (g a b c k : FR) : Int:=if gapC g a b c k = 0 then (if nearF g a b c k.val < 0 ∨ farF g a b c k.val < 0 then 16 else 0) else gapC g a b c k
def midF (g a b c : FR) : Rat:=b.val + c.val - (g.val + a.val)
def atF (g a b c : FR) : Int:=if (midF g a b c).num.sign < 0 then -1 else 1
def rgtF (g a b c : FR) : Bool:=decide (cmpQ (midF g a b c * midF g a b c) (4 * (a.val * g.val)) ≤ 0)
def fulC (g a b c : FR) : Int:=if chkF [g,a,b,c] = 0 then (if fullF g a b c then 0 else 16) else chkF [g,a,b,c]
def leaL (g a b c : FR) : List Rat:=if fulC g a b c = 0 then sinL g a b c ((atF g a b c : Int) : Rat) else []
def mosL (g a b c : FR) : List Rat:=if fulC g a b c = 0 then (if rgtF g a b c then [1,0] else sinL g a b c ((-atF g a b c : Int) : Rat)) else []
def twoA (g a b c : FR) : List (List Rat):=if fulC g a b c = 0 then [[a.val * g.val]] else []
def alsC (g a b c m : FR) : Int:=if chkF [g,a,b,c] = 0 then (if m.ok then fulC g a b c else 2) else chkF [g,a,b,c]
noncomputable def alsF (g a b c m : FR) : Bool:=decide (alsC g a b c m = 0) && decide (sgL [[a.val * g.val]] (plusF (leaL g a b c) (minusF (shoF [m.val]))) ≥ 0)
def rigF (g a b c : FR) : Int:=if fulC g a b c = 0 then (if rgtF g a b c then 0 else (midF g a b c).num.sign) else 0
attribute [local irreducible] plusF minusF joinF levI lev PW RLN tB sB timesF stepF tmF normF shoF TOK sgL surdsF surdF chkF gapC fullF nearF farF
attribute [local irreducible] sinC fulC leaL mosL alsC alsF rigF rgtF atF twoA sinA sinB sinL
end Go.Proofs.YtnjbcjmkkejfpaaGreat
set_option linter.unusedVariables false
set_option linter.unusedSimpArgs false
set_option maxHeartbeats 4000000
set_option maxRecDepth 100000
set_option synthInstance.maxSize 100000
set_option synthInstance.maxHeartbeats 400000
namespace Go.Proofs.YtnjbcjmkkejfpaaGreat
open Go.RowKit (Below)
attribute [local irreducible] Go.Code.wp Go.wpList Go.bodyPost
theorem nsg (x : Rat) : x.num.sign < 0 ↔ x < 0:=by
  have h1:=@rat_pos_iff x;have h2:=@Rat.num_eq_zero x;have h3:=sgn_cases x.num
  constructor
  · intro h;have : ¬ 0 < x:=fun k=>by have:=h1.1 k;omega
    have : x ≠ 0:=fun e=>by have:=h2.2 e;omega
    grind
  · intro h;have : ¬ 0 < x.num:=fun k=>by have:=h1.2 k;grind
    have : x.num ≠ 0:=fun e=>by have:=h2.1 e;grind
    omega
attribute [local irreducible] plusF minusF joinF levI lev PW RLN tB sB timesF stepF tmF normF TOK sgL surdsF chkF gapC fullF
theorem shF_t {l : List FR} {j : Nat} (hj : j < l.length) (h : (decide ((((l.getD j default).p.length : Nat) : Int) > 2) || decide ((((l.getD j default).q.length : Nat) : Int) > 2)) = true) : shortF l = false:=by
  unfold shortF
  rw [all_not hj (p:=shortR) (by simp only [Bool.or_eq_true,decide_eq_true_eq] at h;exact shortR_not (by omega)),Bool.false_and]
theorem shR_f {r : FR} (h : (decide (((r.p.length : Nat) : Int) > 2) || decide (((r.q.length : Nat) : Int) > 2)) = false) : shortR r = true:=by
  simp only [Bool.or_eq_false_iff,decide_eq_false_iff_not] at h
  exact shortR_of (by omega) (by omega)
theorem shF_e {l : List FR} {j : Nat} (hj : ¬ j < l.length) (h : (l.take j).all shortR = true) : decide (((l.length : Nat) : Int) < 60) = shortF l:=by
  unfold shortF;rw [all_end hj h,Bool.true_and];exact decide_eq_decide.2 (by omega)
theorem w32 {l : List FR} : Con Tryz.prog 32 [LS (some 3) (l.map RX)] (True) (BT (shortF l)):=.o1 fun hok h1 hp=>by
  refine St.enter (N:=25) Tryz.func32 rfl rfl rfl hok (enter1 h1) fun a=>?_
  have hlim:=LS.lenM h1
  simp only [LIM] at hlim
  repeat' (first|((with_reducible refine gS_ ?_);first|((with_reducible refine gL_ ?_);first|refine W.run ?_ fun a w G=>?_|refine W.mv fun a w G=>?_|refine W.asg fun a w G=>?_|refine W.bx fun b a w G=>?_|(refine W.nn hK ?_;clear hK K)|refine W.nl ?_|refine W.al fun b a w G=>?_|refine W.st fun w=>?_|refine W.stp fun w=>?_|refine W.ste ?_ fun w=>?_)|((with_reducible refine gC_ ?_);first|refine W.reg fun K hK=>?_|refine W.reg1 ?_|refine W.sq fun K hK=>?_|refine W.ds ?_ (fun β a w G hu=>W.fin ?_ hu) mixedOrders (by kernel_rfl)|refine W.sk ?_|refine W.cd (fun hc=>?_) (fun hc=>?_)|refine W.cb (fun hc=>?_) (fun hc=>?_)|refine W.bl ?_|refine W.ex ?_|refine W.rt ?_)|((with_reducible refine W.kn hK ?_);clear hK K)|(with_reducible first|refine W.bn ?_|refine W.xt ?_|refine W.xb ?_|refine W.xo ?_|refine W.tr ?_|refine W.br ?_)|refine W.rt1 rfl ?_|refine W.rt2 rfl ?_ ?_|refine W.rt3 rfl ?_ ?_ ?_)|refine W.lp 8 (α:=Nat) (fun j=>l.length - j) (fun j=>j ≤ l.length ∧ (l.take j).all shortR = true) [2,4,7,8,9,10,11,12,13,14,15,16,17,18,19,20,21] (fun j=>[(7,NT j)]) (fun j=>[]) (0) ?_ ?_ ?_ fun j hj a w G=>?_|refine W.ag (x:=j) (j+1) ?_ ?_ ?_ ?_|clear hK K|clear hu|exact True.intro|exact Nat.le_trans (by clear hp;omega) hp|exact Nat.le_trans (by clear hp;omega) hp.1|exact Nat.le_trans (by clear hp;omega) hp.2|(clear hp;omega)|apply And.intro|refine GI.i fun _=>?_|with_reducible rfl|decide|(simp only [List.length_cons,List.length_nil];omega))
  all_goals first
    | omega
    | rfl
    | exact (shF_t (by omega) hc).symm
    | exact all_snoc (by omega) hj.2 (shR_f hc)
    | exact shF_e (by omega) hj.2
    | skip
instance {l : List FR} {τ1 : MT} [j1 : NR τ1 (LS (some 3) (l.map RX))] : Con Tryz.prog 32 [τ1] (True) (BT (shortF l)):=.o1 fun hok h1 hp=>w32.c1 hok (j1.h h1) hp
end Go.Proofs.YtnjbcjmkkejfpaaGreat
set_option linter.unusedVariables false
set_option linter.unusedSimpArgs false
set_option maxHeartbeats 4000000
set_option maxRecDepth 100000
set_option synthInstance.maxSize 100000
set_option synthInstance.maxHeartbeats 400000
namespace Go.Proofs.YtnjbcjmkkejfpaaGreat
open Go.RowKit (Below)
attribute [local irreducible] Go.Code.wp Go.wpList Go.bodyPost
abbrev QVP (p : Nat × Rat) : MT:=QV p.1 p.2
instance AsT.qvp {n : Nat} {z : Rat} : AsT (QV n z) QVP (n,z):=⟨fun h=>h⟩
instance AsT.qvz : AsT (FX 1 default) QVP (1,0):=⟨fun h=>FX.toQV h⟩
class NP (τ : MT) (τ' : outParam MT) : Prop where
  h : ∀ {v : Value} {G : Gh},τ.t v G → τ'.t v G
instance NP.p {τ1 τ2 : MT} {n m : Nat} {x y : Rat} [h1 : NQ τ1 (QV n x)] [h2 : NQ τ2 (QV m y)] : NP (LSC (some 3) [τ1,τ2]) (LS (some 3) (([(n,x),(m,y)] : List (Nat × Rat)).map QVP)):=⟨fun h=>LS.els h.1 rfl fun i τ σ e1 e2 _ hv=>by
  match i,e1,e2 with
  | 0,e1,e2=>cases e1;cases e2;exact h1.h hv
  | 1,e1,e2=>cases e1;cases e2;exact h2.h hv⟩
instance Op1.ixLi {P : Program} {L : List (Nat × MT)} {B : List BX} {t : TypeId} {x y : Operand} {τs : List MT} {xs : List Nat} {j : Nat} {u v : List Nat} [s : SlE P t none] [h : Opd L x (LSC none τs) u] [l : AsTL τs NT xs] [h2 : Opd L y (NT j) v] : Op1 P L B (.indexAddr t x y) (j < xs.length) (PE none (NT (xs.getD j default))) (u ++ v):=⟨fun ho hok e hB hp=>by
  obtain ⟨e',h3,h4⟩:=s.h
  exact .ixM hok ho h3 h4 (l.ls (h.h e.l).1) (h2.h e.r) (i:=j) rfl hp⟩
instance {ps : List (Nat × Rat)} : Con Tryz.prog 128 [LS (some 3) (ps.map QVP)] (ps.length = 2 ∧ (ps.getD 0 default).1 + (ps.getD 1 default).1 + 1 ≤ BIG) (MT.tup2 (QC ((ps.getD 0 default).1 + (ps.getD 1 default).1 + 1) ((ps.getD 0 default).2 + (ps.getD 1 default).2)) (QC ((ps.getD 0 default).1 + (ps.getD 1 default).1) ((ps.getD 0 default).2 * (ps.getD 1 default).2))):=.o1 fun hok h1 hp=>by
  refine St.enter (N:=18) Tryz.func128 rfl rfl rfl hok (enter1 h1) fun a=>?_
  repeat' (first|((with_reducible refine gS_ ?_);first|((with_reducible refine gL_ ?_);first|refine W.run ?_ fun a w G=>?_|refine W.mv fun a w G=>?_|refine W.asg fun a w G=>?_|refine W.bx fun b a w G=>?_|(refine W.nn hK ?_;clear hK K)|refine W.nl ?_|refine W.al fun b a w G=>?_|refine W.st fun w=>?_|refine W.stp fun w=>?_|refine W.ste ?_ fun w=>?_)|((with_reducible refine gC_ ?_);first|refine W.reg fun K hK=>?_|refine W.reg1 ?_|refine W.sq fun K hK=>?_|refine W.ds ?_ (fun β a w G hu=>W.fin ?_ hu) mixedOrders (by kernel_rfl)|refine W.sk ?_|refine W.cd (fun hc=>?_) (fun hc=>?_)|refine W.cb (fun hc=>?_) (fun hc=>?_)|refine W.bl ?_|refine W.ex ?_|refine W.rt ?_)|((with_reducible refine W.kn hK ?_);clear hK K)|(with_reducible first|refine W.bn ?_|refine W.xt ?_|refine W.xb ?_|refine W.xo ?_|refine W.tr ?_|refine W.br ?_)|refine W.rt1 rfl ?_|refine W.rt2 rfl ?_ ?_|refine W.rt3 rfl ?_ ?_ ?_)|clear hK K|clear hu|exact True.intro|exact Nat.le_trans (by clear hp;omega) hp|exact Nat.le_trans (by clear hp;omega) hp.1|exact Nat.le_trans (by clear hp;omega) hp.2|(clear hp;omega)|apply And.intro|refine GI.i fun _=>?_|with_reducible rfl|decide|(simp only [List.length_cons,List.length_nil];omega))
  all_goals first | omega | rfl | skip
theorem w130 {n m k : Nat} {x d f : Rat} : Con Tryz.prog 130 [QV n x,QV m d,QV k f] (8 * n + 8 * m + 8 * k + 1000 ≤ BIG) (IT (rootsF x d f)):=.o3 fun hok h1 h2 h3 hp=>by
  refine St.enter (N:=36) Tryz.func130 rfl rfl rfl hok (enter3 h1 h2 h3) fun a=>?_
  repeat' (first|((with_reducible refine gS_ ?_);first|((with_reducible refine gL_ ?_);first|refine W.run ?_ fun a w G=>?_|refine W.mv fun a w G=>?_|refine W.asg fun a w G=>?_|refine W.bx fun b a w G=>?_|(refine W.nn hK ?_;clear hK K)|refine W.nl ?_|refine W.al fun b a w G=>?_|refine W.st fun w=>?_|refine W.stp fun w=>?_|refine W.ste ?_ fun w=>?_)|((with_reducible refine gC_ ?_);first|refine W.reg fun K hK=>?_|refine W.reg1 ?_|refine W.sq fun K hK=>?_|refine W.ds ?_ (fun β a w G hu=>W.fin ?_ hu) mixedOrders (by kernel_rfl)|refine W.sk ?_|refine W.cd (fun hc=>?_) (fun hc=>?_)|refine W.cb (fun hc=>?_) (fun hc=>?_)|refine W.bl ?_|refine W.ex ?_|refine W.rt ?_)|((with_reducible refine W.kn hK ?_);clear hK K)|(with_reducible first|refine W.bn ?_|refine W.xt ?_|refine W.xb ?_|refine W.xo ?_|refine W.tr ?_|refine W.br ?_)|refine W.rt1 rfl ?_|refine W.rt2 rfl ?_ ?_|refine W.rt3 rfl ?_ ?_ ?_)|clear hK K|clear hu|exact True.intro|exact Nat.le_trans (by clear hp;omega) hp|exact Nat.le_trans (by clear hp;omega) hp.1|exact Nat.le_trans (by clear hp;omega) hp.2|(clear hp;omega)|apply And.intro|refine GI.i fun _=>?_|with_reducible rfl|decide|(simp only [List.length_cons,List.length_nil];omega))
  all_goals first
    | omega
    | (unfold rootsF;rw [if_pos (by assumption)])
    | (unfold rootsF;rw [if_neg (by assumption)])
    | skip
instance {n m k : Nat} {x d f : Rat} {τ1 : MT} [j1 : NQ τ1 (QV n x)] {τ2 : MT} [j2 : NQ τ2 (QV m d)] {τ3 : MT} [j3 : NQ τ3 (QV k f)] : Con Tryz.prog 130 [τ1,τ2,τ3] (8 * n + 8 * m + 8 * k + 1000 ≤ BIG) (IT (rootsF x d f)):=.o3 fun hok h1 h2 h3 hp=>w130.c3 hok (j1.h h1) (j2.h h2) (j3.h h3) hp
instance {n1 n2 : Nat} {p q : Rat} : Con Tryz.prog 129 [LS (some 3) (([(n1,p),(n2,q)] : List (Nat × Rat)).map QVP)] (True) (LS (some 3) (([(n1,p),(n2,q)] : List (Nat × Rat)).map QVP)):=.o1 fun hok h1 hp=>by
  refine St.enter (N:=11) Tryz.func129 rfl rfl rfl hok (enter1 h1) fun a=>?_
  have own6 : OwnAt 6:=⟨⟩
  repeat' (first|((with_reducible refine gS_ ?_);first|((with_reducible refine gL_ ?_);first|refine W.run ?_ fun a w G=>?_|refine W.mv fun a w G=>?_|refine W.asg fun a w G=>?_|refine W.bx fun b a w G=>?_|(refine W.nn hK ?_;clear hK K)|refine W.nl ?_|refine W.al fun b a w G=>?_|refine W.st fun w=>?_|refine W.stp fun w=>?_|refine W.ste ?_ fun w=>?_)|((with_reducible refine gC_ ?_);first|refine W.reg fun K hK=>?_|refine W.reg1 ?_|refine W.sq fun K hK=>?_|refine W.ds ?_ (fun β a w G hu=>W.fin ?_ hu) mixedOrders (by kernel_rfl)|refine W.sk ?_|refine W.cd (fun hc=>?_) (fun hc=>?_)|refine W.cb (fun hc=>?_) (fun hc=>?_)|refine W.bl ?_|refine W.ex ?_|refine W.rt ?_)|((with_reducible refine W.kn hK ?_);clear hK K)|(with_reducible first|refine W.bn ?_|refine W.xt ?_|refine W.xb ?_|refine W.xo ?_|refine W.tr ?_|refine W.br ?_)|refine W.rt1 rfl ?_|refine W.rt2 rfl ?_ ?_|refine W.rt3 rfl ?_ ?_ ?_)|refine W.bso QVP ?_ fun b a w G=>?_|refine W.cp ?_ fun a w G=>?_|refine W.fz 2 ?_ fun G=>?_|clear hK K|clear hu|exact True.intro|exact Nat.le_trans (by clear hp;omega) hp|exact Nat.le_trans (by clear hp;omega) hp.1|exact Nat.le_trans (by clear hp;omega) hp.2|(clear hp;omega)|apply And.intro|refine GI.i fun _=>?_|with_reducible rfl|decide|(simp only [List.length_cons,List.length_nil];omega))
  all_goals first | omega | rfl | skip
theorem w91 {n1 n2 n3 n4 : Nat} {p q r s : Rat} : Con Tryz.prog 91 [LS (some 3) (([(n1,p),(n2,q)] : List (Nat × Rat)).map QVP),LS (some 3) (([(n3,r),(n4,s)] : List (Nat × Rat)).map QVP)] (50 * (n1 + n2 + n3 + n4) + 2000 ≤ BIG) (IT (compareF [p,q] [r,s])):=.o2 fun hok h1 h2 hp=>by
  refine St.enter (N:=27) Tryz.func91 rfl rfl rfl hok (enter2 h1 h2) fun a=>?_
  repeat' (first|((with_reducible refine gS_ ?_);first|((with_reducible refine gL_ ?_);first|refine W.run ?_ fun a w G=>?_|refine W.mv fun a w G=>?_|refine W.asg fun a w G=>?_|refine W.bx fun b a w G=>?_|(refine W.nn hK ?_;clear hK K)|refine W.nl ?_|refine W.al fun b a w G=>?_|refine W.st fun w=>?_|refine W.stp fun w=>?_|refine W.ste ?_ fun w=>?_)|((with_reducible refine gC_ ?_);first|refine W.reg fun K hK=>?_|refine W.reg1 ?_|refine W.sq fun K hK=>?_|refine W.ds ?_ (fun β a w G hu=>W.fin ?_ hu) mixedOrders (by kernel_rfl)|refine W.sk ?_|refine W.cd (fun hc=>?_) (fun hc=>?_)|refine W.cb (fun hc=>?_) (fun hc=>?_)|refine W.bl ?_|refine W.ex ?_|refine W.rt ?_)|((with_reducible refine W.kn hK ?_);clear hK K)|(with_reducible first|refine W.bn ?_|refine W.xt ?_|refine W.xb ?_|refine W.xo ?_|refine W.tr ?_|refine W.br ?_)|refine W.rt1 rfl ?_|refine W.rt2 rfl ?_ ?_|refine W.rt3 rfl ?_ ?_ ?_)|clear hK K|clear hu|exact True.intro|exact Nat.le_trans (by clear hp;omega) hp|exact Nat.le_trans (by clear hp;omega) hp.1|exact Nat.le_trans (by clear hp;omega) hp.2|(clear hp;omega)|apply And.intro|refine GI.i fun _=>?_|with_reducible rfl|decide|(simp only [List.length_cons,List.length_nil];omega))
  all_goals first | omega | (simp only [List.getD_cons_zero,List.getD_cons_succ];omega) | rfl | skip
instance {n1 n2 n3 n4 : Nat} {p q r s : Rat} {τ1 : MT} [j1 : NP τ1 (LS (some 3) (([(n1,p),(n2,q)] : List (Nat × Rat)).map QVP))] {τ2 : MT} [j2 : NP τ2 (LS (some 3) (([(n3,r),(n4,s)] : List (Nat × Rat)).map QVP))] : Con Tryz.prog 91 [τ1,τ2] (50 * (n1 + n2 + n3 + n4) + 2000 ≤ BIG) (IT (compareF [p,q] [r,s])):=.o2 fun hok h1 h2 hp=>w91.c2 hok (j1.h h1) (j2.h h2) hp
instance Op1.remI {P : Program} {L : List (Nat × MT)} {B : List BX} {t t' : TypeId} {x y : Operand} {z : Int} {m : Nat} {z' : Int} {u v : List Nat} [h : Opd L x (IT z) u] [h2 : Opd L y (IT z') v] [l' : LitN z' m] : Op1 P L B (.binOp .rem t x y t') (m ≠ 0 ∧ 0 ≤ z) (NT (z.toNat % m)) (u ++ v):=⟨fun ho hok e hB hp=>by
  have h3:=h.h e.l
  have h4:=h2.h e.r
  obtain ⟨k,rfl⟩:=Int.eq_ofNat_of_zero_le hp.2
  have l3:=l'.h
  subst l3
  exact OpR.nrem hok ho h3 h4 hp.1 rfl⟩
end Go.Proofs.YtnjbcjmkkejfpaaGreat
namespace Go.Proofs.YtnjbcjmkkejfpaaGreat
def dirC (h : Bool) (t : Rat) : Rat:=if h then -1 else (1 - t * t) / (1 + t * t)
def dirS (h : Bool) (t : Rat) : Rat:=if h then 0 else (t + t) / (1 + t * t)
theorem one_sq (t : Rat) : 1 + t * t ≠ 0:=by
  have : 0 ≤ t * t:=by
    rcases (Rat.le_total : 0 ≤ t ∨ t ≤ 0) with h | h
    · exact Rat.mul_nonneg h h
    · have:=Rat.mul_nonneg (show 0 ≤ -t by grind) (show 0 ≤ -t by grind);grind
  grind
def wayX (g a : Rat) (h : Bool) (t : Rat) : Rat:=g - a * dirC h t
def wayY (a : Rat) (h : Bool) (t : Rat) : Rat:=-(a * dirS h t)
def d2F (x y : Rat) : Rat:=x * x + y * y
def discF (b c d : Rat) : Rat:=4 * (b * c) - (b + c - d) * (b + c - d)
def dsc (g a b c : FR) (h : Bool) (t : Rat) : Rat:=discF b.val c.val (d2F (wayX g.val a.val h t) (wayY a.val h t))
def trnF (h : Bool) (t : FR) : Bool:=t.ok && (!h || decide (t.val.num.sign = 0))
def trnC (h : Bool) (t : FR) : Int:=if trnF h t then 0 else 2
def barC (l : List FR) : Int:=if l.all posR then 0 else 3
def sqF (g a b c : FR) : List FR:=[FR.of (g.val * g.val),FR.of (a.val * a.val),FR.of b.val,FR.of c.val]
def ciF (g a b c : FR) : Int:=if barC [g,a,b,c] = 0 then (if chkF (sqF g a b c) = 0 then (if g.val = a.val ∧ b.val = c.val then 15 else 0) else 16) else 3
def enR (g a b c : FR) : Int:=if ciF g a b c = 0 then (dsc g a b c false 0).num.sign else 0
def enL (g a b c : FR) : Int:=if ciF g a b c = 0 then (dsc g a b c true 0).num.sign else 0
def cirF (r l : Int) : List (Bool × Bool × Int) :=
  if r > 0 ∧ l > 0 then [(true,false,1),(true,false,-1)] else if r ≥ 0 ∧ l ≥ 0 then [(true,false,0)] else if r ≥ 0 ∨ l ≥ 0 then [(false,false,0)] else [(false,true,0),(false,false,0)]
def cirs (g a b c : FR) : List (Bool × Bool × Int):=if ciF g a b c = 0 then cirF (enR g a b c) (enL g a b c) else []
def btC (l : List FR) (h : Bool) (t : FR) : Int:=if barC l = 0 then trnC h t else 3
def exK (A B C D E : Bool) : Bool:=(A && B) || C || !(D == E)
def exC (g a b c : FR) (h : Bool) (t : FR) (m : Int) : Int :=
  if exK (decide (cmpQ (a.val * dirC h t.val) g.val = 0)) (decide ((a.val * dirS h t.val).num.sign = 0)) (decide ((dsc g a b c h t.val).num.sign < 0)) (decide ((dsc g a b c h t.val).num.sign = 0)) (decide (m = 0)) then 16 else 0
def ofC (g a b c : FR) (h : Bool) (t : FR) (m : Int) : Int:=if ciF g a b c = 0 then (if trnF h t then (if m < -1 ∨ m > 1 then 3 else exC g a b c h t m) else 2) else ciF g a b c
def ofK (l : List (Bool × Bool × Int)) (t : FR) (m : Int) : Bool:=((l.getD 0 default).1 && decide (m = -1)) || (!(l.getD 0 default).1 && decide (t.val.num.sign < 0))
def ofI (g a b c : FR) (h : Bool) (t : FR) (m : Int) : Int:=if ofC g a b c h t m = 0 then (if (cirs g a b c).length = 1 then 0 else if ofK (cirs g a b c) t m then 1 else 0) else 0
theorem trn_0 {h : Bool} {t : FR} (ht : trnF h t = true) : trnC h t = 0:=by unfold trnC;rw [if_pos ht]
theorem cmpQ_eq0 {x y : Rat} : cmpQ x y = 0 ↔ x = y:=by unfold cmpQ;split <;> (try split) <;> simp_all <;> grind
end Go.Proofs.YtnjbcjmkkejfpaaGreat
set_option linter.unusedVariables false
set_option linter.unusedSimpArgs false
set_option maxHeartbeats 4000000
set_option maxRecDepth 100000
set_option synthInstance.maxSize 100000
set_option synthInstance.maxHeartbeats 400000
namespace Go.Proofs.YtnjbcjmkkejfpaaGreat
open Go.RowKit (Below)
attribute [local irreducible] Go.Code.wp Go.wpList Go.bodyPost
theorem zv0 : (default : FR).val = 0:=rfl
abbrev TRN (n : Nat) (t : FR) (h : Bool) : MT:=PTS [(some 3,FX n t),(none,BT h)]
theorem w145 {n m : Nat} {x y : Rat} : Con Tryz.prog 145 [QV n x,QV m y] (y ≠ 0 ∧ n + m ≤ BIG) (QC (n + m) (x / y)):=.o2 fun hok h1 h2 hp=>by
  refine St.enter (N:=17) Tryz.func145 rfl rfl rfl hok (enter2 h1 h2) fun a=>?_
  repeat' (first|((with_reducible refine gS_ ?_);first|((with_reducible refine gL_ ?_);first|refine W.run ?_ fun a w G=>?_|refine W.mv fun a w G=>?_|refine W.asg fun a w G=>?_|refine W.bx fun b a w G=>?_|(refine W.nn hK ?_;clear hK K)|refine W.nl ?_|refine W.al fun b a w G=>?_|refine W.st fun w=>?_|refine W.stp fun w=>?_|refine W.ste ?_ fun w=>?_)|((with_reducible refine gC_ ?_);first|refine W.reg fun K hK=>?_|refine W.reg1 ?_|refine W.sq fun K hK=>?_|refine W.ds ?_ (fun β a w G hu=>W.fin ?_ hu) mixedOrders (by kernel_rfl)|refine W.sk ?_|refine W.cd (fun hc=>?_) (fun hc=>?_)|refine W.cb (fun hc=>?_) (fun hc=>?_)|refine W.bl ?_|refine W.ex ?_|refine W.rt ?_)|((with_reducible refine W.kn hK ?_);clear hK K)|(with_reducible first|refine W.bn ?_|refine W.xt ?_|refine W.xb ?_|refine W.xo ?_|refine W.tr ?_|refine W.br ?_)|refine W.rt1 rfl ?_|refine W.rt2 rfl ?_ ?_|refine W.rt3 rfl ?_ ?_ ?_)|clear hK K|clear hu|exact True.intro|exact Nat.le_trans (by clear hp;omega) hp|exact Nat.le_trans (by clear hp;omega) hp.1|exact Nat.le_trans (by clear hp;omega) hp.2|(clear hp;omega)|apply And.intro|refine GI.i fun _=>?_|with_reducible rfl|decide|(simp only [List.length_cons,List.length_nil];omega))
  all_goals (first | exact hp.1 | exact hp.2 | (exfalso;simp_all))
instance iK2_82 {n m : Nat} {x y : Rat} {τ1 : MT} [j1 : NQ τ1 (QV n x)] {τ2 : MT} [j2 : NQ τ2 (QV m y)] : Con Tryz.prog 145 [τ1,τ2] (y ≠ 0 ∧ n + m ≤ BIG) (QC (n + m) (x / y)):=.o2 fun hok h1 h2 hp=>w145.c2 hok (j1.h h1) (j2.h h2) hp
theorem w50 {m : Nat} {t : FR} {h : Bool} : Con Tryz.prog 50 [TRN m t h] (10000 * m + 100000 ≤ BIG) (.ex (errV 46 (trnC h t))):=.o1 fun hok h1 hp=>by
  refine St.enter (N:=18) Tryz.func50 rfl rfl rfl hok (enter1 h1) fun a=>?_
  repeat' (first|((with_reducible refine gS_ ?_);first|((with_reducible refine gL_ ?_);first|refine W.run ?_ fun a w G=>?_|refine W.mv fun a w G=>?_|refine W.asg fun a w G=>?_|refine W.bx fun b a w G=>?_|(refine W.nn hK ?_;clear hK K)|refine W.nl ?_|refine W.al fun b a w G=>?_|refine W.st fun w=>?_|refine W.stp fun w=>?_|refine W.ste ?_ fun w=>?_)|((with_reducible refine gC_ ?_);first|refine W.reg fun K hK=>?_|refine W.reg1 ?_|refine W.sq fun K hK=>?_|refine W.ds ?_ (fun β a w G hu=>W.fin ?_ hu) mixedOrders (by kernel_rfl)|refine W.sk ?_|refine W.cd (fun hc=>?_) (fun hc=>?_)|refine W.cb (fun hc=>?_) (fun hc=>?_)|refine W.bl ?_|refine W.ex ?_|refine W.rt ?_)|((with_reducible refine W.kn hK ?_);clear hK K)|(with_reducible first|refine W.bn ?_|refine W.xt ?_|refine W.xb ?_|refine W.xo ?_|refine W.tr ?_|refine W.br ?_)|refine W.rt1 rfl ?_|refine W.rt2 rfl ?_ ?_|refine W.rt3 rfl ?_ ?_ ?_)|clear hK K|clear hu|exact True.intro|exact Nat.le_trans (by clear hp;omega) hp|exact Nat.le_trans (by clear hp;omega) hp.1|exact Nat.le_trans (by clear hp;omega) hp.2|(clear hp;omega)|apply And.intro|refine GI.i fun _=>?_|with_reducible rfl|decide|(simp only [List.length_cons,List.length_nil];omega))
  all_goals (unfold trnC trnF;grind)
instance iK2_83 {m : Nat} {t : FR} {h : Bool} {τ1 : MT} [j1 : NF τ1 (TRN m t h)] : Con Tryz.prog 50 [τ1] (10000 * m + 100000 ≤ BIG) (.ex (errV 46 (trnC h t))):=.o1 fun hok h1 hp=>w50.c1 hok (j1.h h1) hp
theorem w111 {m : Nat} {t : FR} {h : Bool} : Con Tryz.prog 111 [TRN m t h] (10000 * m + 100000 ≤ BIG) (MT.tup2 (QC (4 * m + 130) (dirC h t.val)) (QC (4 * m + 130) (dirS h t.val))):=.o1 fun hok h1 hp=>by
  refine St.enter (N:=32) Tryz.func111 rfl rfl rfl hok (enter1 h1) fun a=>?_
  repeat' (first|((with_reducible refine gS_ ?_);first|((with_reducible refine gL_ ?_);first|refine W.run ?_ fun a w G=>?_|refine W.mv fun a w G=>?_|refine W.asg fun a w G=>?_|refine W.bx fun b a w G=>?_|(refine W.nn hK ?_;clear hK K)|refine W.nl ?_|refine W.al fun b a w G=>?_|refine W.st fun w=>?_|refine W.stp fun w=>?_|refine W.ste ?_ fun w=>?_)|((with_reducible refine gC_ ?_);first|refine W.reg fun K hK=>?_|refine W.reg1 ?_|refine W.sq fun K hK=>?_|refine W.ds ?_ (fun β a w G hu=>W.fin ?_ hu) mixedOrders (by kernel_rfl)|refine W.sk ?_|refine W.cd (fun hc=>?_) (fun hc=>?_)|refine W.cb (fun hc=>?_) (fun hc=>?_)|refine W.bl ?_|refine W.ex ?_|refine W.rt ?_)|((with_reducible refine W.kn hK ?_);clear hK K)|(with_reducible first|refine W.bn ?_|refine W.xt ?_|refine W.xb ?_|refine W.xo ?_|refine W.tr ?_|refine W.br ?_)|refine W.rt1 rfl ?_|refine W.rt2 rfl ?_ ?_|refine W.rt3 rfl ?_ ?_ ?_)|clear hK K|clear hu|exact True.intro|exact Nat.le_trans (by clear hp;omega) hp|exact Nat.le_trans (by clear hp;omega) hp.1|exact Nat.le_trans (by clear hp;omega) hp.2|(clear hp;omega)|apply And.intro|refine GI.i fun _=>?_|with_reducible rfl|decide|(simp only [List.length_cons,List.length_nil];omega))
  all_goals first | exact one_sq _ | simp_all [dirC,dirS,zv0]
instance iK2_84 {m : Nat} {t : FR} {h : Bool} {τ1 : MT} [j1 : NF τ1 (TRN m t h)] : Con Tryz.prog 111 [τ1] (10000 * m + 100000 ≤ BIG) (MT.tup2 (QC (4 * m + 130) (dirC h t.val)) (QC (4 * m + 130) (dirS h t.val))):=.o1 fun hok h1 hp=>w111.c1 hok (j1.h h1) hp
theorem w75 {m : Nat} {t : FR} {h : Bool} : Con Tryz.prog 75 [TRN m t h] (10000 * m + 100000 ≤ BIG ∧ trnF h t = true) (MT.tup2 (QC (4 * m + 130) (dirC h t.val)) (.ex (errV 46 (0)))):=.o1 fun hok h1 hp=>by
  refine St.enter (N:=19) Tryz.func75 rfl rfl rfl hok (enter1 h1) fun a=>?_
  have ht:=trn_0 hp.2
  repeat' (first|((with_reducible refine gS_ ?_);first|((with_reducible refine gL_ ?_);first|refine W.run ?_ fun a w G=>?_|refine W.mv fun a w G=>?_|refine W.asg fun a w G=>?_|refine W.bx fun b a w G=>?_|(refine W.nn hK ?_;clear hK K)|refine W.nl ?_|refine W.al fun b a w G=>?_|refine W.st fun w=>?_|refine W.stp fun w=>?_|refine W.ste ?_ fun w=>?_)|((with_reducible refine gC_ ?_);first|refine W.reg fun K hK=>?_|refine W.reg1 ?_|refine W.sq fun K hK=>?_|refine W.ds ?_ (fun β a w G hu=>W.fin ?_ hu) mixedOrders (by kernel_rfl)|refine W.sk ?_|refine W.cd (fun hc=>?_) (fun hc=>?_)|refine W.cb (fun hc=>?_) (fun hc=>?_)|refine W.bl ?_|refine W.ex ?_|refine W.rt ?_)|((with_reducible refine W.kn hK ?_);clear hK K)|(with_reducible first|refine W.bn ?_|refine W.xt ?_|refine W.xb ?_|refine W.xo ?_|refine W.tr ?_|refine W.br ?_)|refine W.rt1 rfl ?_|refine W.rt2 rfl ?_ ?_|refine W.rt3 rfl ?_ ?_ ?_)|clear hK K|clear hu|exact True.intro|exact Nat.le_trans (by clear hp;omega) hp|exact Nat.le_trans (by clear hp;omega) hp.1|exact Nat.le_trans (by clear hp;omega) hp.2|(clear hp;omega)|apply And.intro|refine GI.i fun _=>?_|with_reducible rfl|decide|(simp only [List.length_cons,List.length_nil];omega))
  all_goals first | exact hp.2 | (exfalso;omega) | assumption
instance iK2_85 {m : Nat} {t : FR} {h : Bool} {τ1 : MT} [j1 : NF τ1 (TRN m t h)] : Con Tryz.prog 75 [τ1] (10000 * m + 100000 ≤ BIG ∧ trnF h t = true) (MT.tup2 (QC (4 * m + 130) (dirC h t.val)) (.ex (errV 46 (0)))):=.o1 fun hok h1 hp=>w75.c1 hok (j1.h h1) hp
theorem w76 {m : Nat} {t : FR} {h : Bool} : Con Tryz.prog 76 [TRN m t h] (10000 * m + 100000 ≤ BIG ∧ trnF h t = true) (MT.tup2 (QC (4 * m + 130) (dirS h t.val)) (.ex (errV 46 (0)))):=.o1 fun hok h1 hp=>by
  refine St.enter (N:=19) Tryz.func76 rfl rfl rfl hok (enter1 h1) fun a=>?_
  have ht:=trn_0 hp.2
  repeat' (first|((with_reducible refine gS_ ?_);first|((with_reducible refine gL_ ?_);first|refine W.run ?_ fun a w G=>?_|refine W.mv fun a w G=>?_|refine W.asg fun a w G=>?_|refine W.bx fun b a w G=>?_|(refine W.nn hK ?_;clear hK K)|refine W.nl ?_|refine W.al fun b a w G=>?_|refine W.st fun w=>?_|refine W.stp fun w=>?_|refine W.ste ?_ fun w=>?_)|((with_reducible refine gC_ ?_);first|refine W.reg fun K hK=>?_|refine W.reg1 ?_|refine W.sq fun K hK=>?_|refine W.ds ?_ (fun β a w G hu=>W.fin ?_ hu) mixedOrders (by kernel_rfl)|refine W.sk ?_|refine W.cd (fun hc=>?_) (fun hc=>?_)|refine W.cb (fun hc=>?_) (fun hc=>?_)|refine W.bl ?_|refine W.ex ?_|refine W.rt ?_)|((with_reducible refine W.kn hK ?_);clear hK K)|(with_reducible first|refine W.bn ?_|refine W.xt ?_|refine W.xb ?_|refine W.xo ?_|refine W.tr ?_|refine W.br ?_)|refine W.rt1 rfl ?_|refine W.rt2 rfl ?_ ?_|refine W.rt3 rfl ?_ ?_ ?_)|clear hK K|clear hu|exact True.intro|exact Nat.le_trans (by clear hp;omega) hp|exact Nat.le_trans (by clear hp;omega) hp.1|exact Nat.le_trans (by clear hp;omega) hp.2|(clear hp;omega)|apply And.intro|refine GI.i fun _=>?_|with_reducible rfl|decide|(simp only [List.length_cons,List.length_nil];omega))
  all_goals first | exact hp.2 | (exfalso;omega) | assumption
instance iK2_86 {m : Nat} {t : FR} {h : Bool} {τ1 : MT} [j1 : NF τ1 (TRN m t h)] : Con Tryz.prog 76 [τ1] (10000 * m + 100000 ≤ BIG ∧ trnF h t = true) (MT.tup2 (QC (4 * m + 130) (dirS h t.val)) (.ex (errV 46 (0)))):=.o1 fun hok h1 hp=>w76.c1 hok (j1.h h1) hp
theorem w34 {m : Nat} {t : FR} {h : Bool} : Con Tryz.prog 34 [TRN m t h] (10000 * m + 100000 ≤ BIG ∧ trnF h t = true) (MT.tup3 (QC (4 * m + 130) (dirC h t.val)) (QC (4 * m + 130) (dirS h t.val)) (.ex (errV 46 (0)))):=.o1 fun hok h1 hp=>by
  refine St.enter (N:=29) Tryz.func34 rfl rfl rfl hok (enter1 h1) fun a=>?_
  have ht:=trn_0 hp.2
  repeat' (first|((with_reducible refine gS_ ?_);first|((with_reducible refine gL_ ?_);first|refine W.run ?_ fun a w G=>?_|refine W.mv fun a w G=>?_|refine W.asg fun a w G=>?_|refine W.bx fun b a w G=>?_|(refine W.nn hK ?_;clear hK K)|refine W.nl ?_|refine W.al fun b a w G=>?_|refine W.st fun w=>?_|refine W.stp fun w=>?_|refine W.ste ?_ fun w=>?_)|((with_reducible refine gC_ ?_);first|refine W.reg fun K hK=>?_|refine W.reg1 ?_|refine W.sq fun K hK=>?_|refine W.ds ?_ (fun β a w G hu=>W.fin ?_ hu) mixedOrders (by kernel_rfl)|refine W.sk ?_|refine W.cd (fun hc=>?_) (fun hc=>?_)|refine W.cb (fun hc=>?_) (fun hc=>?_)|refine W.bl ?_|refine W.ex ?_|refine W.rt ?_)|((with_reducible refine W.kn hK ?_);clear hK K)|(with_reducible first|refine W.bn ?_|refine W.xt ?_|refine W.xb ?_|refine W.xo ?_|refine W.tr ?_|refine W.br ?_)|refine W.rt1 rfl ?_|refine W.rt2 rfl ?_ ?_|refine W.rt3 rfl ?_ ?_ ?_)|clear hK K|clear hu|exact True.intro|exact Nat.le_trans (by clear hp;omega) hp|exact Nat.le_trans (by clear hp;omega) hp.1|exact Nat.le_trans (by clear hp;omega) hp.2|(clear hp;omega)|apply And.intro|refine GI.i fun _=>?_|with_reducible rfl|decide|(simp only [List.length_cons,List.length_nil];omega))
  all_goals first | exact hp.2 | (exfalso;omega) | assumption
instance iK2_87 {m : Nat} {t : FR} {h : Bool} {τ1 : MT} [j1 : NF τ1 (TRN m t h)] : Con Tryz.prog 34 [τ1] (10000 * m + 100000 ≤ BIG ∧ trnF h t = true) (MT.tup3 (QC (4 * m + 130) (dirC h t.val)) (QC (4 * m + 130) (dirS h t.val)) (.ex (errV 46 (0)))):=.o1 fun hok h1 hp=>w34.c1 hok (j1.h h1) hp
end Go.Proofs.YtnjbcjmkkejfpaaGreat
