import Derived.Test.YtboicjlbbbodgaaGreatDoorQTsi
set_option linter.unusedVariables false
set_option linter.unusedSimpArgs false
set_option maxHeartbeats 4000000
set_option maxRecDepth 100000
set_option synthInstance.maxSize 100000
set_option synthInstance.maxHeartbeats 400000
namespace Go.Proofs.YtboicjlbbbodgaaGreatDoor
open Go.RowKit (Below)
attribute [local irreducible] Go.Code.wp Go.wpList Go.bodyPost
private theorem gS_ {W0 : World} {G0 : Gh} {N : Nat} {L : List (Nat × MT)} {B : List BX} {a : Act} {w : World} {G : Gh} {q : Prop} (h : St W0 G0 N L B a w G → q) : St W0 G0 N L B a w G → q:=h
private theorem gL_ {p : Prop} {P : Program} {arr : Array Oper} {Q : Exit → Act → World → Prop} {l : List Oper} {a : Act} {w : World} (h : p → wpList P arr Q l a w) : p → wpList P arr Q l a w:=h
private theorem gC_ {p : Prop} {P : Program} {c : Code} {Q : Exit → Act → World → Prop} {a : Act} {w : World} (h : p → c.wp P Q a w) : p → c.wp P Q a w:=h
private theorem mixedOrders : Tryz.prog.follows .mixedOrders = true:=by kernel_rfl
theorem iv_f {kk j : Nat} {rs : List (List Rat)} {s : List Rat} (p2 : TOK rs) (p1 : kk ≤ rs.length) (hj : j + 1 ≤ kk) (hs : s.length = 2 ^ (j + 1)) (h0 : sgL rs s ≠ 0) :
    RLN rs ∧ PW rs.length (normF rs s) ∧ (s.take (s.length / 2)).length ≤ 16 ∧ (s.drop (s.length / 2)).length ≤ 16 ∧ (minusF (s.drop (s.length / 2))).length ≤ 16 ∧ 1 ≤ s.length / 2 ∧ PW (kk - 1) (normF rs s) ∧ PW (kk - 1) (plusF (s.take (s.length / 2)) (s.take (s.length / 2))) ∧
    (sgL rs (normF rs s) = 0 → sgL rs (plusF (s.take (s.length / 2)) (s.take (s.length / 2))) ≠ 0) ∧ s.length ≤ 32 ∧ s.length / 2 ≤ s.length:=by
  have h5:=p2.1
  have e2 : 2 ^ (j + 1) = 2 ^ j + 2 ^ j:=by rw [Nat.pow_succ];omega
  have h16 : 2 ^ j ≤ 2 ^ 4:=Nat.pow_le_pow_right (by decide) (by omega)
  have hp:=Nat.two_pow_pos j
  have hh : s.length / 2 = 2 ^ j:=by omega
  obtain ⟨n1,n2⟩:=norm_ok p2.2.1 (by omega : j < rs.length) hs
  have hx : PW j (s.take (2 ^ j)):=.pow (by rw [List.length_take];omega)
  have hn0:=iv_s p2 (by omega : j < rs.length) hs h0
  rw [hh] at *
  exact ⟨p2.2.1,n2.mono (by omega),by rw [List.length_take];omega,by rw [List.length_drop];omega,by rw [minus_len,List.length_drop];omega,by omega,n2.mono (by omega),(hx.plus hx).mono (by omega),hn0,by omega,by omega⟩
theorem iv_g {kk j : Nat} {rs : List (List Rat)} {s : List Rat} (p2 : TOK rs) (p1 : kk ≤ rs.length) (hj : j + 1 ≤ kk) (hs : s.length = 2 ^ (j + 1)) (hm : ¬ sgL rs (normF rs s) = 0) :
    PW kk (joinF (s.take (s.length / 2)) (minusF (s.drop (s.length / 2))) (s.length / 2)) ∧ PW kk (ivF rs kk (normF rs s)) ∧ lvM (joinF (s.take (s.length / 2)) (minusF (s.drop (s.length / 2))) (s.length / 2)) (ivF rs kk (normF rs s)) ≤ kk ∧
    PW (lvM (joinF (s.take (s.length / 2)) (minusF (s.drop (s.length / 2))) (s.length / 2)) (ivF rs kk (normF rs s))) (joinF (s.take (s.length / 2)) (minusF (s.drop (s.length / 2))) (s.length / 2)) ∧
    PW (lvM (joinF (s.take (s.length / 2)) (minusF (s.drop (s.length / 2))) (s.length / 2)) (ivF rs kk (normF rs s))) (ivF rs kk (normF rs s)) ∧
    (joinF (s.take (s.length / 2)) (minusF (s.drop (s.length / 2))) (s.length / 2)).length ≤ 32 ∧ (ivF rs kk (normF rs s)).length ≤ 32:=by
  have h5:=p2.1
  have e2 : 2 ^ (j + 1) = 2 ^ j + 2 ^ j:=by rw [Nat.pow_succ];omega
  have hh : s.length / 2 = 2 ^ j:=by omega
  obtain ⟨n1,n2⟩:=norm_ok p2.2.1 (by omega : j < rs.length) hs
  have hi:=(ivF_ok p2 (k:=kk - 1) (f:=kk) (by omega) (by omega) (n2.mono (by omega)) hm).2.mono (show kk - 1 ≤ kk by omega)
  have hJ : PW kk (joinF (s.take (s.length / 2)) (minusF (s.drop (s.length / 2))) (s.length / 2)):=by
    rw [hh]
    exact (PW.pow (k:=j + 1) (by rw [join_len (by rw [List.length_take];omega) (by rw [minus_len,List.length_drop];omega)];omega)).mono hj
  have h:=pw_lvM hJ hi
  exact ⟨hJ,hi,h.1,h.2.1,h.2.2,hJ.l32 (by omega),hi.l32 (by omega)⟩
attribute [local irreducible] plusF minusF joinF levI lev PW RLN tB sB timesF stepF tmF normF shoF TOK sgL
theorem w33 {r n : Nat} {rs : List (List Rat)} {l : List Rat} : Con Tryz.prog 33 [TWR r rs,NM n l] (TOK rs ∧ PW rs.length l ∧ 1 ≤ r ∧ 1 ≤ n ∧ n ≤ BIG ∧ sB rs.length (r + r) r ≤ BIG) (MT.tup2 (NM n (shoF (minusF l))) (.ex (errV 41 (0)))):=.o2 fun hok h1 h2 hp=>by
  refine St.enter (N:=17) Tryz.func33 rfl rfl rfl hok (enter2 h1 h2) fun a=>?_
  have h5:=hp.1.rl
  have hbg:=sB_le (r:=r) (k:=rs.length) (n:=r + r)
  have l1:=hp.2.1.l32 h5.2
  have l3:=hp.2.1.minus.l32 h5.2
  repeat' (first|((with_reducible refine gS_ ?_);first|((with_reducible refine gL_ ?_);first|refine W.run ?_ fun a w G=>?_|refine W.mv fun a w G=>?_|refine W.asg fun a w G=>?_|refine W.bx fun b a w G=>?_|(refine W.nn hK ?_;clear hK K)|refine W.nl ?_|refine W.ste ?_ fun w=>?_)|((with_reducible refine gC_ ?_);first|refine W.reg fun K hK=>?_|refine W.reg1 ?_|refine W.sq fun K hK=>?_|refine W.sk ?_|refine W.cd (fun hc=>?_) (fun hc=>?_)|refine W.cb (fun hc=>?_) (fun hc=>?_)|refine W.rt ?_)|((with_reducible refine W.kn hK ?_);clear hK K)|with_reducible refine W.tr ?_|with_reducible refine W.br ?_|refine W.rt2 rfl ?_ ?_)|clear hK K|clear hu|exact True.intro|exact Nat.le_trans (by clear hp;omega) hp|exact Nat.le_trans (by clear hp;omega) hp.1|exact Nat.le_trans (by clear hp;omega) hp.2|(clear hp;omega)|apply And.intro|refine GI.i fun _=>?_|with_reducible rfl|decide|(simp only [List.length_cons,List.length_nil];omega))
  all_goals first
    | omega
    | exact hp.1
    | exact h5.1
    | (intro x hx;simp only [List.mem_cons,List.not_mem_nil,or_false] at hx;first | (subst hx;exact hp.2.1) | (rcases hx with hx | hx <;> subst hx <;> first | exact hp.2.1 | exact hp.2.2.1))
    | (simp;done)
    | skip
instance {r n : Nat} {rs : List (List Rat)} {l : List Rat} {τ1 : MT} [j1 : NU τ1 (TWR r rs)] {τ2 : MT} [j2 : NU τ2 (NM n l)] : Con Tryz.prog 33 [τ1,τ2] (TOK rs ∧ PW rs.length l ∧ 1 ≤ r ∧ 1 ≤ n ∧ n ≤ BIG ∧ sB rs.length (r + r) r ≤ BIG) (MT.tup2 (NM n (shoF (minusF l))) (.ex (errV 41 (0)))):=.o2 fun hok h1 h2 hp=>w33.c2 hok (j1.h h1) (j2.h h2) hp
theorem w15 {r n m : Nat} {rs : List (List Rat)} {l k : List Rat} : Con Tryz.prog 15 [TWR r rs,NM n l,NM m k] (TOK rs ∧ PW rs.length l ∧ PW rs.length k ∧ 1 ≤ r ∧ 1 ≤ n ∧ 1 ≤ m ∧ sB rs.length (r + r) r ≤ BIG ∧ n + m + 1 ≤ BIG) (MT.tup2 (NM (n + m + 1) (shoF (plusF l k))) (.ex (errV 41 (0)))):=.o3 fun hok h1 h2 h3 hp=>by
  refine St.enter (N:=21) Tryz.func15 rfl rfl rfl hok (enter3 h1 h2 h3) fun a=>?_
  have h5:=hp.1.rl
  have hbg:=sB_le (r:=r) (k:=rs.length) (n:=r + r)
  have l1:=hp.2.1.l32 h5.2
  have l2:=hp.2.2.1.l32 h5.2
  have l3:=(hp.2.1.plus hp.2.2.1).l32 h5.2
  repeat' (first|((with_reducible refine gS_ ?_);first|((with_reducible refine gL_ ?_);first|refine W.run ?_ fun a w G=>?_|refine W.mv fun a w G=>?_|refine W.asg fun a w G=>?_|refine W.bx fun b a w G=>?_|(refine W.nn hK ?_;clear hK K)|refine W.nl ?_|refine W.ste ?_ fun w=>?_)|((with_reducible refine gC_ ?_);first|refine W.reg fun K hK=>?_|refine W.reg1 ?_|refine W.sq fun K hK=>?_|refine W.sk ?_|refine W.cd (fun hc=>?_) (fun hc=>?_)|refine W.cb (fun hc=>?_) (fun hc=>?_)|refine W.rt ?_)|((with_reducible refine W.kn hK ?_);clear hK K)|with_reducible refine W.tr ?_|with_reducible refine W.br ?_|refine W.rt2 rfl ?_ ?_)|clear hK K|clear hu|exact True.intro|exact Nat.le_trans (by clear hp;omega) hp|exact Nat.le_trans (by clear hp;omega) hp.1|exact Nat.le_trans (by clear hp;omega) hp.2|(clear hp;omega)|apply And.intro|refine GI.i fun _=>?_|with_reducible rfl|decide|(simp only [List.length_cons,List.length_nil];omega))
  all_goals first
    | omega
    | exact hp.1
    | exact h5.1
    | (intro x hx;simp only [List.mem_cons,List.not_mem_nil,or_false] at hx;first | (subst hx;exact hp.2.1) | (rcases hx with hx | hx <;> subst hx <;> first | exact hp.2.1 | exact hp.2.2.1))
    | (simp;done)
    | skip
instance {r n m : Nat} {rs : List (List Rat)} {l k : List Rat} {τ1 : MT} [j1 : NU τ1 (TWR r rs)] {τ2 : MT} [j2 : NU τ2 (NM n l)] {τ3 : MT} [j3 : NU τ3 (NM m k)] : Con Tryz.prog 15 [τ1,τ2,τ3] (TOK rs ∧ PW rs.length l ∧ PW rs.length k ∧ 1 ≤ r ∧ 1 ≤ n ∧ 1 ≤ m ∧ sB rs.length (r + r) r ≤ BIG ∧ n + m + 1 ≤ BIG) (MT.tup2 (NM (n + m + 1) (shoF (plusF l k))) (.ex (errV 41 (0)))):=.o3 fun hok h1 h2 h3 hp=>w15.c3 hok (j1.h h1) (j2.h h2) (j3.h h3) hp
theorem w14 {r n m : Nat} {rs : List (List Rat)} {l k : List Rat} : Con Tryz.prog 14 [TWR r rs,NM n l,NM m k] (TOK rs ∧ PW rs.length l ∧ PW rs.length k ∧ 1 ≤ r ∧ 1 ≤ n ∧ 1 ≤ m ∧ sB rs.length (r + r) r ≤ BIG ∧ tB rs.length (n + m) r ≤ BIG) (MT.tup2 (NM (tB rs.length (n + m) r) (shoF (tmF rs l k))) (.ex (errV 41 (0)))):=.o3 fun hok h1 h2 h3 hp=>by
  refine St.enter (N:=22) Tryz.func14 rfl rfl rfl hok (enter3 h1 h2 h3) fun a=>?_
  have h5:=hp.1.rl
  have hbg:=sB_le (r:=r) (k:=rs.length) (n:=r + r)
  have l1:=hp.2.1.l32 h5.2
  have l2:=hp.2.2.1.l32 h5.2
  have l3:=(PW.tm h5.1 (Nat.le_refl _) hp.2.1 hp.2.2.1).l32 h5.2
  have lv:=pw_lvM hp.2.1 hp.2.2.1
  have lv2 : tB (lvM l k) (n + m) r ≤ tB rs.length (n + m) r:=tB_up lv.1
  have lv3:=tB_le (r:=r) (k:=rs.length) (n:=n + m)
  repeat' (first|((with_reducible refine gS_ ?_);first|((with_reducible refine gL_ ?_);first|refine W.run ?_ fun a w G=>?_|refine W.mv fun a w G=>?_|refine W.asg fun a w G=>?_|refine W.bx fun b a w G=>?_|(refine W.nn hK ?_;clear hK K)|refine W.nl ?_|refine W.ste ?_ fun w=>?_)|((with_reducible refine gC_ ?_);first|refine W.reg fun K hK=>?_|refine W.reg1 ?_|refine W.sq fun K hK=>?_|refine W.sk ?_|refine W.cd (fun hc=>?_) (fun hc=>?_)|refine W.cb (fun hc=>?_) (fun hc=>?_)|refine W.rt ?_)|((with_reducible refine W.kn hK ?_);clear hK K)|with_reducible refine W.tr ?_|with_reducible refine W.br ?_|refine W.rt2 rfl ?_ ?_)|clear hK K|clear hu|exact True.intro|exact Nat.le_trans (by clear hp;omega) hp|exact Nat.le_trans (by clear hp;omega) hp.1|exact Nat.le_trans (by clear hp;omega) hp.2|(clear hp;omega)|apply And.intro|refine GI.i fun _=>?_|with_reducible rfl|decide|(simp only [List.length_cons,List.length_nil];omega))
  all_goals first
    | omega
    | exact hp.1
    | exact h5.1
    | (intro x hx;simp only [List.mem_cons,List.not_mem_nil,or_false] at hx;first | (subst hx;exact hp.2.1) | (rcases hx with hx | hx <;> subst hx <;> first | exact hp.2.1 | exact hp.2.2.1))
    | (simp;done)
    | exact lv.1
    | exact lv.2.1
    | exact lv.2.2
    | exact Nat.le_trans lv2 (by omega)
    | skip
instance {r n m : Nat} {rs : List (List Rat)} {l k : List Rat} {τ1 : MT} [j1 : NU τ1 (TWR r rs)] {τ2 : MT} [j2 : NU τ2 (NM n l)] {τ3 : MT} [j3 : NU τ3 (NM m k)] : Con Tryz.prog 14 [τ1,τ2,τ3] (TOK rs ∧ PW rs.length l ∧ PW rs.length k ∧ 1 ≤ r ∧ 1 ≤ n ∧ 1 ≤ m ∧ sB rs.length (r + r) r ≤ BIG ∧ tB rs.length (n + m) r ≤ BIG) (MT.tup2 (NM (tB rs.length (n + m) r) (shoF (tmF rs l k))) (.ex (errV 41 (0)))):=.o3 fun hok h1 h2 h3 hp=>w14.c3 hok (j1.h h1) (j2.h h2) (j3.h h3) hp
attribute [local irreducible] iB ivF ivR tmR normR
theorem iB_s {k n r : Nat} : iB (k + 1) n r = tB (k + 1) (n + iB k (tB (k + 1) (n + n) r) r) r:=by with_unfolding_all rfl
theorem iv_b {k j n r K : Nat} (hK : k ≤ K) (hj : j + 1 ≤ k) (h1 : sB K (sB k n r + r) r ≤ BIG) (h2 : iB k n r ≤ BIG) (hr : 1 ≤ r) (hn : 1 ≤ n) :
    sB K (tB (j + 1) (n + n) r + r) r ≤ BIG ∧ sB K (sB (k - 1) (tB (j + 1) (n + n) r) r + r) r ≤ BIG ∧ iB (k - 1) (tB (j + 1) (n + n) r) r ≤ BIG ∧ sB K (sB (k - 1) (n + n + 1) r + r) r ≤ BIG ∧ iB (k - 1) (n + n + 1) r ≤ iB k n r ∧ n + n + 1 ≤ BIG ∧
    tB k (n + iB (k - 1) (tB (j + 1) (n + n) r) r) r ≤ iB k n r ∧ iB (k - 1) (tB (j + 1) (n + n) r) r ≤ iB k n r ∧ 1 ≤ iB (k - 1) (tB (j + 1) (n + n) r) r ∧ tB (j + 1) (n + n) r ≤ BIG ∧ 1 ≤ tB (j + 1) (n + n) r ∧ sB k (n + r) r ≤ BIG:=by
  obtain ⟨i,rfl⟩ : ∃ i,k = i + 1:=⟨k - 1,by omega⟩
  rw [Nat.add_sub_cancel]
  have hs : sB (i + 1) n r = sB i (tB (i + 1) (n + n) r) r:=sB_s
  have m1:=tB_up (r:=r) (n:=n + n) hj
  have m2:=sB_mono (r:=r) (k:=i) m1
  have m3:=sB_le (r:=r) (k:=i) (n:=tB (j + 1) (n + n) r)
  have q1:=sB_mono (r:=r) (k:=K) (show tB (j + 1) (n + n) r + r ≤ sB (i + 1) n r + r by omega)
  have q2:=sB_mono (r:=r) (k:=K) (show sB i (tB (j + 1) (n + n) r) r + r ≤ sB (i + 1) n r + r by omega)
  have t1 : n + n + 1 ≤ tB (i + 1) (n + n) r:=by
    have a1:=tB_le (r:=r) (k:=i) (n:=n + n)
    have a2:=tB_facts (kk:=i + 1) (N:=n + n) (r:=r) (Nat.succ_ne_zero i) |>.1
    rw [Nat.add_sub_cancel] at a2
    omega
  have q3:=sB_mono (r:=r) (k:=i) t1
  have q4:=sB_mono (r:=r) (k:=K) (show sB i (n + n + 1) r + r ≤ sB (i + 1) n r + r by omega)
  have i1:=iB_mono (r:=r) (k:=i) m1
  have i2:=iB_mono (r:=r) (k:=i) t1
  have i3 : iB (i + 1) n r = tB (i + 1) (n + iB i (tB (i + 1) (n + n) r) r) r:=iB_s
  have i4:=tB_le (r:=r) (k:=i + 1) (n:=n + iB i (tB (i + 1) (n + n) r) r)
  have i5:=tB_mono (r:=r) (k:=i + 1) (show n + iB i (tB (j + 1) (n + n) r) r ≤ n + iB i (tB (i + 1) (n + n) r) r by omega)
  have i6:=iB_le (r:=r) (k:=i) (n:=tB (j + 1) (n + n) r)
  have i7:=iB_le (r:=r) (k:=i) (n:=tB (i + 1) (n + n) r)
  have i8:=tB_le (r:=r) (k:=j + 1) (n:=n + n)
  have b0:=sB_le (r:=r) (k:=K) (n:=sB (i + 1) n r + r)
  have b1:=sB_le (r:=r) (k:=i + 1) (n:=n)
  have b2:=sB_mono (r:=r) (k:=i + 1) (show n + r ≤ sB (i + 1) n r + r by omega)
  have b3:=sB_ups (r:=r) (n:=sB (i + 1) n r + r) hK
  exact ⟨by omega,by omega,by omega,by omega,by omega,by omega,by omega,by omega,by omega,by omega,by omega,by omega⟩
theorem ivStep {kk : Nat} (ih : ∀ {n r : Nat} {rs : List (List Rat)} {l : List Rat},Con Tryz.prog 70 [TWR r rs,NM n l] (kk ≠ 0 ∧ (kk - 1) ≤ rs.length ∧ TOK rs ∧ PW (kk - 1) l ∧ 1 ≤ n ∧ 1 ≤ r ∧ sB rs.length (sB (kk - 1) n r + r) r ≤ BIG ∧ iB (kk - 1) n r ≤ BIG ∧ sgL rs l ≠ 0) (NM (iB (kk - 1) n r) (ivF rs kk l))) {n r : Nat} {rs : List (List Rat)} {l : List Rat} : Con Tryz.prog 70 [TWR r rs,NM n l] (kk ≤ rs.length ∧ TOK rs ∧ PW kk l ∧ 1 ≤ n ∧ 1 ≤ r ∧ sB rs.length (sB kk n r + r) r ≤ BIG ∧ iB kk n r ≤ BIG ∧ sgL rs l ≠ 0) (NM (iB kk n r) (ivF rs (kk + 1) l)):=.o2 fun hok h1 h2 hp=>by
  refine St.enter (N:=57) Tryz.func70 rfl rfl rfl hok (enter2 h1 h2) fun a=>?_
  repeat' (first|((with_reducible refine gS_ ?_);first|((with_reducible refine gL_ ?_);first|refine W.run ?_ fun a w G=>?_|refine W.mv fun a w G=>?_|refine W.asg fun a w G=>?_|refine W.bx fun b a w G=>?_|(refine W.nn hK ?_;clear hK K)|refine W.nl ?_|refine W.al fun b a w G=>?_|refine W.st fun w=>?_|refine W.stp fun w=>?_|refine W.ste ?_ fun w=>?_)|((with_reducible refine gC_ ?_);first|refine W.reg fun K hK=>?_|refine W.reg1 ?_|refine W.sq fun K hK=>?_|refine W.ds ?_ (fun β a w G hu=>W.fin ?_ hu) mixedOrders (by kernel_rfl)|refine W.sk ?_|refine W.cd (fun hc=>?_) (fun hc=>?_)|refine W.cb (fun hc=>?_) (fun hc=>?_)|refine W.rt ?_)|((with_reducible refine W.kn hK ?_);clear hK K)|with_reducible refine W.tr ?_|with_reducible refine W.br ?_|refine W.rt1 rfl ?_)|clear hK K|clear hu|exact True.intro|exact Nat.le_trans (by clear hp;omega) hp|exact Nat.le_trans (by clear hp;omega) hp.1|exact Nat.le_trans (by clear hp;omega) hp.2|(clear hp;omega)|apply And.intro|refine GI.i fun _=>?_|with_reducible rfl|decide|(simp only [List.length_cons,List.length_nil];omega))
  all_goals obtain ⟨p1,p2,p3,p4,p5,p6,p7,p8⟩:=hp
  all_goals have h5:=p2.rl.2
  all_goals have hn:=iB_le (r:=r) (k:=kk) (n:=n)
  all_goals have hl32:=p3.l32 (by omega)
  all_goals have hsl : (shoF l).length ≤ l.length:=(sho_ok (by omega) p3).2.2.2
  all_goals have h0:=iv_0 (by omega) p3 p8
  all_goals first
    | omega
    | (have h1 : (((shoF l).length : Nat) : Int) = 1 := by assumption
       have g1:=iv_1 (f:=kk) (by omega) p3 p8 h1
       first
       | omega
       | exact g1.1
       | exact g1.2
       | exact ⟨g1.1,by omega⟩)
    | (have h1 : ¬ (((shoF l).length : Nat) : Int) = 1 := by assumption
       obtain ⟨q1,q2⟩:=sho_ok (by omega : kk ≤ 5) p3
       have hp6 : sB kk (n + r) r ≤ BIG:=by
         have b2:=sB_mono (r:=r) (k:=kk) (show n + r ≤ sB kk n r + r by have:=sB_le (r:=r) (k:=kk) (n:=n);omega)
         have b3:=sB_ups (r:=r) (n:=sB kk n r + r) p1
         omega
       obtain ⟨g1,j,g2,g3,g4,g5,g6,⟨g7,g7'⟩,g8,g9,g10,g11,g12,g13,g14,g15,g16⟩:=sg_facts p1 p2 p3 p4 p5 hp6 h0 h1
       have hss : sgL rs (shoF l) ≠ 0:=by rw [sgL_short (by omega) p3];exact p8
       obtain ⟨b1,b2,b3,b4,b5,b6,b7,b8,b9,b10,b11,b12⟩:=iv_b p1 g2 p6 p7 p5 p4
       obtain ⟨f1,f2,f3,f4,f5,f6,f7,f8,f9,f10,f11⟩:=iv_f p2 p1 g2 g3 hss
       (try rw [g4])
       first
       | omega
       | assumption
       | exact p2.rl.1
       | exact ⟨g3,by omega,by omega,p2.rl.1,p4,p5,by omega⟩
       | (have hm : sgL rs (normF rs (shoF l)) = 0 := by assumption
          first
          | exact f9 hm
          | exact iv_2 h1 hm
          | exact (iv_2 h1 hm).symm
          | skip)
       | (have hm : ¬ sgL rs (normF rs (shoF l)) = 0 := by assumption
          obtain ⟨k1,k2,k3,k4,k5,k6,k7⟩:=iv_g p2 p1 g2 g3 hm
          have k8:=tB_up (r:=r) (n:=n + iB (kk - 1) (tB (j + 1) (n + n) r) r) k3
          first
          | omega
          | assumption
          | exact iv_3 h1 hm
          | exact (iv_3 h1 hm).symm
          | (simp only [Nat.max_self];omega)
          | skip)
       | skip)
    | skip
theorem ivK : ∀ (kk : Nat) {n r : Nat} {rs : List (List Rat)} {l : List Rat},Con Tryz.prog 70 [TWR r rs,NM n l] (kk ≤ rs.length ∧ TOK rs ∧ PW kk l ∧ 1 ≤ n ∧ 1 ≤ r ∧ sB rs.length (sB kk n r + r) r ≤ BIG ∧ iB kk n r ≤ BIG ∧ sgL rs l ≠ 0) (NM (iB kk n r) (ivF rs (kk + 1) l)):=fun kk=>by
  induction kk with
  | zero=>exact ivStep (kk:=0) ⟨fun _ _ hp=>absurd rfl hp.1⟩
  | succ kk ih=>exact ivStep (kk:=kk + 1) ⟨fun hok ha hp=>ih.h hok ha hp.2⟩
instance {n r : Nat} {rs : List (List Rat)} {l : List Rat} {τ1 : MT} [j1 : NU τ1 (TWR r rs)] {τ2 : MT} [j2 : NU τ2 (NM n l)] : Con Tryz.prog 70 [τ1,τ2] (TOK rs ∧ PW rs.length l ∧ 1 ≤ n ∧ 1 ≤ r ∧ sB rs.length (sB rs.length n r + r) r ≤ BIG ∧ iB rs.length n r ≤ BIG ∧ sgL rs l ≠ 0) (NM (iB rs.length n r) (ivF rs (rs.length + 1) l)):=.o2 fun hok h1 h2 hp=>(ivK rs.length).c2 hok (j1.h h1) (j2.h h2) ⟨Nat.le_refl _,hp⟩
noncomputable def inL (rs : List (List Rat)) (l : List Rat) : List Rat:=if sgL rs l = 0 then [] else shoF (ivF rs (rs.length + 1) l)
noncomputable def inC (rs : List (List Rat)) (l : List Rat) : Int:=if sgL rs l = 0 then 8 else 0
noncomputable def dvL (rs : List (List Rat)) (l k : List Rat) : List Rat:=if sgL rs k = 0 then [] else shoF (tmF rs l (ivF rs (rs.length + 1) k))
def nmL (rs : List (List Rat)) (l : List Rat) : List Rat:=if rs.length = 0 then [] else shoF (normF rs (wideF l (2 ^ rs.length)))
def nmC (rs : List (List Rat)) : Int:=if rs.length = 0 then 11 else 0
section
variable {rs : List (List Rat)} {l k : List Rat}
theorem in_z (h : sgL rs l = 0) : inL rs l = [] ∧ inC rs l = 8 ∧ dvL rs k l = []:=⟨if_pos h,if_pos h,if_pos h⟩
theorem in_n (h : ¬ sgL rs l = 0) : inL rs l = shoF (ivF rs (rs.length + 1) l) ∧ inC rs l = 0 ∧ dvL rs k l = shoF (tmF rs k (ivF rs (rs.length + 1) l)):=⟨if_neg h,if_neg h,if_neg h⟩
end
attribute [local irreducible] inL inC dvL nmL nmC
theorem w17 {n r : Nat} {rs : List (List Rat)} {l : List Rat} : Con Tryz.prog 17 [TWR r rs,NM n l] (TOK rs ∧ PW rs.length l ∧ 1 ≤ r ∧ 1 ≤ n ∧ sB rs.length (r + r) r ≤ BIG ∧ sB rs.length (sB rs.length n r + r) r ≤ BIG ∧ iB rs.length n r ≤ BIG) (MT.tup2 (NM (iB rs.length n r) (inL rs l)) (.ex (errV 41 (inC rs l)))):=.o2 fun hok h1 h2 hp=>by
  refine St.enter (N:=23) Tryz.func17 rfl rfl rfl hok (enter2 h1 h2) fun a=>?_
  have h5:=hp.1.rl
  have hbg:=sB_le (r:=r) (k:=rs.length) (n:=r + r)
  have l1:=hp.2.1.l32 h5.2
  repeat' (first|((with_reducible refine gS_ ?_);first|((with_reducible refine gL_ ?_);first|refine W.run ?_ fun a w G=>?_|refine W.mv fun a w G=>?_|refine W.asg fun a w G=>?_|refine W.bx fun b a w G=>?_|(refine W.nn hK ?_;clear hK K)|refine W.nl ?_|refine W.ste ?_ fun w=>?_)|((with_reducible refine gC_ ?_);first|refine W.reg fun K hK=>?_|refine W.reg1 ?_|refine W.sq fun K hK=>?_|refine W.sk ?_|refine W.cd (fun hc=>?_) (fun hc=>?_)|refine W.cb (fun hc=>?_) (fun hc=>?_)|refine W.rt ?_)|((with_reducible refine W.kn hK ?_);clear hK K)|with_reducible refine W.tr ?_|with_reducible refine W.br ?_|refine W.rt2 rfl ?_ ?_)|clear hK K|clear hu|exact True.intro|exact Nat.le_trans (by clear hp;omega) hp|exact Nat.le_trans (by clear hp;omega) hp.1|exact Nat.le_trans (by clear hp;omega) hp.2|(clear hp;omega)|apply And.intro|refine GI.i fun _=>?_|with_reducible rfl|decide|(simp only [List.length_cons,List.length_nil];omega))
  all_goals have hs1:=sB_le (r:=r) (k:=rs.length) (n:=n)
  all_goals have hs2:=sB_mono (r:=r) (k:=rs.length) (show n + r ≤ sB rs.length n r + r by omega)
  all_goals have hs3:=sB_le (r:=r) (k:=rs.length) (n:=sB rs.length n r + r)
  all_goals first
    | omega
    | exact hp.1
    | exact h5.1
    | (intro x hx;simp only [List.mem_cons,List.not_mem_nil,or_false] at hx;first | (subst hx;exact hp.2.1) | (rcases hx with hx | hx <;> subst hx <;> first | exact hp.2.1 | exact hp.2.2.1))
    | (simp;done)
    | exact hp.2.1
    | exact hp.2.2.1
    | (have hz : sgL rs l = 0 := by assumption
       obtain ⟨i1,i2,i3⟩:=in_z (k:=l) hz
       first
       | exact i1
       | exact i1.symm
       | exact i2
       | exact i2.symm
       | exact i3
       | exact i3.symm)
    | (have hz : ¬ sgL rs l = 0 := by assumption
       obtain ⟨i1,i2,i3⟩:=in_n (k:=l) hz
       have hi:=ivF_ok hp.1 (Nat.le_refl _) (show rs.length < rs.length + 1 by omega) hp.2.1 hz
       have hil:=hi.2.l32 h5.2
       first
       | omega
       | exact hz
       | exact i1
       | exact i1.symm
       | exact i2
       | exact i2.symm
       | exact i3
       | exact i3.symm
       | (have lv := pw_lvM hp.2.1 hi.2
          have lv4:=(PW.tm h5.1 (Nat.le_refl _) hp.2.1 hi.2).l32 h5.2
          have lv2:=tB_up (r:=r) (n:=n + iB rs.length n r) lv.1
          have lv3:=tB_le (r:=r) (k:=rs.length) (n:=n + iB rs.length n r)
          have lv5:=iB_le (r:=r) (k:=rs.length) (n:=n)
          first
          | omega
          | exact lv.1
          | exact lv.2.1
          | exact lv.2.2
          | exact Nat.le_trans lv2 (by omega)
          | skip)
       | skip)
    | skip
instance {n r : Nat} {rs : List (List Rat)} {l : List Rat} {τ1 : MT} [j1 : NU τ1 (TWR r rs)] {τ2 : MT} [j2 : NU τ2 (NM n l)] : Con Tryz.prog 17 [τ1,τ2] (TOK rs ∧ PW rs.length l ∧ 1 ≤ r ∧ 1 ≤ n ∧ sB rs.length (r + r) r ≤ BIG ∧ sB rs.length (sB rs.length n r + r) r ≤ BIG ∧ iB rs.length n r ≤ BIG) (MT.tup2 (NM (iB rs.length n r) (inL rs l)) (.ex (errV 41 (inC rs l)))):=.o2 fun hok h1 h2 hp=>w17.c2 hok (j1.h h1) (j2.h h2) hp
instance {n : Nat} {z : Int} : Con Tryz.prog 95 [WC n z] (n ≤ BIG) (NM (max n 64) [(z : Rat)]):=.o1 fun hok h1 hp=>by
  refine St.enter (N:=13) Tryz.func95 rfl rfl rfl hok (enter1 h1) fun a=>?_
  repeat' (first|((with_reducible refine gS_ ?_);first|((with_reducible refine gL_ ?_);first|refine W.run ?_ fun a w G=>?_|refine W.mv fun a w G=>?_|refine W.asg fun a w G=>?_|refine W.bx fun b a w G=>?_|(refine W.nn hK ?_;clear hK K)|refine W.nl ?_|refine W.al fun b a w G=>?_|refine W.st fun w=>?_|refine W.stp fun w=>?_|refine W.ste ?_ fun w=>?_)|((with_reducible refine gC_ ?_);first|refine W.reg fun K hK=>?_|refine W.reg1 ?_|refine W.sq fun K hK=>?_|refine W.ds ?_ (fun β a w G hu=>W.fin ?_ hu) mixedOrders (by kernel_rfl)|refine W.sk ?_|refine W.rt ?_)|((with_reducible refine W.kn hK ?_);clear hK K)|with_reducible refine W.tr ?_|with_reducible refine W.br ?_|refine W.rt1 rfl ?_)|clear hK K|clear hu|exact True.intro|exact Nat.le_trans (by clear hp;omega) hp|exact Nat.le_trans (by clear hp;omega) hp.1|exact Nat.le_trans (by clear hp;omega) hp.2|(clear hp;omega)|apply And.intro|refine GI.i fun _=>?_|with_reducible rfl|decide|(simp only [List.length_cons,List.length_nil];omega))
  all_goals first
    | omega
    | exact Nat.max_le.2 ⟨hp,by decide⟩
    | (congr 1;exact frac_one)
    | skip
end Go.Proofs.YtboicjlbbbodgaaGreatDoor
namespace Go.Proofs.YtboicjlbbbodgaaGreatDoor
theorem fr_self4 {r : FR} (hw : wfl r.p ∧ wfl r.q) (hok : r.ok = true) : FR.of r.val = r:=by
  obtain ⟨s,p,q⟩:=r
  have hw : wfl p ∧ wfl q:=hw
  have hok : qok s p q = true:=hok
  by_cases hp : p.length = 0
  · have e:=List.length_eq_zero_iff.1 hp
    subst e
    have h : qok s [] q = true:=hok
    have hv : FR.val ⟨s,[],q⟩ = 0:=qval_nil rfl
    unfold qok at h
    split at h
    · rename_i k
      obtain rfl:=k.2
      rw [hv]
      have : s = false:=by simpa using h
      subst this
      unfold FR.of dwords
      rw [if_pos rfl,show (0 : Rat).num.natAbs = 0 from rfl,words_zero];rfl
    · simp at h
  · obtain ⟨_,h3,h4,h5,h6⟩:=qval_parts hw hok hp
    have hp0 : val p ≠ 0:=fun e=>ne_of_len hp (val_eq_zero h3 e)
    have hne : FR.val ⟨s,p,q⟩ ≠ 0:=fun e=>by
      have h5' : (FR.val ⟨s,p,q⟩).num = sg s (val p):=h5
      rw [e] at h5'
      have:=congrArg Int.natAbs h5'
      rw [sg_abs] at this;exact hp0 this.symm
    have hs : decide (FR.val ⟨s,p,q⟩ < 0) = s:=by
      have h5' : (FR.val ⟨s,p,q⟩).num = sg s (val p):=h5
      have h7 : FR.val ⟨s,p,q⟩ < 0 ↔ (FR.val ⟨s,p,q⟩).num < 0:=by
        rw [← Rat.not_le,← Rat.num_nonneg];omega
      rw [Bool.eq_iff_iff,decide_eq_true_iff,h7,h5']
      cases s <;> simp [sg] <;> omega
    unfold FR.of dwords
    rw [if_neg hne,hs]
    have e1 : (FR.val ⟨s,p,q⟩).num.natAbs = val p:=(congrArg Int.natAbs h5).trans sg_abs
    have e2 : (FR.val ⟨s,p,q⟩).den = val q:=h6
    rw [e1,e2,words_val hw.1 h3,words_val hw.2 h4]
theorem FX.self4 {n : Nat} {r : FR} {v : Value} {G : Gh} (h : (FX n r).t v G) (hok : r.ok = true) : (FX n (FR.of r.val)).t v G:=FX.eq h (fr_self4 (QR.wf (FX.qr h)) hok).symm
theorem QC.of_ok4 {n : Nat} {r : FR} {v : Value} {G : Gh} (h : (FX n r).t v G) (hok : r.ok = true) : (QC n r.val).t v G:=by
  have h2:=FX.self4 h hok
  obtain ⟨h1,h2,h3,h4⟩:=h2
  refine ⟨⟨?_,?_⟩,h4⟩
  · rwa [show (FR.of r.val).p = words r.val.num.natAbs from rfl,val_words] at h2
  · rw [show (FR.of r.val).q = dwords r.val from rfl] at h3
    unfold dwords at h3
    split at h3
    · have e : r.val = 0:=by assumption
      rw [e];exact Nat.lt_of_lt_of_le (by decide : (1 : Nat) < 2 ^ 1) (Nat.pow_le_pow_right (by decide) h1)
    · rwa [val_words] at h3
theorem FX.qcv {n m : Nat} {r : FR} (hok : r.ok = true) (hn : n ≤ m) {v : Value} {G : Gh} (h : (FX n r).t v G) : (QC m r.val).t v G:=QC.up (QC.of_ok4 h hok) hn
end Go.Proofs.YtboicjlbbbodgaaGreatDoor
namespace Go.Proofs.YtboicjlbbbodgaaGreatDoor
open Go.RowKit (Below)
attribute [local irreducible] Go.Code.wp Go.wpList Go.bodyPost
abbrev RTX (ls : List (List FR)) : MT:=PTS [(none,LS none (ls.map LFR))]
def valsL (l : List FR) : List Rat:=l.map FR.val
def lowF (r : FR) : Bool:=decide (r.p.length < 2) && decide (r.q.length < 2) && (decide (r.p.length = 0) || decide (dig r.p 0 ≤ 10000)) && (decide (r.q.length = 0) || decide (dig r.q 0 ≤ 12))
def shlF (a : List FR) : Bool:=decide (a.length ≤ 40) && a.all lowF
def smlF (ls : List (List FR)) : Bool:=decide (ls.length ≤ 8) && ls.all shlF && (decide (ls.length ≤ 3) || decide (5 < ls.length))
def numC (K : Nat) (l : List FR) : Int:=if 0 < l.length ∧ (levI l.length < 0 ∨ (K : Int) < levI l.length) then 10 else if l.all FR.ok then 0 else 2
noncomputable def ckAt (ls : List (List FR)) (k : Nat) : Int:=if (ls.getD k []).length ≠ 2 ^ k then 10 else if numC k (ls.getD k []) ≠ 0 then numC k (ls.getD k []) else if sgL ((ls.take k).map valsL) (valsL (ls.getD k [])) < 0 then 3 else 0
noncomputable def ckG (ls : List (List FR)) : Nat → Nat → Int
  | 0,_=>0
  | f + 1,k=>if ckAt ls k = 0 then ckG ls f (k + 1) else ckAt ls k
noncomputable def chkC (ls : List (List FR)) : Int:=if 5 < ls.length then 4 else ckG ls ls.length 0
def erN (K : Nat) : List (List FR) → Int
  | []=>0
  | x :: ys=>if numC K x = 0 then erN K ys else numC K x
noncomputable def erC (ls ys : List (List FR)) : Int:=if chkC ls = 0 then erN ls.length ys else chkC ls
noncomputable def vaF (ls ys : List (List FR)) : Bool:=smlF ls && ys.all shlF && decide (erC ls ys = 0)
theorem val_low {p : List Nat} {c : Nat} (hw : wfl p) (h : p.length < 2) (hc : p.length = 0 ∨ dig p 0 ≤ c) : Go.Proofs.YtboicjlbbbodgaaGreatDoor.val p ≤ c:=by
  match p,h with
  | [],_=>exact Nat.zero_le _
  | [x],_ =>
    rcases hc with hc | hc
    · cases hc
    · have : dig [x] 0 = x:=rfl
      rw [this] at hc
      show x + 4294967296 * 0 ≤ c
      omega
theorem RX.low {r : FR} {v : Value} {G : Gh} (h : (RX r).t v G) (hl : lowF r = true) : (FX 14 r).t v G:=by
  simp only [lowF,Bool.and_eq_true,Bool.or_eq_true,decide_eq_true_eq] at hl
  obtain ⟨⟨⟨h1,h2⟩,h3⟩,h4⟩:=hl
  have hw:=QR.wf h
  have a:=val_low hw.1 h1 h3
  have c:=val_low hw.2 h2 h4
  exact ⟨by decide,Nat.lt_of_le_of_lt a (by decide),Nat.lt_of_le_of_lt c (by decide),h⟩
theorem LFR.nm {l : List FR} {v : Value} {G : Gh} (h : (LFR l).t v G) (hs : l.all lowF = true) (hok : l.all FR.ok = true) : (NM 14 (valsL l)).t v G :=
  LS.convM (T:=RX) (U:=QC 14) (f:=FR.val) h rfl fun x hx v G hv=>FX.qcv (List.all_eq_true.1 hok x hx) (Nat.le_refl _) (RX.low hv (List.all_eq_true.1 hs x hx))
theorem RTX.tw {ls : List (List FR)} {v : Value} {G : Gh} (h : (RTX ls).t v G) (hs : ls.all (·.all lowF) = true) (hok : ls.all (·.all FR.ok) = true) : (TWR 14 (ls.map valsL)).t v G :=
  pts1 (τ':=LS none ((ls.map valsL).map (NM 14))) (fun h=>LS.convM (T:=LFR) (U:=NM 14) (f:=valsL) h rfl fun x hx v G hv=>LFR.nm hv (List.all_eq_true.1 hs x hx) (List.all_eq_true.1 hok x hx)) h
instance AsT.nmr {n : Nat} {l : List Rat} : AsT (NM n l) LFR (l.map FR.of):=⟨fun h=>NM.lfr h⟩
instance NR.lls {τs : List MT} {xs : List (List FR)} [h : AsTL τs LFR xs] : NR (LSC none τs) (LS none (xs.map LFR)):=⟨fun hv=>h.ls hv.1⟩
instance {r : FR} : Con Tryz.prog 135 [RX r] (lowF r = true) (BT r.ok):=.o1 fun hok h1 hp=>(inferInstance : Con Tryz.prog 135 [FX 14 r] _ (BT r.ok)).c1 hok (RX.low h1 hp) (by decide)
instance {r : FR} : Con Tryz.prog 118 [RX r] (lowF r = true) (BT r.ok):=.o1 fun hok h1 hp=>(inferInstance : Con Tryz.prog 118 [FX 14 r] _ (BT r.ok)).c1 hok (RX.low h1 hp) (by decide)
instance Op1.leqW {P : Program} {L : List (Nat × MT)} {B : List BX} {x y : Operand} {u v : List Nat} {t t' : TypeId} {m : Nat} {n : Int} [h : Opd L x (.ex (u32 m)) u] [k : Opd L y (.ex (.int .u32 n)) v] : Op1 P L B (.binOp .leq t x y t') True (BT (decide ((m : Int) ≤ n))) (u ++ v):=⟨fun ho hok e _ _=>.ileq hok ho (h.h e.l) (k.h e.r) rfl⟩
theorem low_e {r : FR} : (decide (((r.p.length : Nat) : Int) < 2) && decide (((r.q.length : Nat) : Int) < 2) && (decide (((r.p.length : Nat) : Int) = 0) || decide (((dig r.p (Int.toNat 0) : Nat) : Int) ≤ 10000)) && (decide (((r.q.length : Nat) : Int) = 0) || decide (((dig r.q (Int.toNat 0) : Nat) : Int) ≤ 12))) = lowF r:=by
  unfold lowF
  rw [show Int.toNat 0 = 0 from rfl,Bool.eq_iff_iff]
  simp only [Bool.and_eq_true,Bool.or_eq_true,decide_eq_true_eq]
  omega
theorem w73 {r : FR} : Con Tryz.prog 73 [RX r,.ex (.int .u32 10000),.ex (.int .u32 12)] (True) (BT (lowF r)):=.o3 fun hok h1 h2 h3 hp=>by
  refine St.enter (N:=45) Tryz.func73 rfl rfl rfl hok (enter3 h1 h2 h3) fun a=>?_
  repeat' (first|((with_reducible refine gS_ ?_);first|((with_reducible refine gL_ ?_);first|refine W.run ?_ fun a w G=>?_|refine W.mv fun a w G=>?_|refine W.asg fun a w G=>?_|refine W.bx fun b a w G=>?_|(refine W.nn hK ?_;clear hK K)|refine W.nl ?_|refine W.ste ?_ fun w=>?_)|((with_reducible refine gC_ ?_);first|refine W.reg fun K hK=>?_|refine W.reg1 ?_|refine W.sq fun K hK=>?_|refine W.sk ?_|refine W.rt ?_)|((with_reducible refine W.kn hK ?_);clear hK K)|with_reducible refine W.tr ?_|with_reducible refine W.br ?_|refine W.rt1 rfl ?_)|clear hK K|clear hu|exact True.intro|exact Nat.le_trans (by clear hp;omega) hp|exact Nat.le_trans (by clear hp;omega) hp.1|exact Nat.le_trans (by clear hp;omega) hp.2|(clear hp;omega)|apply And.intro|refine GI.i fun _=>?_|with_reducible rfl|decide|(simp only [List.length_cons,List.length_nil];omega))
  all_goals first
    | exact low_e
    | exact low_e.symm
    | (have hd : decide (((r.p.length : Nat) : Int) = 0) = false := by assumption
       have:=of_decide_eq_false hd;omega)
    | (have hd : decide (((r.q.length : Nat) : Int) = 0) = false := by assumption
       have:=of_decide_eq_false hd;omega)
    | omega
    | rfl
    | (unfold lowF;rw [Bool.eq_iff_iff];simp only [Bool.and_eq_true,Bool.or_eq_true,decide_eq_true_eq];omega)
    | skip
instance {r : FR} {τ1 : MT} [j1 : NR τ1 (RX r)] : Con Tryz.prog 73 [τ1,.ex (.int .u32 10000),.ex (.int .u32 12)] (True) (BT (lowF r)):=.o3 fun hok h1 h2 h3 hp=>w73.c3 hok (j1.h h1) h2 h3 hp
section
variable {α : Type} {p : α → Bool} {l : List α} {j : Nat}
theorem all_no [Inhabited α] (hj : j < l.length) (h : p (l.getD j default) = false) : l.all p = false:=by
  rw [List.all_eq_false]
  refine ⟨l.getD j default,?_,by rw [h];decide⟩
  rw [List.getD_eq_getElem?_getD,List.getElem?_eq_getElem hj];exact List.getElem_mem hj
theorem all_nx [Inhabited α] (hj : j < l.length) (h : (l.take j).all p = true) (h2 : p (l.getD j default) = true) : (l.take (j + 1)).all p = true:=by
  rw [List.take_add_one,List.all_append,h,List.getElem?_eq_getElem hj]
  rw [List.getD_eq_getElem?_getD,List.getElem?_eq_getElem hj] at h2
  simp only [Option.getD_some] at h2
  simp [h2]
theorem all_en (hj : l.length ≤ j) (h : (l.take j).all p = true) : l.all p = true:=by rwa [List.take_of_length_le hj] at h
theorem all_at [Inhabited α] (h : l.all p = true) (hj : j < l.length) : p (l.getD j default) = true:=List.all_eq_true.1 h _ (by rw [List.getD_eq_getElem?_getD,List.getElem?_eq_getElem hj];exact List.getElem_mem hj)
end
theorem w23 {ls : List (List FR)} : Con Tryz.prog 23 [LS none (ls.map LFR)] (True) (BT (ls.all shlF)):=.o1 fun hok h1 hp=>by
  refine St.enter (N:=27) Tryz.func23 rfl rfl rfl hok (enter1 h1) fun a=>?_
  have hlim:=LS.lenM h1
  simp only [LIM] at hlim
  repeat' (first|((with_reducible refine gS_ ?_);first|((with_reducible refine gL_ ?_);first|refine W.run ?_ fun a w G=>?_|refine W.mv fun a w G=>?_|refine W.asg fun a w G=>?_|(refine W.nn hK ?_;clear hK K)|refine W.nl ?_|refine W.al fun b a w G=>?_|refine W.st fun w=>?_|refine W.stp fun w=>?_|refine W.ste ?_ fun w=>?_)|((with_reducible refine gC_ ?_);first|refine W.reg fun K hK=>?_|refine W.reg1 ?_|refine W.sq fun K hK=>?_|refine W.sk ?_|refine W.cd (fun hc=>?_) (fun hc=>?_)|refine W.cb (fun hc=>?_) (fun hc=>?_)|refine W.bl ?_|refine W.ex ?_|refine W.rt ?_)|((with_reducible refine W.kn hK ?_);clear hK K)|(with_reducible first|refine W.bn ?_|refine W.xt ?_|refine W.xb ?_|refine W.xo ?_|refine W.tr ?_|refine W.br ?_)|refine W.rt1 rfl ?_)|refine W.lp 10 (α:=Nat) (fun j=>ls.length - j) (fun j=>j ≤ ls.length ∧ (ls.take j).all shlF = true) [2,4,6,9,10,11,12,13,14,15,16,17,18,19,20,21,22,23,24,25,26] (fun j=>[(9,NT j)]) (fun j=>[]) (0) ?_ ?_ ?_ fun j hj a w G=>?_|refine W.ag (x:=j) (j+1) ?_ ?_ ?_ ?_|refine W.lp 19 (α:=Nat) (fun q=>(ls.getD j default).length - q) (fun q=>q ≤ (ls.getD j default).length ∧ ((ls.getD j default).take q).all lowF = true) [2,6,18,19,20,21,22,23,24,25] (fun q=>[(18,NT q)]) (fun q=>[]) (0) ?_ ?_ ?_ fun q hq a w G=>?_|refine W.ag (x:=q) (q+1) ?_ ?_ ?_ ?_|clear hK K|clear hu|exact True.intro|exact Nat.le_trans (by clear hp;omega) hp|exact Nat.le_trans (by clear hp;omega) hp.1|exact Nat.le_trans (by clear hp;omega) hp.2|(clear hp;omega)|apply And.intro|refine GI.i fun _=>?_|with_reducible rfl|decide|(simp only [List.length_cons,List.length_nil];omega))
  all_goals first
    | omega
    | rfl
    | (simp;done)
    | (refine (all_no (p := shlF) (j := j) (by omega) ?_).symm
       unfold shlF
       rw [decide_eq_false (by omega),Bool.false_and])
    | (refine (all_no (p := shlF) (j := j) (by omega) ?_).symm
       unfold shlF
       rw [all_no (p:=lowF) (j:=q) (by omega) (by simpa using hc),Bool.and_false])
    | exact all_nx (p:=lowF) (by omega) hq.2 (by simpa using hc)
    | (refine all_nx (p := shlF) (by omega) hj.2 ?_
       unfold shlF
       rw [decide_eq_true (by omega),all_en (by omega) hq.2];rfl)
    | exact (all_en (by omega) hj.2).symm
    | skip
instance {ls : List (List FR)} {τ1 : MT} [j1 : NR τ1 (LS none (ls.map LFR))] : Con Tryz.prog 23 [τ1] (True) (BT (ls.all shlF)):=.o1 fun hok h1 hp=>w23.c1 hok (j1.h h1) hp
theorem sml_e {ls : List (List FR)} : (decide (((ls.length : Nat) : Int) ≤ 8) && ls.all shlF && (decide (((ls.length : Nat) : Int) ≤ 3) || decide (((ls.length : Nat) : Int) > 5))) = smlF ls:=by
  unfold smlF
  rw [show decide (((ls.length : Nat) : Int) ≤ 8) = decide (ls.length ≤ 8) from decide_eq_decide.2 (by omega),show decide (((ls.length : Nat) : Int) ≤ 3) = decide (ls.length ≤ 3) from decide_eq_decide.2 (by omega),show decide (((ls.length : Nat) : Int) > 5) = decide (5 < ls.length) from decide_eq_decide.2 (by omega)]
theorem w22 {ls : List (List FR)} : Con Tryz.prog 22 [PTS [(none,LS none (ls.map LFR))]] (True) (BT (smlF ls)):=.o1 fun hok h1 hp=>by
  refine St.enter (N:=24) Tryz.func22 rfl rfl rfl hok (enter1 h1) fun a=>?_
  repeat' (first|((with_reducible refine gS_ ?_);first|((with_reducible refine gL_ ?_);first|refine W.run ?_ fun a w G=>?_|refine W.mv fun a w G=>?_|refine W.asg fun a w G=>?_|refine W.bx fun b a w G=>?_|(refine W.nn hK ?_;clear hK K)|refine W.nl ?_|refine W.ste ?_ fun w=>?_)|((with_reducible refine gC_ ?_);first|refine W.reg fun K hK=>?_|refine W.reg1 ?_|refine W.sq fun K hK=>?_|refine W.sk ?_|refine W.rt ?_)|((with_reducible refine W.kn hK ?_);clear hK K)|with_reducible refine W.tr ?_|with_reducible refine W.br ?_|refine W.rt1 rfl ?_)|clear hK K|clear hu|exact True.intro|exact Nat.le_trans (by clear hp;omega) hp|exact Nat.le_trans (by clear hp;omega) hp.1|exact Nat.le_trans (by clear hp;omega) hp.2|(clear hp;omega)|apply And.intro|refine GI.i fun _=>?_|with_reducible rfl|decide|(simp only [List.length_cons,List.length_nil];omega))
  all_goals first
    | omega
    | exact sml_e
    | exact sml_e.symm
    | skip
instance {ls : List (List FR)} {τ1 : MT} [j1 : NR τ1 (PTS [(none,LS none (ls.map LFR))])] : Con Tryz.prog 22 [τ1] (True) (BT (smlF ls)):=.o1 fun hok h1 hp=>w22.c1 hok (j1.h h1) hp
end Go.Proofs.YtboicjlbbbodgaaGreatDoor
namespace Go.Proofs.YtboicjlbbbodgaaGreatDoor
open Go.RowKit (Below)
attribute [local irreducible] Go.Code.wp Go.wpList Go.bodyPost
attribute [local irreducible] plusF minusF joinF levI lev PW RLN tB sB iB timesF stepF tmF normF shoF TOK sgL
section
variable {K : Nat} {l : List FR} {ls ys : List (List FR)} {j : Nat}
theorem nmb_ns (h : ¬ (0 < l.length ∧ (levI l.length < 0 ∨ (K : Int) < levI l.length))) : numC K l = if l.all FR.ok then 0 else 2:=if_neg h
theorem nmb_f (h : ¬ (0 < l.length ∧ (levI l.length < 0 ∨ (K : Int) < levI l.length))) (hj : j < l.length) (hb : (l.getD j default).ok = false) : numC K l = 2:=by
  rw [nmb_ns h,all_no (p:=FR.ok) hj hb];rfl
theorem nmb_o (h : ¬ (0 < l.length ∧ (levI l.length < 0 ∨ (K : Int) < levI l.length))) (hj : l.length ≤ j) (ha : (l.take j).all FR.ok = true) : numC K l = 0:=by
  rw [nmb_ns h,all_en hj ha];rfl
end
theorem rnm_c {K : Nat} {l : List FR} (hK : K ≤ 5) : (decide (((l.length : Nat) : Int) ≠ 0) && (!pwB l.length || decide (pwI l.length > (K : Int)))) = decide (0 < l.length ∧ (levI l.length < 0 ∨ (K : Int) < levI l.length)):=by
  unfold pwB pwI
  by_cases h : 0 ≤ levI l.length ∧ levI l.length ≤ 5
  · rw [if_pos h,decide_eq_true h,Bool.eq_iff_iff]
    simp only [Bool.and_eq_true,Bool.or_eq_true,decide_eq_true_eq,Bool.not_true,Bool.false_eq_true,false_or]
    omega
  · rw [if_neg h,decide_eq_false h,Bool.eq_iff_iff]
    simp only [Bool.not_false,Bool.true_or,Bool.and_true,decide_eq_true_eq]
    omega
theorem rnm_t {K : Nat} {l : List FR} (hK : K ≤ 5) (h : (decide (((l.length : Nat) : Int) ≠ 0) && (!pwB l.length || decide (pwI l.length > (K : Int)))) = true) : numC K l = 10:=by
  rw [rnm_c hK] at h
  exact if_pos (of_decide_eq_true h)
theorem rnm_n {K : Nat} {l : List FR} (hK : K ≤ 5) (h : (decide (((l.length : Nat) : Int) ≠ 0) && (!pwB l.length || decide (pwI l.length > (K : Int)))) = false) : ¬ (0 < l.length ∧ (levI l.length < 0 ∨ (K : Int) < levI l.length)):=by
  rw [rnm_c hK] at h
  exact of_decide_eq_false h
attribute [local irreducible] pwI pwB
instance {K : Nat} {l : List FR} : Con Tryz.prog 63 [NT K,LFR l] (shlF l = true ∧ K ≤ 5) (IT (numC K l)):=.o2 fun hok h1 h2 hp=>by
  refine St.enter (N:=37) Tryz.func63 rfl rfl rfl hok (enter2 h1 h2) fun a=>?_
  have hlim:=LS.lenM h2
  simp only [LIM] at hlim
  have hsl : l.all lowF = true:=by have hp1:=hp.1;unfold shlF at hp1;simp only [Bool.and_eq_true] at hp1;exact hp1.2
  repeat' (first|((with_reducible refine gS_ ?_);first|((with_reducible refine gL_ ?_);first|refine W.run ?_ fun a w G=>?_|refine W.mv fun a w G=>?_|refine W.asg fun a w G=>?_|(refine W.nn hK ?_;clear hK K)|refine W.nl ?_|refine W.al fun b a w G=>?_|refine W.st fun w=>?_|refine W.stp fun w=>?_|refine W.ste ?_ fun w=>?_)|((with_reducible refine gC_ ?_);first|refine W.reg fun K hK=>?_|refine W.reg1 ?_|refine W.sq fun K hK=>?_|refine W.sk ?_|refine W.cd (fun hc=>?_) (fun hc=>?_)|refine W.cb (fun hc=>?_) (fun hc=>?_)|refine W.bl ?_|refine W.ex ?_|refine W.rt ?_)|((with_reducible refine W.kn hK ?_);clear hK K)|(with_reducible first|refine W.bn ?_|refine W.xt ?_|refine W.xb ?_|refine W.xo ?_|refine W.tr ?_|refine W.br ?_)|refine W.rt1 rfl ?_)|refine W.lp 30 (α:=Nat) (fun j=>l.length - j) (fun j=>j ≤ l.length ∧ (l.take j).all FR.ok = true) [4,8,29,30,31,32,33,34,35,36] (fun j=>[(29,NT j)]) (fun j=>[]) (0) ?_ ?_ ?_ fun j hj a w G=>?_|refine W.ag (x:=j) (j+1) ?_ ?_ ?_ ?_|clear hK K|clear hu|exact True.intro|exact Nat.le_trans (by clear hp;omega) hp|exact Nat.le_trans (by clear hp;omega) hp.1|exact Nat.le_trans (by clear hp;omega) hp.2|(clear hp;omega)|apply And.intro|refine GI.i fun _=>?_|with_reducible rfl|decide|(simp only [List.length_cons,List.length_nil];omega))
  all_goals first
    | omega
    | (have hz : (decide (((l.length : Nat) : Int) ≠ 0) && (!pwB l.length || decide (pwI l.length > (K : Int)))) = true := by assumption
       first
       | exact rnm_t hp.2 hz
       | exact (rnm_t hp.2 hz).symm)
    | (have hz : (decide (((l.length : Nat) : Int) ≠ 0) && (!pwB l.length || decide (pwI l.length > (K : Int)))) = false := by assumption
       have hn:=rnm_n hp.2 hz
       first
       | exact nmb_f hn (j:=j) (by omega) (by simpa using hc)
       | exact (nmb_f hn (j:=j) (by omega) (by simpa using hc)).symm
       | exact nmb_o hn (j:=j) (by omega) hj.2
       | exact (nmb_o hn (j:=j) (by omega) hj.2).symm
       | exact all_nx (p:=FR.ok) (by omega) hj.2 (by simpa using hc)
       | exact all_at (p:=lowF) hsl (by omega)
       | fail)
    | rfl
    | skip
end Go.Proofs.YtboicjlbbbodgaaGreatDoor
namespace Go.Proofs.YtboicjlbbbodgaaGreatDoor
open Go.RowKit (Below)
attribute [local irreducible] Go.Code.wp Go.wpList Go.bodyPost
theorem TOK.snoc {rs : List (List Rat)} {d : List Rat} (h : TOK rs) (h5 : rs.length < 5) (hd : d.length = 2 ^ rs.length) (hn : 0 ≤ sgL rs d) : TOK (rs ++ [d]) ∧ ∀ l : List Rat,PW rs.length l → sgL (rs ++ [d]) l = sgL rs l:=by
  have hlen : (rs ++ [d]).length = rs.length + 1:=by rw [List.length_append];rfl
  have hget : ∀ i,i < rs.length → (rs ++ [d]).getD i [] = rs.getD i []:=fun i hi=>by
    rw [List.getD_eq_getElem?_getD,List.getD_eq_getElem?_getD,List.getElem?_append_left hi]
  have hlast : (rs ++ [d]).getD rs.length [] = d:=by
    rw [List.getD_eq_getElem?_getD,List.getElem?_append_right (Nat.le_refl _),Nat.sub_self];rfl
  have hv : ∀ (k : Nat) (l : List Rat),k ≤ rs.length → l.length ≤ 2 ^ k → vlL (rs ++ [d]) l = vlL rs l:=fun k l hk hl=>by
    rw [El.vl_at (k:=k) (by omega) hl,El.vl_at (k:=k) (by omega) hl]
    exact El.vl_congr _ fun i hi=>by unfold dR;rw [hget i (by omega)]
  have hs : ∀ l : List Rat,PW rs.length l → sgL (rs ++ [d]) l = sgL rs l:=fun l hl=>by unfold sgL;rw [hv _ l (Nat.le_refl _) hl.le]
  refine ⟨⟨by omega,fun i hi=>?_,fun i hi=>?_⟩,hs⟩
  · rw [hlen] at hi
    by_cases e : i = rs.length
    · subst e;rw [hlast];exact hd
    · rw [hget i (by omega)];exact h.2.1 i (by omega)
  · rw [hlen] at hi
    by_cases e : i = rs.length
    · subst e
      rw [hlast,hv rs.length d (Nat.le_refl _) (Nat.le_of_eq hd)]
      unfold sgL at hn
      rcases sgR_cases (vlL rs d) with ⟨h3,h4⟩ | ⟨h3,h4⟩ | ⟨h3,h4⟩
      · omega
      · rw [h3];exact RR.le_refl _
      · exact RR.le_of_lt h3
    · rw [hget i (by omega),hv i _ (by omega) (by rw [h.2.1 i (by omega)];exact Nat.le_refl _)]
      exact h.2.2 i (by omega)
section
variable {ls : List (List FR)} {j : Nat} {l : List FR} {K : Nat}
theorem vals_len : (valsL l).length = l.length:=List.length_map ..
theorem numC_0 (h : numC K l = 0) : PW K (valsL l) ∧ l.all FR.ok = true:=by
  unfold numC at h
  split at h
  · cases h
  · rename_i h1
    split at h
    · rename_i h2
      refine ⟨?_,h2⟩
      by_cases h0 : l.length = 0
      · exact .inl (by rw [vals_len,h0])
      · have h3 : ¬ (levI l.length < 0 ∨ (K : Int) < levI l.length):=fun e=>h1 ⟨by omega,e⟩
        unfold levI at h3
        split at h3
        · rename_i h4
          exact .inr ⟨clg l.length,by omega,by rw [vals_len,h4]⟩
        · omega
    · cases h
theorem ck_0 (h : ckAt ls j = 0) : (ls.getD j []).length = 2 ^ j ∧ numC j (ls.getD j []) = 0 ∧ 0 ≤ sgL ((ls.take j).map valsL) (valsL (ls.getD j [])):=by
  unfold ckAt at h
  split at h
  · cases h
  · rename_i h1
    split at h
    · rename_i h2;exact absurd h h2
    · rename_i h2
      split at h
      · cases h
      · rename_i h3;exact ⟨by omega,by omega,by omega⟩
theorem take_sn (hj : j < ls.length) : ls.take (j + 1) = ls.take j ++ [ls.getD j []]:=by
  rw [List.take_add_one,List.getElem?_eq_getElem hj,List.getD_eq_getElem?_getD,List.getElem?_eq_getElem hj];rfl
theorem ck_tok (h : ∀ i,i < j → ckAt ls i = 0) (hj : j ≤ ls.length) (h5 : j ≤ 5) : TOK ((ls.take j).map valsL) ∧ (ls.take j).all (·.all FR.ok) = true:=by
  induction j with
  | zero=>exact ⟨⟨Nat.zero_le _,fun i hi=>absurd hi (Nat.not_lt_zero _),fun i hi=>absurd hi (Nat.not_lt_zero _)⟩,rfl⟩
  | succ j ih =>
    obtain ⟨i1,i2⟩:=ih (fun i hi=>h i (by omega)) (by omega) (by omega)
    obtain ⟨c1,c2,c3⟩:=ck_0 (h j (by omega))
    have hl : ((ls.take j).map valsL).length = j:=by rw [List.length_map,List.length_take];omega
    rw [take_sn (by omega),List.map_append,List.all_append,i2]
    refine ⟨(TOK.snoc i1 (by omega) (by rw [hl,vals_len,c1]) c3).1,?_⟩
    show (true && ((ls.getD j []).all FR.ok && true)) = true
    rw [(numC_0 c2).2];rfl
theorem ckG_0 : ∀ {f k : Nat},ckG ls f k = 0 → ∀ i,k ≤ i → i < k + f → ckAt ls i = 0
  | 0,k,_,i,h1,h2=>by omega
  | f + 1,k,h,i,h1,h2=>by
    unfold ckG at h
    split at h
    · rename_i h3
      by_cases e : i = k
      · rw [e];exact h3
      · exact ckG_0 h i (by omega) (by omega)
    · rename_i h3;exact absurd h h3
theorem chk_0 (h : chkC ls = 0) : ls.length ≤ 5 ∧ (∀ i,i < ls.length → ckAt ls i = 0) ∧ TOK (ls.map valsL) ∧ ls.all (·.all FR.ok) = true:=by
  unfold chkC at h
  split at h
  · cases h
  · rename_i h1
    have hc : ∀ i,i < ls.length → ckAt ls i = 0:=fun i hi=>ckG_0 h i (Nat.zero_le _) (by omega)
    have ht:=ck_tok hc (Nat.le_refl _) (by omega)
    rw [List.take_length] at ht
    exact ⟨by omega,hc,ht⟩
theorem chk_5 (h : ((ls.length : Nat) : Int) > 5) : chkC ls = 4:=if_pos (by omega)
theorem chk_i (h : ¬ ((ls.length : Nat) : Int) > 5) : ckG ls (ls.length - 0) 0 = chkC ls:=by
  unfold chkC;rw [if_neg (by omega)];rfl
theorem ckG_n (hj : j < ls.length) (h : ckAt ls j = 0) (hi : ckG ls (ls.length - j) j = chkC ls) : ckG ls (ls.length - (j + 1)) (j + 1) = chkC ls:=by
  rw [show ls.length - j = (ls.length - (j + 1)) + 1 by omega] at hi
  unfold ckG at hi
  rwa [if_pos h] at hi
theorem ckG_e (hj : j < ls.length) (h : ckAt ls j ≠ 0) (hi : ckG ls (ls.length - j) j = chkC ls) : ckAt ls j = chkC ls:=by
  rw [show ls.length - j = (ls.length - (j + 1)) + 1 by omega] at hi
  unfold ckG at hi
  rwa [if_neg h] at hi
theorem ckG_z (hj : ls.length ≤ j) (hi : ckG ls (ls.length - j) j = chkC ls) : chkC ls = 0:=by
  rw [show ls.length - j = 0 by omega] at hi
  exact hi.symm
theorem ck_1 (h : ((((ls.getD j default).length : Nat) : Int) ≠ ((2 ^ j : Nat) : Int))) : ckAt ls j = 10:=by
  have e : (ls.getD j []).length = (ls.getD j default).length:=rfl
  exact if_pos (by omega)
theorem ck_2 (h : ¬ ((((ls.getD j default).length : Nat) : Int) ≠ ((2 ^ j : Nat) : Int))) (h2 : numC j (ls.getD j default) ≠ 0) : ckAt ls j = numC j (ls.getD j default):=by
  have e : (ls.getD j []).length = (ls.getD j default).length:=rfl
  unfold ckAt
  rw [if_neg (by omega)]
  exact if_pos h2
theorem ck_3 (h : ¬ ((((ls.getD j default).length : Nat) : Int) ≠ ((2 ^ j : Nat) : Int))) (h2 : numC j (ls.getD j default) = 0) : ckAt ls j = if sgL ((ls.take j).map valsL) (valsL (ls.getD j default)) < 0 then 3 else 0:=by
  have e : (ls.getD j []).length = (ls.getD j default).length:=rfl
  unfold ckAt
  rw [if_neg (by omega)]
  exact if_neg (fun e=>e h2)
theorem sml_1 (h : smlF ls = true) : (ls.all shlF = true ∧ ls.length ≤ 8) ∧ (ls.length ≤ 3 ∨ 5 < ls.length):=by
  unfold smlF at h
  simp only [Bool.and_eq_true,Bool.or_eq_true,decide_eq_true_eq] at h
  exact ⟨⟨h.1.2,h.1.1⟩,h.2⟩
theorem shl_1 (h : shlF l = true) : l.length ≤ 40 ∧ l.all lowF = true:=by
  unfold shlF at h
  simpa using h
theorem sml_low (h : ls.all shlF = true) : ls.all (·.all lowF) = true:=List.all_eq_true.2 fun x hx=>(shl_1 (List.all_eq_true.1 h x hx)).2
end
theorem sB3 {k : Nat} (hk : k ≤ 3) : sB k (14 + 14) 14 ≤ BIG:=Nat.le_trans (sB_ups hk) (by decide)
def tailX : Nat → List (List FR) → List TX
  | _,[]=>[]
  | k,d :: ds=>(List.replicate (2 ^ k) 0,some d) :: tailX (k + 1) ds
theorem tailX_get : ∀ {ds : List (List FR)} {k i : Nat},(tailX k ds)[i]? = ds[i]?.map fun d=>(List.replicate (2 ^ (k + i)) 0,some d)
  | [],k,i=>by simp [tailX]
  | d :: ds,k,0=>rfl
  | d :: ds,k,i + 1=>by
    show (tailX (k + 1) ds)[i]? = _
    rw [tailX_get,show k + 1 + i = k + (i + 1) by omega];rfl
theorem zero_rep {n : Nat} : zeroF (List.replicate n 0) = true:=by
  unfold zeroF
  rw [List.all_eq_true]
  intro x hx
  rw [(List.mem_replicate.1 hx).2];rfl
theorem sgL_zero {rs : List (List Rat)} {l : List Rat} (h : zeroF l = true) : sgL rs l = 0:=by
  unfold sgL vlL
  rw [El.toE_zero h,El.vl_zero];exact sgR_zero
theorem tok_tail : ∀ {ds : List (List FR)} {rs : List (List Rat)},TOK rs → rs.length + ds.length ≤ 5 → TOK (rs ++ (tailX rs.length ds).map Prod.fst)
  | [],rs,h,_=>by show TOK (rs ++ []);rw [List.append_nil];exact h
  | d :: ds,rs,h,h5=>by
    have hd : d :: ds = [d] ++ ds:=rfl
    have h5' : rs.length + (ds.length + 1) ≤ 5:=h5
    have hs:=(TOK.snoc (d:=List.replicate (2 ^ rs.length) 0) h (by omega) (by simp) (by rw [sgL_zero zero_rep];exact Int.le_refl 0)).1
    have hl : (rs ++ [List.replicate (2 ^ rs.length) 0]).length = rs.length + 1:=by rw [List.length_append];rfl
    have:=tok_tail (ds:=ds) hs (by rw [hl];omega)
    rw [hl,List.append_assoc] at this
    exact this
def mkX (j : Nat) (ls : List (List FR)) : List TX:=((ls.take j).map fun d=>((valsL d,none) : TX)) ++ tailX j (ls.drop j)
section
variable {ls : List (List FR)} {j : Nat}
theorem mkX_tt (hs : ls.all (·.all lowF) = true) (hok : (ls.take j).all (·.all FR.ok) = true) {v : Value} {G : Gh} (h : (RTX ls).t v G) : (TT 14 (mkX j ls)).t v G :=
  pts1 (τ':=LS none ((mkX j ls).map (NX 14))) (fun {v G} h=>by
    have hlen : ((ls.take j).map fun d=>((valsL d,none) : TX)).length = (ls.take j).length:=List.length_map ..
    refine LS.els h ?_ fun i τ σ h1 h2 {v} hv=>?_
    · rw [List.length_map,List.length_map]
      unfold mkX
      rw [List.length_append,hlen]
      have : ∀ {ds : List (List FR)} {k : Nat},(tailX k ds).length = ds.length:=by
        intro ds
        induction ds with
        | nil=>intro k;rfl
        | cons d ds ih=>intro k;show (tailX (k + 1) ds).length + 1 = ds.length + 1;rw [ih]
      rw [this,← List.length_append,List.take_append_drop]
    · rw [List.getElem?_map] at h1 h2
      cases hl : ls[i]? with
      | none=>rw [hl] at h1;cases h1
      | some d =>
        rw [hl] at h1;cases h1
        have hmem : d ∈ ls:=List.mem_of_getElem? hl
        unfold mkX at h2
        by_cases hi : i < j
        · have hlt : i < (ls.take j).length:=by rw [List.length_take];have:=(List.getElem?_eq_some_iff.1 hl).1;omega
          rw [List.getElem?_append_left (by rw [hlen];exact hlt),List.getElem?_map,List.getElem?_take_of_lt hi,hl] at h2
          cases h2
          have hm : d ∈ ls.take j:=by
            refine List.mem_of_getElem? (i:=i) ?_
            rw [List.getElem?_take_of_lt hi,hl]
          show (NX 14 (valsL d,none)).t v G
          rw [NX.of]
          exact LFR.nm hv (List.all_eq_true.1 hs d hmem) (List.all_eq_true.1 hok d hm)
        · have hjl : j ≤ ls.length:=by have:=(List.getElem?_eq_some_iff.1 hl).1;omega
          have hlt : (ls.take j).length = j:=by rw [List.length_take];omega
          rw [List.getElem?_append_right (by rw [hlen,hlt];omega),hlen,hlt,tailX_get,List.getElem?_drop,show j + (i - j) = i by omega,hl] at h2
          cases h2
          show (NX 14 (_,some d)).t v G
          rw [NX.lfr]
          exact hv) h
theorem mkX_rs : rsT (mkX j ls) = (ls.take j).map valsL ++ (tailX j (ls.drop j)).map Prod.fst:=by
  with_unfolding_all (show (mkX j ls).map Prod.fst = _)
  unfold mkX
  rw [List.map_append,List.map_map]
  rfl
theorem mkX_ok (hj : j ≤ ls.length) : okT j (mkX j ls):=fun i hi=>by
  unfold mkX
  have hl : ((ls.take j).map fun d=>((valsL d,none) : TX)).length = j:=by rw [List.length_map,List.length_take];omega
  rw [List.getD_eq_getElem?_getD,List.getElem?_append_left (by omega),List.getElem?_map]
  cases (ls.take j)[i]? <;> rfl
theorem mkX_tok (hj : j ≤ ls.length) (h5 : ls.length ≤ 5) (ht : TOK ((ls.take j).map valsL)) : TOK (rsT (mkX j ls)) ∧ (rsT (mkX j ls)).length = ls.length ∧ ∀ l : List Rat,PW j l → sgL (rsT (mkX j ls)) l = sgL ((ls.take j).map valsL) l:=by
  have hl : ((ls.take j).map valsL).length = j:=by rw [List.length_map,List.length_take];omega
  have h:=tok_tail (ds:=ls.drop j) ht (by rw [hl,List.length_drop];omega)
  rw [hl] at h
  have hlen : ∀ {ds : List (List FR)} {k : Nat},(tailX k ds).length = ds.length:=by
    intro ds
    induction ds with
    | nil=>intro k;rfl
    | cons d ds ih=>intro k;show (tailX (k + 1) ds).length + 1 = ds.length + 1;rw [ih]
  rw [mkX_rs]
  refine ⟨h,by rw [List.length_append,hl,List.length_map,hlen,List.length_drop];omega,fun l hp=>?_⟩
  have h2:=(h.take j).2
  have e : (((ls.take j).map valsL) ++ (tailX j (ls.drop j)).map Prod.fst).take j = (ls.take j).map valsL:=by
    rw [List.take_append_of_le_length (by omega),List.take_of_length_le (by omega)]
  rw [e,hl] at h2
  exact (h2 l hp).symm
end
theorem rsgR {ls : List (List FR)} {l : List FR} {j : Nat} : Con Tryz.prog 75 [RTX ls,LFR l] (l.length = 2 ^ j ∧ j ≤ ls.length ∧ ls.length ≤ 3 ∧ ls.all (·.all lowF) = true ∧ (ls.take j).all (·.all FR.ok) = true ∧ l.all lowF = true ∧ l.all FR.ok = true ∧ TOK ((ls.take j).map valsL)) (IT (sgL ((ls.take j).map valsL) (valsL l))):=.o2 fun hok h1 h2 hp=>by
  obtain ⟨p1,p2,p3,p4,p5,p6,p7,p8⟩:=hp
  obtain ⟨m1,m2,m3⟩:=mkX_tok p2 (by omega) p8
  have hpw : PW j (valsL l):=PW.pow (by rw [vals_len];exact p1)
  have h:=(rsgP (kk:=j) (n:=14) (r:=14) (xs:=mkX j ls) (l:=valsL l)).c2 hok (mkX_tt p4 p5 h1) (LFR.nm h2 p6 p7) ⟨by rw [m2];exact p2,m1,hpw,by decide,by decide,sB3 (by omega),mkX_ok p2⟩
  rwa [m3 _ hpw] at h
instance {ls : List (List FR)} {l : List FR} : Con Tryz.prog 75 [RTX ls,LFR l] (l.length = 2 ^ (lev l.length) ∧ lev l.length ≤ ls.length ∧ ls.length ≤ 3 ∧ ls.all (·.all lowF) = true ∧ (ls.take (lev l.length)).all (·.all FR.ok) = true ∧ l.all lowF = true ∧ l.all FR.ok = true ∧ TOK ((ls.take (lev l.length)).map valsL)) (IT (sgL ((ls.take (lev l.length)).map valsL) (valsL l))):=rsgR
attribute [local irreducible] plusF minusF joinF levI lev PW RLN tB sB iB timesF stepF tmF normF shoF TOK sgL chkC ckAt ckG numC lowF shlF smlF
instance {ls : List (List FR)} : Con Tryz.prog 43 [RTX ls] (smlF ls = true) (IT (chkC ls)):=.o1 fun hok h1 hp=>by
  refine St.enter (N:=34) Tryz.func43 rfl rfl rfl hok (enter1 h1) fun a=>?_
  have hs:=sml_1 hp
  have hlow:=sml_low hs.1.1
  repeat' (first|((with_reducible refine gS_ ?_);first|((with_reducible refine gL_ ?_);first|refine W.run ?_ fun a w G=>?_|refine W.mv fun a w G=>?_|refine W.asg fun a w G=>?_|refine W.bx fun b a w G=>?_|(refine W.nn hK ?_;clear hK K)|refine W.nl ?_|refine W.ste ?_ fun w=>?_)|((with_reducible refine gC_ ?_);first|refine W.reg fun K hK=>?_|refine W.reg1 ?_|refine W.sq fun K hK=>?_|refine W.sk ?_|refine W.cd (fun hc=>?_) (fun hc=>?_)|refine W.cb (fun hc=>?_) (fun hc=>?_)|refine W.bl ?_|refine W.ex ?_|refine W.rt ?_)|((with_reducible refine W.kn hK ?_);clear hK K)|(with_reducible first|refine W.bn ?_|refine W.xt ?_|refine W.xb ?_|refine W.xo ?_|refine W.tr ?_|refine W.br ?_)|refine W.rt1 rfl ?_)|refine W.lp 14 (α:=Nat) (fun j=>ls.length - j) (fun j=>j ≤ ls.length ∧ (∀ i,i < j → ckAt ls i = 0) ∧ ckG ls (ls.length - j) j = chkC ls) [2,3,4,5,13,14,15,16,17,18,19,20,21,22,23,24,25,26,27,28,29,30,31,32,33] (fun j=>[(13,NT j)]) (fun j=>[]) (0) ?_ ?_ ?_ fun j hj a w G=>?_|refine W.ag (x:=j) (j+1) ?_ ?_ ?_ ?_|clear hK K|clear hu|exact True.intro|exact Nat.le_trans (by clear hp;omega) hp|exact Nat.le_trans (by clear hp;omega) hp.1|exact Nat.le_trans (by clear hp;omega) hp.2|(clear hp;omega)|apply And.intro|refine GI.i fun _=>?_|with_reducible rfl|decide|(simp only [List.length_cons,List.length_nil];omega))
  all_goals first
    | omega
    | (have hz : ((ls.length : Nat) : Int) > 5 := by assumption
       first
       | exact chk_5 hz
       | exact (chk_5 hz).symm)
    | (have hz : ¬ ((ls.length : Nat) : Int) > 5 := by assumption
       first
       | exact chk_i hz
       | exact fun i hi=>absurd hi (Nat.not_lt_zero i)
       | exact ⟨fun i hi=>absurd hi (Nat.not_lt_zero i),chk_i hz⟩)
    | (have hz : ¬ ((ls.length : Nat) : Int) > 5 := by assumption
       have hjl : j < ls.length:=by omega
       have hj1:=hj.2.1
       have hj2:=hj.2.2
       have h2j : 2 ^ j ≤ 2 ^ 5:=Nat.pow_le_pow_right (by decide) (by omega)
       have hsh:=all_at (p:=shlF) hs.1.1 hjl
       have hlo:=(shl_1 hsh).2
       have htl : (ls.take j).length = j:=by rw [List.length_take];omega
       (try rw [htl])
       first
       | omega
       | exact hsh
       | exact hlo
       | (have hd : ((((ls.getD j default).length : Nat) : Int) ≠ ((2 ^ j : Nat) : Int)) := by
            have h0 : (((ls.getD j default).length : Nat) : Int) ≠ ((1 * 2 ^ j : Nat) : Int):=by assumption
            rwa [Nat.one_mul] at h0
          have h0:=ck_1 hd
          have h1:=ckG_e hjl (by rw [h0];decide) hj2
          rw [h0] at h1
          first
          | exact h1
          | exact h1.symm)
       | (have hd : ¬ ((((ls.getD j default).length : Nat) : Int) ≠ ((2 ^ j : Nat) : Int)) := by
            have h0 : ¬ (((ls.getD j default).length : Nat) : Int) ≠ ((1 * 2 ^ j : Nat) : Int):=by assumption
            rwa [Nat.one_mul] at h0
          have hle : lev (ls.getD j default).length = j:=by rw [show (ls.getD j default).length = 2 ^ j by omega,lev_pow]
          (try simp only [hle] at *)
          first
          | omega
          | (have hn : ¬ numC j (ls.getD j default) = 0 := by
               first
               | assumption
               | (have h0 : numC (ls.take j).length (ls.getD j default) ≠ 0 := by assumption
                  rwa [htl] at h0)
             have h0:=ck_2 hd hn
             have h1:=ckG_e hjl (by rw [h0];exact hn) hj2
             rw [h0] at h1
             first
             | exact h1
             | exact h1.symm)
          | (have hn : numC j (ls.getD j default) = 0 := by
               first
               | omega
               | (have h0 : ¬ numC (ls.take j).length (ls.getD j default) ≠ 0 := by assumption
                  rw [htl] at h0
                  omega)
             have h0:=ck_3 hd hn
             have hnu:=numC_0 hn
             obtain ⟨ht1,ht2⟩:=ck_tok hj1 (by omega) (by omega)
             first
             | exact ht1
             | exact ht2
             | exact hnu.1
             | exact hnu.2
             | (exact sml_low (List.all_eq_true.2 fun x hx=>List.all_eq_true.1 hs.1.1 x (List.mem_of_mem_take hx)))
             | (have hg : sgL ((ls.take j).map valsL) (valsL (ls.getD j default)) < 0 := by assumption
                rw [if_pos hg] at h0
                have h1:=ckG_e hjl (by rw [h0];decide) hj2
                rw [h0] at h1
                first
                | exact h1
                | exact h1.symm)
             | (have hg : ¬ sgL ((ls.take j).map valsL) (valsL (ls.getD j default)) < 0 := by assumption
                rw [if_neg hg] at h0
                have h1:=ckG_n hjl h0 hj2
                first
                | exact h1
                | (intro i hi
                   by_cases e : i = j
                   · rw [e];exact h0
                   · exact hj1 i (by omega)))
             | fail)
          | fail)
       | fail)
    | (have h0 := ckG_z (by omega) hj.2.2
       first
       | exact h0
       | exact h0.symm)
    | skip
end Go.Proofs.YtboicjlbbbodgaaGreatDoor
