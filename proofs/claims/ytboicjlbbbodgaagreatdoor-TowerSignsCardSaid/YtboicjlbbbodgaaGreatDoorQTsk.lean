import Derived.ChangeArms
import Derived.SizedLaws
import Derived.WideShapes
import Derived.Test.YtboicjlbbbodgaaGreatDoorQTsj
set_option linter.unusedVariables false
set_option linter.unusedSimpArgs false
set_option maxHeartbeats 4000000
set_option maxRecDepth 100000
set_option synthInstance.maxSize 100000
set_option synthInstance.maxHeartbeats 400000
namespace Go.Proofs.YtboicjlbbbodgaaGreatDoor
open Go.RowKit (Below)
attribute [local irreducible] Go.Code.wp Go.wpList Go.bodyPost
private theorem gS_ {W0 : World} {G0 : Gh} {N : Nat} {L : List (Nat × MT)} {B : List BX} {a : Act} {w : World} {G : Gh} {q : Prop} (h : St W0 G0 N L B a w G → q) : St W0 G0 N L B a w G → q:=h
private theorem gL_ {p : Prop} {P : Program} {arr : Array Oper} {Q : Exit → Act → World → Prop} {l : List Oper} {a : Act} {w : World} (h : p → wpList P arr Q l a w) : p → wpList P arr Q l a w:=h
private theorem gC_ {p : Prop} {P : Program} {c : Code} {Q : Exit → Act → World → Prop} {a : Act} {w : World} (h : p → c.wp P Q a w) : p → c.wp P Q a w:=h
private theorem mixedOrders : Tryz.prog.follows .mixedOrders = true:=by kernel_rfl
attribute [local irreducible] plusF minusF joinF levI lev PW RLN tB sB iB timesF stepF tmF normF shoF TOK sgL ivF wideF wF wB
theorem w143 {n m : Nat} {x y : Int} : Con Tryz.prog 143 [W n x,W m y] (n ≤ BIG ∧ m ≤ BIG) (WC (max n m + 1) (x - y)):=.o2 fun hok h1 h2 hp=>by
  refine St.enter (N:=9) Tryz.func143 rfl rfl rfl hok (enter2 h1 h2) fun a=>?_
  repeat' (first|((with_reducible refine gS_ ?_);first|((with_reducible refine gL_ ?_);first|refine W.run ?_ fun a w G=>?_|refine W.mv fun a w G=>?_|refine W.asg fun a w G=>?_|refine W.bx fun b a w G=>?_|(refine W.nn hK ?_;clear hK K)|refine W.nl ?_|refine W.al fun b a w G=>?_|refine W.st fun w=>?_|refine W.stp fun w=>?_|refine W.ste ?_ fun w=>?_)|((with_reducible refine gC_ ?_);first|refine W.reg fun K hK=>?_|refine W.reg1 ?_|refine W.sq fun K hK=>?_|refine W.ds ?_ (fun β a w G hu=>W.fin ?_ hu) mixedOrders (by kernel_rfl)|refine W.sk ?_|refine W.rt ?_)|((with_reducible refine W.kn hK ?_);clear hK K)|with_reducible refine W.tr ?_|with_reducible refine W.br ?_|refine W.rt1 rfl ?_)|clear hK K|clear hu|exact True.intro|exact Nat.le_trans (by clear hp;omega) hp|exact Nat.le_trans (by clear hp;omega) hp.1|exact Nat.le_trans (by clear hp;omega) hp.2|(clear hp;omega)|apply And.intro|refine GI.i fun _=>?_|with_reducible rfl|decide|(simp only [List.length_cons,List.length_nil];omega))
  all_goals first | omega | skip
instance {n m : Nat} {x y : Int} {τ1 : MT} [j1 : NW τ1 (W n x)] {τ2 : MT} [j2 : NW τ2 (W m y)] : Con Tryz.prog 143 [τ1,τ2] (n ≤ BIG ∧ m ≤ BIG) (WC (max n m + 1) (x - y)):=.o2 fun hok h1 h2 hp=>w143.c2 hok (j1.h h1) (j2.h h2) hp
local instance (priority:=900) Cv.wcx {n k : Nat} {z z' : Int} : Cv (WC n z) (WC k z') (z = z' ∧ z.natAbs < 2 ^ k):=⟨fun e v G h=>⟨by rw [← e.1];exact e.2,by rw [← e.1];exact h.2⟩⟩
theorem NM.cb {n : Nat} {l : List Rat} {v : Value} {G : Gh} (h : (NM n l).t v G) : CB n l:=fun i=>by
  have hp:=pow2_pos n
  by_cases hi : i < l.length
  · obtain ⟨A,c,us,h1,h2,h3,h4,h5⟩:=LS.vals h
    have hl : us.length = l.length:=by rw [h4.1,List.length_map]
    have:=(h4.2 i (QC n (l[i])) us[i] (by rw [List.getElem?_map,List.getElem?_eq_getElem hi];rfl) (List.getElem?_eq_getElem (by omega))).2
    have hq:=qb_abs (show qb n (l[i]) from this.1)
    unfold cf
    rw [List.getD_eq_getElem?_getD,List.getElem?_eq_getElem hi]
    exact hq
  · rw [cf_out (by omega)]
    constructor <;> grind
theorem TWR.cb {n : Nat} {rs : List (List Rat)} {v : Value} {G : Gh} (h : (TWR n rs).t v G) (j : Nat) : CB n (rs.getD j []):=by
  obtain ⟨us,e,a1,a2⟩:=h
  match us,a1 with
  | u :: us,_ =>
    have hu:=(a2 0 _ u rfl rfl).2
    by_cases hj : j < rs.length
    · obtain ⟨A,c,us,h1,h2,h3,h4,h5⟩:=LS.vals hu
      have hl : us.length = rs.length:=by rw [h4.1,List.length_map]
      have:=(h4.2 j (NM n (rs[j])) us[j] (by rw [List.getElem?_map,List.getElem?_eq_getElem hj];rfl) (List.getElem?_eq_getElem (by omega))).2
      rw [List.getD_eq_getElem?_getD,List.getElem?_eq_getElem hj]
      exact NM.cb this
    · rw [List.getD_eq_getElem?_getD,List.getElem?_eq_none (by omega)]
      intro i
      rw [Option.getD_none,cf_out (by simp)]
      have hp:=pow2_pos n
      constructor <;> grind
theorem w97 {n r : Nat} {rs : List (List Rat)} {l : List Rat} : Con Tryz.prog 97 [TWR r rs,NM n l] (TOK rs ∧ PW rs.length l ∧ 1 ≤ n ∧ 1 ≤ r ∧ sB rs.length (n + wF rs n r + 2 + r) r ≤ BIG) (WC (wF rs n r) (flR (vlL rs l))):=.o2 fun hok h1 h2 hp=>by
  refine St.enter (N:=60) Tryz.func97 rfl rfl rfl hok (enter2 h1 h2) fun a=>?_
  have h5:=hp.1.rl
  have hv : ABS (vlL rs l) (RR.of (2 ^ wB rs.length n r)):=vlL_abs hp.1 hp.2.1 (NM.cb h2) (TWR.cb h1)
  have hbg:=sB_le (r:=r) (k:=rs.length) (n:=n + wF rs n r + 2 + r)
  have hb1:=sB_mono (r:=r) (k:=rs.length) (show n + wF rs n r + 1 + r ≤ n + wF rs n r + 2 + r by omega)
  have l1:=hp.2.1.l32 h5.2
  have hW : wF rs n r = wB rs.length n r + 66:=by with_unfolding_all rfl
  have b0:=fl_bit (j:=0) hW (by omega)
  have b1 : Int.natAbs 1 < 2 ^ wF rs n r:=by have:=b0.1;simpa using this
  have b2 : Int.natAbs (-1) < 2 ^ wF rs n r:=by have:=b0.2.1;simpa using this
  clear b0
  repeat' (first|((with_reducible refine gS_ ?_);first|((with_reducible refine gL_ ?_);first|refine W.run ?_ fun a w G=>?_|refine W.mv fun a w G=>?_|refine W.asg fun a w G=>?_|refine W.bx fun b a w G=>?_|(refine W.nn hK ?_;clear hK K)|refine W.nl ?_|refine W.al fun b a w G=>?_|refine W.st fun w=>?_|refine W.stp fun w=>?_|refine W.ste ?_ fun w=>?_)|((with_reducible refine gC_ ?_);first|refine W.reg fun K hK=>?_|refine W.reg1 ?_|refine W.sq fun K hK=>?_|refine W.ds ?_ (fun β a w G hu=>W.fin ?_ hu) mixedOrders (by kernel_rfl)|refine W.sk ?_|refine W.cd (fun hc=>?_) (fun hc=>?_)|refine W.cb (fun hc=>?_) (fun hc=>?_)|refine W.bl ?_|refine W.ex ?_|refine W.rt ?_)|((with_reducible refine W.kn hK ?_);clear hK K)|(with_reducible first|refine W.bn ?_|refine W.xt ?_|refine W.xb ?_|refine W.xo ?_|refine W.tr ?_|refine W.br ?_)|refine W.rt1 rfl ?_)|refine W.lp 12 (α:=Nat) (fun j=>wB rs.length n r + 1 - j) (fun j=>j ≤ wB rs.length n r + 1) [12,13,14,15,16,17,18,19,20,21,22] (fun j=>[]) (fun j=>[(6,WC (wF rs n r) ((2 : Int) ^ j))]) (0) ?_ ?_ ?_ fun j hj a w G=>?_|refine W.ag (x:=j) (j+1) ?_ ?_ ?_ ?_|refine W.lp 23 (α:=Nat) (fun i=>wB rs.length n r + 1 - i) (fun i=>i ≤ wB rs.length n r + 1) [23,24,25,26,27,28,29,30,31,32,33] (fun i=>[]) (fun i=>[(5,WC (wF rs n r) (-(2 : Int) ^ i))]) (0) ?_ ?_ ?_ fun i hi a w G=>?_|refine W.ag (x:=i) (i+1) ?_ ?_ ?_ ?_|refine W.lp 34 (α:=Int × Int) (fun y=>(y.2 - y.1).toNat) (fun y=>RR.of (y.1 : Int) ≤ vlL rs l ∧ vlL rs l < RR.of (y.2 : Int) ∧ y.1.natAbs ≤ 2 ^ (wB rs.length n r + 1) ∧ y.2.natAbs ≤ 2 ^ (wB rs.length n r + 1)) [7,8,9,34,35,36,37,38,39,40,41,42,43,44,45,46,47,48,49,50,51,52,53,54,55,56,57,58] (fun y=>[]) (fun y=>[(5,WC (wF rs n r) y.1),(6,WC (wF rs n r) y.2)]) ((-(2 : Int) ^ i,(2 : Int) ^ j)) ?_ ?_ ?_ fun y hy a w G=>?_|refine W.ag (x:=y) ((if sgL rs (plusF l (minusF [(((y.1 + y.2) / 2 : Int) : Rat)])) ≥ 0 then ((y.1 + y.2) / 2,y.2) else (y.1,(y.1 + y.2) / 2))) ?_ ?_ ?_ ?_|clear hK K|clear hu|exact True.intro|exact Nat.le_trans (by clear hp;omega) hp|exact Nat.le_trans (by clear hp;omega) hp.1|exact Nat.le_trans (by clear hp;omega) hp.2|(clear hp;omega)|apply And.intro|refine GI.i fun _=>?_|with_reducible rfl|decide|(simp only [List.length_cons,List.length_nil];omega))
  all_goals have p1:=hp.1
  all_goals have p2:=hp.2.1
  all_goals have p3:=hp.2.2.1
  all_goals have p4:=hp.2.2.2.1
  all_goals have p5:=hp.2.2.2.2
  all_goals have hmx : max (wF rs n r) 64 = wF rs n r:=by omega
  all_goals have hpw : ∀ z : Rat,PW rs.length (plusF l (minusF [z])):=fun z=>p2.plus (PW.minus pwq)
  all_goals (try simp only [minus_len,List.length_cons,List.length_nil] at *)
  all_goals have hmx2 : max (wF rs n r + 1) 64 = wF rs n r + 1:=by omega
  all_goals (try simp only [Nat.max_self])
  all_goals (try rw [hmx])
  all_goals (try rw [hmx2])
  all_goals first
    | omega
    | with_reducible exact p1
    | with_reducible exact hpw _
    | with_reducible rfl
    | (show Int.natAbs 1 < 2 ^ wF rs n r;with_reducible exact b1)
    | (show Int.natAbs (-1) < 2 ^ wF rs n r;with_reducible exact b2)
    | (have hw := (sg_whole (rs := rs) (l := l) (z := (2 : Int) ^ j)).1.1 (by assumption)
       have hjb:=fl_hi hv hw
       have g1:=fl_bit (j:=j) hW (by omega)
       have g2:=fl_bit (j:=j + 1) hW (by omega)
       have g3:=(fl_dbl (j:=j)).1
       first
       | omega
       | exact g3
       | (rw [g3];exact g2.1)
       | fail)
    | (have hw := (sg_whole (rs := rs) (l := l) (z := -(2 : Int) ^ i)).2.1 (by assumption)
       have hjb:=fl_lo hv hw
       have g1:=fl_bit (j:=i) hW (by omega)
       have g2:=fl_bit (j:=i + 1) hW (by omega)
       have g3:=(fl_dbl (j:=i)).2
       first
       | omega
       | exact g3
       | (rw [g3];exact g2.2.1)
       | fail)
    | (have hw := (sg_whole (rs := rs) (l := l) (z := -(2 : Int) ^ i)).1.1 (by omega)
       have hw2:=(sg_whole (rs:=rs) (l:=l) (z:=(2 : Int) ^ j)).2.1 (by omega)
       have g1:=fl_bit (j:=i) hW (by omega)
       have g2:=fl_bit (j:=j) hW (by omega)
       first
       | with_reducible exact hw
       | with_reducible exact hw2
       | (rw [Int.natAbs_neg];omega)
       | omega
       | fail)
    | (have hgt : cmpZ (y.2 - y.1) 1 > 0 := by assumption
       have hg:=cmpZ_gt hgt
       have hm:=fl_mid hg
       have g1:=fl_bit (j:=0) hW (by omega)
       have hy1:=hy.1
       have hy2:=hy.2.1
       have hy3:=hy.2.2.1
       have hy4:=hy.2.2.2
       have hc2:=sg_whole (rs:=rs) (l:=l) (z:=(y.1 + y.2) / 2)
       have hab : ((y.1 + y.2) / 2).natAbs ≤ 2 ^ (wB rs.length n r + 1):=by omega
       first
       | omega
       | (have hz : sgL rs (plusF l (minusF [(((y.1 + y.2) / 2 : Int) : Rat)])) ≥ 0 := by assumption
          have hz2:=hc2.1.1 hz
          first
          | (rw [if_pos hz];done)
          | (rw [if_pos hz];with_reducible assumption)
          | (rw [if_pos hz];show (y.2 - (y.1 + y.2) / 2).toNat < (y.2 - y.1).toNat;omega)
          | (rw [if_pos hz];show ((y.1 + y.2) / 2).natAbs ≤ _;omega)
          | (rw [if_pos hz];show y.2.natAbs ≤ _;omega)
          | (rw [if_pos hz];omega)
          | fail)
       | (have hz : ¬ sgL rs (plusF l (minusF [(((y.1 + y.2) / 2 : Int) : Rat)])) ≥ 0 := by assumption
          have hz2:=hc2.2.1 (by omega)
          first
          | (rw [if_neg hz];done)
          | (rw [if_neg hz];with_reducible assumption)
          | (rw [if_neg hz];show ((y.1 + y.2) / 2 - y.1).toNat < (y.2 - y.1).toNat;omega)
          | (rw [if_neg hz];show ((y.1 + y.2) / 2).natAbs ≤ _;omega)
          | (rw [if_neg hz];show y.1.natAbs ≤ _;omega)
          | (rw [if_neg hz];omega)
          | fail)
       | fail)
    | (have hgt : ¬ cmpZ (y.2 - y.1) 1 > 0 := by assumption
       have hg:=cmpZ_ngt hgt
       have g1:=fl_bit (j:=0) hW (by omega)
       have hy3:=hy.2.2.1
       have he:=fl_end hy.1 hy.2.1 hg
       first
       | with_reducible exact he.symm
       | with_reducible exact he
       | omega
       | fail)
    | skip
instance {n r : Nat} {rs : List (List Rat)} {l : List Rat} {τ1 : MT} [j1 : NU τ1 (TWR r rs)] {τ2 : MT} [j2 : NU τ2 (NM n l)] : Con Tryz.prog 97 [τ1,τ2] (TOK rs ∧ PW rs.length l ∧ 1 ≤ n ∧ 1 ≤ r ∧ sB rs.length (n + wF rs n r + 2 + r) r ≤ BIG) (WC (wF rs n r) (flR (vlL rs l))):=.o2 fun hok h1 h2 hp=>w97.c2 hok (j1.h h1) (j2.h h2) hp
end Go.Proofs.YtboicjlbbbodgaaGreatDoor
namespace Go.Proofs.YtboicjlbbbodgaaGreatDoor
open Go.RowKit (Below)
attribute [local irreducible] Go.Code.wp Go.wpList Go.bodyPost
attribute [local irreducible] plusF minusF joinF levI lev PW RLN tB sB iB timesF stepF tmF normF shoF TOK sgL ivF wideF wF wB eLo eHi eN eB vlL
local instance (priority:=900) Cv.wcx3 {n k : Nat} {z z' : Int} : Cv (WC n z) (WC k z') (z = z' ∧ z.natAbs < 2 ^ k):=⟨fun e v G h=>⟨by rw [← e.1];exact e.2,by rw [← e.1];exact h.2⟩⟩
theorem w49 {n r s : Nat} {rs : List (List Rat)} {l : List Rat} : Con Tryz.prog 49 [TWR r rs,NM n l,NT s] (TOK rs ∧ PW rs.length l ∧ s ≤ 64 ∧ 1 ≤ n ∧ 1 ≤ r ∧ sB rs.length (r + r) r ≤ BIG ∧ sB rs.length (eN rs.length n r + eB rs.length n r + 2 + r) r ≤ BIG) (MT.tup2 (PTS [(some 3,QC (eB rs.length n r) (eLo rs l s)),(some 3,QC (eB rs.length n r) (eHi rs l s))]) (.ex (errV 41 (0)))):=.o3 fun hok h1 h2 h3 hp=>by
  refine St.enter (N:=69) Tryz.func49 rfl rfl rfl hok (enter3 h1 h2 h3) fun a=>?_
  have h5:=hp.1.rl
  have hbg:=sB_le (r:=r) (k:=rs.length) (n:=r + r)
  have l1:=hp.2.1.l32 h5.2
  have hx:=PW.tm h5.1 (Nat.le_refl _) hp.2.1 (pwq (x:=(((2 : Int) ^ s : Int) : Rat)))
  have hxl:=hx.l32 h5.2
  have n0:=en_f (z:=(((2 : Int) ^ s : Int) : Rat)) hp.2.2.2.1 hp.2.1 hp.2.2.2.2.2.2
  rw [show lev (max l.length [(((2 : Int) ^ s : Int) : Rat)].length) = lvM l [(((2 : Int) ^ s : Int) : Rat)] from rfl] at n0
  obtain ⟨n1,n2,n3,n4,n5,n6,n7,n8,n9,n10⟩:=n0
  have n11:=two_ne (b:=s)
  have n12 : (if (2 : Int) ^ s = 0 then (8 : Int) else 0) = 0:=if_neg n11
  have hb64:=hp.2.2.1
  have n13 : max 130 64 = 130:=rfl
  repeat' (first|((with_reducible refine gS_ ?_);first|((with_reducible refine gL_ ?_);first|refine W.run ?_ fun a w G=>?_|refine W.mv fun a w G=>?_|refine W.asg fun a w G=>?_|refine W.bx fun b a w G=>?_|(refine W.nn hK ?_;clear hK K)|refine W.nl ?_|refine W.al fun b a w G=>?_|refine W.st fun w=>?_|refine W.stp fun w=>?_|refine W.ste ?_ fun w=>?_)|((with_reducible refine gC_ ?_);first|refine W.reg fun K hK=>?_|refine W.reg1 ?_|refine W.sq fun K hK=>?_|refine W.ds ?_ (fun β a w G hu=>W.fin ?_ hu) mixedOrders (by kernel_rfl)|refine W.sk ?_|refine W.cd (fun hc=>?_) (fun hc=>?_)|refine W.cb (fun hc=>?_) (fun hc=>?_)|refine W.bl ?_|refine W.ex ?_|refine W.rt ?_)|((with_reducible refine W.kn hK ?_);clear hK K)|(with_reducible first|refine W.bn ?_|refine W.xt ?_|refine W.xb ?_|refine W.xo ?_|refine W.tr ?_|refine W.br ?_)|refine W.rt2 rfl ?_ ?_)|refine W.lp 33 (α:=Nat) (fun j=>s - j) (fun j=>j ≤ s) [32,33,34,35,36,37] (fun j=>[(32,NT j)]) (fun j=>[(9,WC 130 ((2 : Int) ^ j))]) (0) ?_ ?_ ?_ fun j hj a w G=>?_|refine W.ag (x:=j) (j+1) ?_ ?_ ?_ ?_|clear hK K|clear hu|exact True.intro|exact Nat.le_trans (by clear hp;omega) hp|exact Nat.le_trans (by clear hp;omega) hp.1|exact Nat.le_trans (by clear hp;omega) hp.2|(clear hp;omega)|apply And.intro|refine GI.i fun _=>?_|with_reducible rfl|decide|(simp only [List.length_cons,List.length_nil];omega))
  all_goals first
    | omega
    | (have g1 := two_bit (j := j + 1) (by omega)
       have g2:=(fl_dbl (j:=j)).1
       first
       | with_reducible exact g2
       | (rw [g2];with_reducible exact g1)
       | fail)
    | (have hjs : j = s := by omega
       subst hjs
       first
       | omega
       | (simp only [n13];omega)
       | exact absurd n12 (by assumption)
       | with_reducible assumption
       | (show _ = eLo rs l j;unfold eLo;with_reducible rfl)
       | (show _ = eHi rs l j;unfold eHi;with_reducible rfl)
       | (simp only [n13];with_reducible assumption)
       | with_reducible exact hp.1
       | exact h5.1
       | exact hx.minus
       | fail)
    | (intro x hx;simp only [List.mem_cons,List.not_mem_nil,or_false] at hx;first | (subst hx;exact hp.2.1) | (rcases hx with hx | hx <;> subst hx <;> first | exact hp.2.1 | exact hp.2.2.1))
    | with_reducible assumption
    | with_reducible exact hp.1
    | with_reducible exact hp.2.1
    | exact hx.minus
    | skip
instance {n r s : Nat} {rs : List (List Rat)} {l : List Rat} {τ1 : MT} [j1 : NU τ1 (TWR r rs)] {τ2 : MT} [j2 : NU τ2 (NM n l)] : Con Tryz.prog 49 [τ1,τ2,NT s] (TOK rs ∧ PW rs.length l ∧ s ≤ 64 ∧ 1 ≤ n ∧ 1 ≤ r ∧ sB rs.length (r + r) r ≤ BIG ∧ sB rs.length (eN rs.length n r + eB rs.length n r + 2 + r) r ≤ BIG) (MT.tup2 (PTS [(some 3,QC (eB rs.length n r) (eLo rs l s)),(some 3,QC (eB rs.length n r) (eHi rs l s))]) (.ex (errV 41 (0)))):=.o3 fun hok h1 h2 h3 hp=>w49.c3 hok (j1.h h1) (j2.h h2) h3 hp
instance (priority:=900) enclO {τ1 τ2 : MT} {z : Int} {n r s : Nat} {rs : List (List Rat)} {l : List Rat} [j1 : NU τ1 (TWR r rs)] [j2 : NU τ2 (NM n l)] [ll : LitN z s] : Con Tryz.prog 49 [τ1,τ2,.ex (.int .i64 z)] (TOK rs ∧ PW rs.length l ∧ s ≤ 64 ∧ 1 ≤ n ∧ 1 ≤ r ∧ sB rs.length (r + r) r ≤ BIG ∧ sB rs.length (eN rs.length n r + eB rs.length n r + 2 + r) r ≤ BIG) (MT.tup2 (PTS [(some 3,QC (eB rs.length n r) (eLo rs l s)),(some 3,QC (eB rs.length n r) (eHi rs l s))]) (.ex (errV 41 (0)))):=.o3 fun hok h1 h2 h3 hp=>by
  have e:=ll.h
  subst e
  exact (inferInstance : Con Tryz.prog 49 [TWR r rs,NM n l,NT s] _ (MT.tup2 (PTS [(some 3,QC (eB rs.length n r) (eLo rs l s)),(some 3,QC (eB rs.length n r) (eHi rs l s))]) (.ex (errV 41 (0))))).c3 hok (j1.h h1) (j2.h h2) h3 hp
end Go.Proofs.YtboicjlbbbodgaaGreatDoor
namespace Go.Proofs.YtboicjlbbbodgaaGreatDoor
open Go.RowKit (Below)
attribute [local irreducible] Go.Code.wp Go.wpList Go.bodyPost
class NG (τ : MT) (τ' : outParam MT) : Prop where
  h : ∀ {v : Value} {G : Gh},τ.t v G → τ'.t v G
instance NG.l {τs : List MT} {xs : List Int} [h : AsTL τs (fun z : Int=>IT z) xs] : NG (LSC none τs) (LS none (xs.map fun z : Int=>IT z)):=⟨fun hv=>h.ls hv.1⟩
instance AsT.itz {z : Int} : AsT (IT z) (fun z : Int=>IT z) z:=⟨fun h=>h⟩
def ofI (l : List Int) : List Rat:=l.map fun z : Int=>(z : Rat)
theorem ofI_take {l : List Int} {j : Nat} (h : j < l.length) : ofI (l.take j) ++ [((l.getD j default : Int) : Rat)] = ofI (l.take (j + 1)):=by
  unfold ofI
  rw [List.take_add_one,List.map_append,List.getElem?_eq_getElem h,List.getD_eq_getElem?_getD,List.getElem?_eq_getElem h];rfl
theorem w21 {l : List Int} : Con Tryz.prog 21 [LS none (l.map fun z : Int=>IT z)] ((∀ z ∈ l,I64 z) ∧ l.length ≤ 64) (NM 64 (ofI l)):=.o1 fun hok h1 hp=>by
  refine St.enter (N:=19) Tryz.func21 rfl rfl rfl hok (enter1 h1) fun a=>?_
  have hlim:=hp.2
  have own16 : OwnAt 16:=⟨⟩
  repeat' (first|((with_reducible refine gS_ ?_);first|((with_reducible refine gL_ ?_);first|refine W.run ?_ fun a w G=>?_|refine W.mv fun a w G=>?_|refine W.asg fun a w G=>?_|(refine W.nn hK ?_;clear hK K)|refine W.nl ?_|refine W.ste ?_ fun w=>?_)|((with_reducible refine gC_ ?_);first|refine W.reg fun K hK=>?_|refine W.reg1 ?_|refine W.sq fun K hK=>?_|refine W.sk ?_|refine W.cd (fun hc=>?_) (fun hc=>?_)|refine W.cb (fun hc=>?_) (fun hc=>?_)|refine W.bl ?_|refine W.ex ?_|refine W.rt ?_)|((with_reducible refine W.kn hK ?_);clear hK K)|(with_reducible first|refine W.bn ?_|refine W.xt ?_|refine W.xb ?_|refine W.xo ?_|refine W.tr ?_|refine W.br ?_)|refine W.rt1 rfl ?_)|refine W.lpo 9 (OWNS.nil (k:=some 3) (e:=57)) (T:=QC 64) (xs0:=[]) (fun j=>l.length - j) (fun j=>j ≤ l.length) (fun j=>ofI (l.take j)) [3,8,3,5,8,9,10,11,12,13,14,15,16,17] (fun j V=>[(8,NT j),(3,.ex V)]) (fun j=>[]) 0 ?_ ?_ ?_ ?_ fun j hj V own a w G hO=>?_|refine W.ap (mt:=FX 1 default) (T:=QC 64) hO ?_ fun V own a w G hO=>?_|refine W.ago (K:=fun _ _=>True) (T:=QC 64) hO (x:=j) (j+1) ?_ ?_ ?_ ?_ ?_|refine W.fzo (T:=QC 64) 2 hO ?_ fun G=>?_|clear hK K|clear hu|exact True.intro|exact Nat.le_trans (by clear hp;omega) hp|exact Nat.le_trans (by clear hp;omega) hp.1|exact Nat.le_trans (by clear hp;omega) hp.2|(clear hp;omega)|apply And.intro|refine GI.i fun _=>?_|with_reducible rfl|decide|(simp only [List.length_cons,List.length_nil];omega))
  all_goals (try simp only [ofI,List.length_map,List.length_take,List.length_append,List.length_cons,List.length_nil,LIM] at *)
  all_goals first
    | omega
    | exact (hp.1 _ (by rw [List.getD_eq_getElem?_getD,List.getElem?_eq_getElem (show j < l.length by omega)];exact List.getElem_mem _)).1
    | exact (hp.1 _ (by rw [List.getD_eq_getElem?_getD,List.getElem?_eq_getElem (show j < l.length by omega)];exact List.getElem_mem _)).2
    | exact ofI_take (by omega)
    | (rw [List.take_of_length_le (by omega)];done)
    | rfl
    | skip
instance {l : List Int} {τ1 : MT} [j1 : NG τ1 (LS none (l.map fun z : Int=>IT z))] : Con Tryz.prog 21 [τ1] ((∀ z ∈ l,I64 z) ∧ l.length ≤ 64) (NM 64 (ofI l)):=.o1 fun hok h1 hp=>w21.c1 hok (j1.h h1) hp
section
variable {ls ys : List (List FR)} {K j : Nat}
theorem erN_n (hj : j < ys.length) (h : numC K (ys.getD j default) = 0) (hi : erN K (ys.drop j) = erN K ys) : erN K (ys.drop (j + 1)) = erN K ys:=by
  rw [List.drop_eq_getElem_cons hj] at hi
  rw [List.getD_eq_getElem?_getD,List.getElem?_eq_getElem hj] at h
  have h : numC K ys[j] = 0:=h
  change (if numC K ys[j] = 0 then erN K (ys.drop (j + 1)) else numC K ys[j]) = _ at hi
  rwa [if_pos h] at hi
theorem erN_e (hj : j < ys.length) (h : ¬ numC K (ys.getD j default) = 0) (hi : erN K (ys.drop j) = erN K ys) : numC K (ys.getD j default) = erN K ys:=by
  rw [List.drop_eq_getElem_cons hj] at hi
  rw [List.getD_eq_getElem?_getD,List.getElem?_eq_getElem hj] at h ⊢
  have h : ¬ numC K ys[j] = 0:=h
  change (if numC K ys[j] = 0 then erN K (ys.drop (j + 1)) else numC K ys[j]) = _ at hi
  rwa [if_neg h] at hi
theorem erN_z (hj : ys.length ≤ j) (hi : erN K (ys.drop j) = erN K ys) : erN K ys = 0:=by
  rw [List.drop_of_length_le hj] at hi;exact hi.symm
theorem erC_y (h : chkC ls = 0) : erC ls ys = erN ls.length ys:=if_pos h
theorem erC_n (h : ¬ chkC ls = 0) : erC ls ys = chkC ls:=if_neg h
theorem va_f (h : (!smlF ls || !ys.all shlF || decide (chkC ls ≠ 0)) = true) : vaF ls ys = false:=by
  unfold vaF
  cases h1 : smlF ls with
  | false=>rfl
  | true=>cases h2 : ys.all shlF with
    | false=>rfl
    | true =>
      rw [h1,h2] at h
      have h3 : chkC ls ≠ 0:=by simpa using h
      rw [erC_n h3,decide_eq_false h3];rfl
theorem va_t (h : (!smlF ls || !ys.all shlF || decide (chkC ls ≠ 0)) = false) : smlF ls = true ∧ ys.all shlF = true ∧ chkC ls = 0:=by
  simp only [Bool.or_eq_false_iff,Bool.not_eq_false',decide_eq_false_iff_not] at h
  exact ⟨h.1.1,h.1.2,Classical.not_not.1 h.2⟩
theorem va_g (h : (!smlF ls || !ys.all shlF) = false) : smlF ls = true:=by
  simp only [Bool.or_eq_false_iff,Bool.not_eq_false'] at h
  exact h.1
theorem va_e (h : smlF ls = true ∧ ys.all shlF = true ∧ chkC ls = 0) {c : Int} (he : erN ls.length ys = c) : vaF ls ys = decide (c = 0):=by
  unfold vaF
  rw [h.1,h.2.1,erC_y h.2.2,he];rfl
end
attribute [local irreducible] chkC numC erN erC vaF smlF shlF lowF
theorem w12 {ls ys : List (List FR)} : Con Tryz.prog 12 [PTS [(none,LS none (ls.map LFR))],LS none (ys.map LFR)] (True) (BT (vaF ls ys)):=.o2 fun hok h1 h2 hp=>by
  refine St.enter (N:=33) Tryz.func12 rfl rfl rfl hok (enter2 h1 h2) fun a=>?_
  have hlim:=LS.lenM h2
  simp only [LIM] at hlim
  repeat' (first|((with_reducible refine gS_ ?_);first|((with_reducible refine gL_ ?_);first|refine W.run ?_ fun a w G=>?_|refine W.mv fun a w G=>?_|refine W.asg fun a w G=>?_|refine W.bx fun b a w G=>?_|(refine W.nn hK ?_;clear hK K)|refine W.nl ?_|refine W.ste ?_ fun w=>?_)|((with_reducible refine gC_ ?_);first|refine W.reg fun K hK=>?_|refine W.reg1 ?_|refine W.sq fun K hK=>?_|refine W.sk ?_|refine W.cd (fun hc=>?_) (fun hc=>?_)|refine W.cb (fun hc=>?_) (fun hc=>?_)|refine W.bl ?_|refine W.ex ?_|refine W.rt ?_)|((with_reducible refine W.kn hK ?_);clear hK K)|(with_reducible first|refine W.bn ?_|refine W.xt ?_|refine W.xb ?_|refine W.xo ?_|refine W.tr ?_|refine W.br ?_)|refine W.rt1 rfl ?_)|refine W.lp 23 (α:=Nat) (fun j=>ys.length - j) (fun j=>j ≤ ys.length ∧ erN ls.length (ys.drop j) = erN ls.length ys) [4,6,22,23,24,25,26,27,28,29,30,31,32] (fun j=>[(22,NT j)]) (fun j=>[]) (0) ?_ ?_ ?_ fun j hj a w G=>?_|refine W.ag (x:=j) (j+1) ?_ ?_ ?_ ?_|clear hK K|clear hu|exact True.intro|exact Nat.le_trans (by clear hp;omega) hp|exact Nat.le_trans (by clear hp;omega) hp.1|exact Nat.le_trans (by clear hp;omega) hp.2|(clear hp;omega)|apply And.intro|refine GI.i fun _=>?_|with_reducible rfl|decide|(simp only [List.length_cons,List.length_nil];omega))
  all_goals first
    | omega
    | exact va_g (by assumption)
    | (have hz : (!smlF ls || !ys.all shlF || decide (chkC ls ≠ 0)) = true := by assumption
       first
       | exact va_f hz
       | exact (va_f hz).symm)
    | (have hz : (!smlF ls || !ys.all shlF || decide (chkC ls ≠ 0)) = false := by assumption
       have hv:=va_t hz
       have h5:=(chk_0 hv.2.2).1
       first
       | exact h5
       | exact all_at (p:=shlF) hv.2.1 (by omega)
       | rfl
       | (have hn : numC ls.length (ys.getD j default) ≠ 0 := by assumption
          have h1:=erN_e (by omega) hn hj.2
          have h2:=va_e hv h1.symm
          rw [decide_eq_false hn] at h2
          first
          | exact h2
          | exact h2.symm)
       | exact erN_n (by omega) (by omega) hj.2
       | (have h1 := erN_z (by omega) hj.2
          have h2:=va_e hv h1
          first
          | exact h2
          | exact h2.symm))
    | skip
instance {ls ys : List (List FR)} {τ1 : MT} [j1 : NR τ1 (PTS [(none,LS none (ls.map LFR))])] {τ2 : MT} [j2 : NR τ2 (LS none (ys.map LFR))] : Con Tryz.prog 12 [τ1,τ2] (True) (BT (vaF ls ys)):=.o2 fun hok h1 h2 hp=>w12.c2 hok (j1.h h1) (j2.h h2) hp
theorem w16 {xs ys : List FR} : Con Tryz.prog 16 [LS (some 3) (xs.map RX),LS (some 3) (ys.map RX)] (True) (BT (decide (xs = ys))):=.o2 fun hok h1 h2 hp=>by
  refine St.enter (N:=8) Tryz.func16 rfl rfl rfl hok (enter2 h1 h2) fun a=>?_
  repeat' (first|((with_reducible refine gS_ ?_);first|((with_reducible refine gL_ ?_);first|refine W.run ?_ fun a w G=>?_|refine W.mv fun a w G=>?_|refine W.asg fun a w G=>?_|(refine W.nn hK ?_;clear hK K)|refine W.nl ?_|refine W.ste ?_ fun w=>?_)|((with_reducible refine gC_ ?_);first|refine W.reg fun K hK=>?_|refine W.reg1 ?_|refine W.sq fun K hK=>?_|refine W.sk ?_|refine W.rt ?_)|((with_reducible refine W.kn hK ?_);clear hK K)|with_reducible refine W.tr ?_|with_reducible refine W.br ?_|refine W.rt1 rfl ?_)|clear hK K|clear hu|exact True.intro|exact Nat.le_trans (by clear hp;omega) hp|exact Nat.le_trans (by clear hp;omega) hp.1|exact Nat.le_trans (by clear hp;omega) hp.2|(clear hp;omega)|apply And.intro|refine GI.i fun _=>?_|with_reducible rfl|decide|(simp only [List.length_cons,List.length_nil];omega))
instance {xs ys : List FR} {τ1 : MT} [j1 : NR τ1 (LS (some 3) (xs.map RX))] {τ2 : MT} [j2 : NR τ2 (LS (some 3) (ys.map RX))] : Con Tryz.prog 16 [τ1,τ2] (True) (BT (decide (xs = ys))):=.o2 fun hok h1 h2 hp=>w16.c2 hok (j1.h h1) (j2.h h2) hp
instance (priority:=1100) {n m : Nat} {l k : List Rat} {τ1 τ2 : MT} [j1 : NU τ1 (NM n l)] [j2 : NU τ2 (NM m k)] : Con Tryz.prog 16 [τ1,τ2] True (BT (decide (l = k))):=.o2 fun hok h1 h2 hp=>by
  have:=(inferInstance : Con Tryz.prog 16 [NM n l,NM m k] _ (BT (decide (l.map FR.of = k.map FR.of)))).c2 hok (j1.h h1) (j2.h h2) hp
  rwa [mof_dec] at this
end Go.Proofs.YtboicjlbbbodgaaGreatDoor
namespace Go.Proofs.YtboicjlbbbodgaaGreatDoor
open Go.RowKit (Below)
attribute [local irreducible] Go.Code.wp Go.wpList Go.bodyPost
theorem sg2 {rs : List (List Rat)} (ht : TOK rs) (h : 0 < rs.length) {l : List Rat} (hl : l.length = 2) {d x y n : Int} (hd : (rs.getD 0 []).length = 1 ∧ (cf (rs.getD 0 []) 0).num.sign = d) (hx : (cf (l.take 1) 0).num.sign = x) (hy : (cf (l.drop 1) 0).num.sign = y) (hn : (normF rs l).length = 1 ∧ (cf (normF rs l) 0).num.sign = n) :
    sgL rs l = if d = 0 then x else if x = y ∨ y = 0 then x else if x = 0 then y else x * n:=by
  rw [sgL_step ht h hl,hl,sgL_one hd.1,hd.2,sgL_one (a:=l.take (2 / 2)) (by rw [List.length_take,hl];rfl),sgL_one (a:=l.drop (2 / 2)) (by rw [List.length_drop,hl]),sgL_one hn.1,hn.2]
  show (if d = 0 then (cf (l.take 1) 0).num.sign else if (cf (l.take 1) 0).num.sign = (cf (l.drop 1) 0).num.sign ∨ (cf (l.drop 1) 0).num.sign = 0 then (cf (l.take 1) 0).num.sign else if (cf (l.take 1) 0).num.sign = 0 then (cf (l.drop 1) 0).num.sign else (cf (l.take 1) 0).num.sign * n) = _
  rw [hx,hy]
theorem tokI {z : Int} (h : 0 ≤ z.sign) (h2 : (cf (ofI [z]) 0).num.sign = z.sign) : TOK [ofI [z]]:=by
  have h0 : TOK []:=⟨Nat.zero_le _,fun i hi=>absurd hi (Nat.not_lt_zero _),fun i hi=>absurd hi (Nat.not_lt_zero _)⟩
  have h3 : (ofI [z]).length = 1:=rfl
  exact (TOK.snoc (d:=ofI [z]) h0 (by decide) h3 (by rw [sgL_one h3,h2];exact h)).1
theorem tok2 : TOK [ofI [2]]:=tokI (by decide) (by decide +kernel)
theorem tok4 : TOK [ofI [4]]:=tokI (by decide) (by decide +kernel)
theorem pwI2 {x y : Int} {K : Nat} (h : 1 ≤ K) : PW K (ofI [x,y]):=.inr ⟨1,h,rfl⟩
theorem a4_p : shoF (tmF [ofI [2]] (ofI [1,1]) (ofI [1,-1])) = ofI [-1]:=by decide +kernel
theorem a4_i1 : sgL [ofI [2]] (ofI [1,1]) = 1:=by
  rw [sg2 tok2 (by decide) (l:=ofI [1,1]) rfl (d:=1) (x:=1) (y:=1) (n:=-1) ⟨rfl,by decide +kernel⟩ (by decide +kernel) (by decide +kernel) ⟨by decide +kernel,by decide +kernel⟩];rfl
theorem a4_sho : shoF (ofI [1,1]) = ofI [1,1]:=by decide +kernel
theorem a4_nm : normF [ofI [2]] (ofI [1,1]) = ofI [-1]:=by decide +kernel
theorem a4_s1 : sgL [ofI [2]] (ofI [-1]) = -1:=by rw [sgL_one rfl];decide +kernel
theorem a4_iv1 : ivF [ofI [2]] 1 (ofI [-1]) = ofI [-1]:=by
  unfold ivF invG
  rw [if_pos (by decide +kernel)]
  decide +kernel
theorem a4_iv : ivF [ofI [2]] 2 (ofI [1,1]) = tmF [ofI [2]] (joinF ((ofI [1,1]).take 1) (minusF ((ofI [1,1]).drop 1)) 1) (ofI [-1]):=by
  have h:=iv_3 (rs:=[ofI [2]]) (l:=ofI [1,1]) (f:=1) (by rw [a4_sho];decide) (by rw [a4_sho,a4_nm,a4_s1];decide)
  rw [a4_sho,a4_nm,a4_iv1] at h
  exact h.symm
theorem a4_q : inL [ofI [2]] (ofI [1,1]) = ofI [-1,1] ∧ inC [ofI [2]] (ofI [1,1]) = 0:=by
  obtain ⟨h1,h2,_⟩:=in_n (rs:=[ofI [2]]) (l:=ofI [1,1]) (k:=[]) (by rw [a4_i1];decide)
  refine ⟨?_,h2⟩
  rw [h1]
  show shoF (ivF [ofI [2]] 2 (ofI [1,1])) = _
  rw [a4_iv]
  decide +kernel
theorem a4_s : sgL [ofI [2]] (ofI [7,-5]) = -1:=by
  rw [sg2 tok2 (by decide) (l:=ofI [7,-5]) rfl (d:=1) (x:=1) (y:=-1) (n:=-1) ⟨rfl,by decide +kernel⟩ (by decide +kernel) (by decide +kernel) ⟨by decide +kernel,by decide +kernel⟩];rfl
theorem a4_z : sgL [ofI [4]] (ofI [2,-1]) = 0:=by
  rw [sg2 tok4 (by decide) (l:=ofI [2,-1]) rfl (d:=1) (x:=1) (y:=-1) (n:=0) ⟨rfl,by decide +kernel⟩ (by decide +kernel) (by decide +kernel) ⟨by decide +kernel,by decide +kernel⟩];rfl
theorem a4_x : tmF [ofI [2]] (ofI [0,1]) [(((2 : Int) ^ 3 : Int) : Rat)] = ofI [0,8]:=by decide +kernel
theorem a4_y : minusF (ofI [0,8]) = ofI [0,-8]:=by decide +kernel
theorem a4_t {l : List Rat} {z p q : Int} {n x y : Int} (e : plusF l (minusF [(z : Rat)]) = ofI [p, q]) (hx : (cf ((ofI [p, q]).take 1) 0).num.sign = x) (hy : (cf ((ofI [p, q]).drop 1) 0).num.sign = y) (hn : (normF [ofI [2]] (ofI [p, q])).length = 1 ∧ (cf (normF [ofI [2]] (ofI [p, q])) 0).num.sign = n) :
    sgL [ofI [2]] (plusF l (minusF [(z : Rat)])) = if x = y ∨ y = 0 then x else if x = 0 then y else x * n:=by
  rw [e,sg2 tok2 (by decide) (l:=ofI [p,q]) rfl (d:=1) (x:=x) (y:=y) (n:=n) ⟨rfl,by decide +kernel⟩ hx hy hn];rfl
theorem a4_f1 : flR (vlL [ofI [2]] (ofI [0,8])) = 11:=by
  refine flR_eq ((sg_whole (z:=11)).1.1 ?_) ((sg_whole (z:=12)).2.1 ?_)
  · rw [a4_t (p:=-11) (q:=8) (x:=-1) (y:=1) (n:=-1) (by decide +kernel) (by decide +kernel) (by decide +kernel) ⟨by decide +kernel,by decide +kernel⟩];decide
  · rw [a4_t (p:=-12) (q:=8) (x:=-1) (y:=1) (n:=1) (by decide +kernel) (by decide +kernel) (by decide +kernel) ⟨by decide +kernel,by decide +kernel⟩];decide
theorem a4_f2 : flR (vlL [ofI [2]] (ofI [0,-8])) = -12:=by
  refine flR_eq ((sg_whole (z:=-12)).1.1 ?_) ((sg_whole (z:=-11)).2.1 ?_)
  · rw [a4_t (p:=12) (q:=-8) (x:=1) (y:=-1) (n:=1) (by decide +kernel) (by decide +kernel) (by decide +kernel) ⟨by decide +kernel,by decide +kernel⟩];decide
  · rw [a4_t (p:=11) (q:=-8) (x:=1) (y:=-1) (n:=-1) (by decide +kernel) (by decide +kernel) (by decide +kernel) ⟨by decide +kernel,by decide +kernel⟩];decide
theorem a4_lo : eLo [ofI [2]] (ofI [0,1]) 3 = 11 / 8:=by
  unfold eLo
  rw [a4_x,a4_f1]
  decide +kernel
theorem a4_hi : eHi [ofI [2]] (ofI [0,1]) 3 = 3 / 2:=by
  unfold eHi
  rw [a4_x,a4_y,a4_f2]
  decide +kernel
attribute [local irreducible] ofI plusF minusF joinF levI lev PW RLN tB sB iB timesF stepF tmF normF shoF TOK sgL ivF wideF wF wB eLo eHi eN eB vlL
instance  : ConT Tryz.prog 13 [] (True) (BT true):=.o0 fun hok ht  hp=>by
  refine St.enter (N:=106) Tryz.func13 rfl rfl rfl hok enter0 fun a=>?_
  refine W.tab ht ?_
  repeat' (first|((with_reducible refine gS_ ?_);first|((with_reducible refine gL_ ?_);first|refine W.run ?_ fun a w G=>?_|refine W.mv fun a w G=>?_|refine W.asg fun a w G=>?_|(refine W.nn hK ?_;clear hK K)|refine W.nl ?_|refine W.al fun b a w G=>?_|refine W.st fun w=>?_|refine W.stp fun w=>?_|refine W.ste ?_ fun w=>?_)|((with_reducible refine gC_ ?_);first|refine W.reg fun K hK=>?_|refine W.reg1 ?_|refine W.sq fun K hK=>?_|refine W.ds ?_ (fun β a w G hu=>W.fin ?_ hu) mixedOrders (by kernel_rfl)|refine W.sk ?_|refine W.rt ?_)|((with_reducible refine W.kn hK ?_);clear hK K)|with_reducible refine W.tr ?_|with_reducible refine W.br ?_|refine W.rt1 rfl ?_)|clear hK K|clear hu|exact True.intro|exact Nat.le_trans (by clear hp;omega) hp|exact Nat.le_trans (by clear hp;omega) hp.1|exact Nat.le_trans (by clear hp;omega) hp.2|(clear hp;omega)|apply And.intro|refine GI.i fun _=>?_|with_reducible rfl|decide|(simp only [List.length_cons,List.length_nil];omega))
  all_goals (try simp only [a4_p,a4_q.1,a4_q.2,a4_s,a4_z,a4_lo,a4_hi] at *)
  all_goals first
    | exact tok2
    | exact tok4
    | exact pwI2 (Nat.le_refl _)
    | (with_unfolding_all decide)
    | rfl
    | skip
end Go.Proofs.YtboicjlbbbodgaaGreatDoor
namespace Go.Proofs.YtboicjlbbbodgaaGreatDoor
open Go.RowKit (Below)
attribute [local irreducible] Go.Code.wp Go.wpList Go.bodyPost
theorem LFR.wf {l : List FR} {v : Value} {G : Gh} (h : (LFR l).t v G) : ∀ r ∈ l,wfl r.p ∧ wfl r.q:=fun r hr=>by
  obtain ⟨A,c,us,h1,h2,h3,h4,h5⟩:=LS.vals h
  obtain ⟨i,hi,rfl⟩:=List.mem_iff_getElem.1 hr
  have hl : us.length = l.length:=by rw [h4.1,List.length_map]
  have:=(h4.2 i (RX l[i]) us[i] (by rw [List.getElem?_map,List.getElem?_eq_getElem hi];rfl) (List.getElem?_eq_getElem (by omega))).2
  exact QR.wf this
theorem LFR.self {l : List FR} {v : Value} {G : Gh} (h : (LFR l).t v G) (hok : l.all FR.ok = true) : (valsL l).map FR.of = l:=by
  unfold valsL
  rw [List.map_map]
  refine (List.map_congr_left (g:=id) fun r hr=>?_).trans (List.map_id _)
  exact fr_self4 (LFR.wf h r hr) (List.all_eq_true.1 hok r hr)
theorem RTX.self {ls : List (List FR)} {v : Value} {G : Gh} (h : (RTX ls).t v G) (hok : ls.all (·.all FR.ok) = true) : (ls.map valsL).map (List.map FR.of) = ls:=by
  rw [List.map_map]
  refine (List.map_congr_left (g:=id) fun d hd=>?_).trans (List.map_id _)
  obtain ⟨us,e,a1,a2⟩:=h
  match us,a1 with
  | u :: us,_ =>
    have hu:=(a2 0 _ u rfl rfl).2
    obtain ⟨A,c,us,h1,h2,h3,h4,h5⟩:=LS.vals hu
    obtain ⟨i,hi,rfl⟩:=List.mem_iff_getElem.1 hd
    have hl : us.length = ls.length:=by rw [h4.1,List.length_map]
    have:=(h4.2 i (LFR ls[i]) us[i] (by rw [List.getElem?_map,List.getElem?_eq_getElem hi];rfl) (List.getElem?_eq_getElem (by omega))).2
    exact LFR.self this (List.all_eq_true.1 hok _ hd)
section
variable {ls ys : List (List FR)} {l : List FR}
theorem va_in (h : vaF ls ys = true) : smlF ls = true ∧ ys.all shlF = true ∧ chkC ls = 0 ∧ erN ls.length ys = 0:=by
  unfold vaF at h
  simp only [Bool.and_eq_true,decide_eq_true_eq] at h
  obtain ⟨⟨h1,h2⟩,h3⟩:=h
  by_cases hc : chkC ls = 0
  · rw [erC_y hc] at h3;exact ⟨h1,h2,hc,h3⟩
  · rw [erC_n hc] at h3;exact absurd h3 hc
theorem er_all : ∀ {ys : List (List FR)} {K : Nat},erN K ys = 0 → ∀ y ∈ ys,numC K y = 0
  | [],_,_,y,hy=>by cases hy
  | x :: ys,K,h,y,hy=>by
    unfold erN at h
    split at h
    · rename_i h1
      rcases List.mem_cons.1 hy with rfl | hy
      · exact h1
      · exact er_all h y hy
    · rename_i h1;exact absurd h h1
def TVA (rs : List (List Rat)) : Prop:=TOK rs ∧ rs.length ≤ 3
theorem va_tw (h : vaF ls ys = true) : TVA (ls.map valsL) ∧ ls.all (·.all lowF) = true ∧ ls.all (·.all FR.ok) = true:=by
  obtain ⟨h1,h2,h3,h4⟩:=va_in h
  have hs:=sml_1 h1
  have hc:=chk_0 h3
  exact ⟨⟨hc.2.2.1,by rw [List.length_map];omega⟩,sml_low hs.1.1,hc.2.2.2⟩
theorem va_nm (h : vaF ls ys = true) (hl : l ∈ ys) : PW (ls.map valsL).length (valsL l) ∧ l.all lowF = true ∧ l.all FR.ok = true:=by
  obtain ⟨h1,h2,h3,h4⟩:=va_in h
  have hn:=numC_0 (er_all h4 l hl)
  rw [List.length_map]
  exact ⟨hn.1,(shl_1 (List.all_eq_true.1 h2 l hl)).2,hn.2⟩
end
theorem bd3 {K : Nat} (h : K ≤ 3) : sB K (14 + 14) 14 ≤ BIG ∧ tB K (14 + 14) 14 ≤ BIG ∧ 1 ≤ tB K (14 + 14) 14 ∧ sB K (tB K (14 + 14) 14 + 14) 14 ≤ BIG ∧ sB K (14 + 14 + 1 + 14) 14 ≤ BIG:=by
  have hK : K = 0 ∨ K = 1 ∨ K = 2 ∨ K = 3:=by omega
  rcases hK with rfl | rfl | rfl | rfl <;> decide
instance {t : TypeId} {n : Int} : ShK (.ex (errV t n)) none:=⟨fun {v G} h=>by
  have h : v = errV t n:=h
  subst h
  unfold errV;split <;> exact ⟨rfl,rfl⟩⟩
abbrev E0T : MT:=.ex (errV 41 0)
theorem errsN {n : Nat} {v : Value} {G : Gh} (h : (LSC none (List.replicate n E0T)).t v G) : (LS none ((List.replicate n ()).map fun _=>E0T)).t v G:=by
  rw [List.map_replicate];exact h.1
section
variable {rs : List (List Rat)} {l k : List Rat}
theorem sg_tm (ht : TOK rs) (hl : PW rs.length l) (hk : PW rs.length k) : sgL rs (shoF (tmF rs l k)) = sgL rs l * sgL rs k:=by
  rw [sgL_short ht.1 (PW.tm ht.2.1 (Nat.le_refl _) hl hk)]
  unfold sgL;rw [vlL_tm ht hl hk,sgR_mul]
theorem sg_ng (ht : TOK rs) (hl : PW rs.length l) : sgL rs (shoF (minusF l)) = -sgL rs l:=by
  rw [sgL_short ht.1 hl.minus]
  unfold sgL;rw [vlL_minus,sgR_negate]
theorem sg_pl (ht : TOK rs) (hl : PW rs.length l) (hk : PW rs.length k) : (sgL rs l = sgL rs k → sgL rs (shoF (plusF l k)) = sgL rs l) ∧ (sgL rs k = 0 → sgL rs (shoF (plusF l k)) = sgL rs l):=by
  rw [sgL_short ht.1 (hl.plus hk)]
  unfold sgL
  rw [vlL_plus]
  refine ⟨fun h=>?_,fun h=>?_⟩
  · rw [sgR_add,if_pos (.inr h),h]
  · rw [sgR_eq0.1 h,RR.add_zero]
theorem sg_cm : sgL rs (plusF l (minusF k)) = -sgL rs (plusF k (minusF l)) ∧ (sgL rs l > sgL rs k → sgL rs (plusF l (minusF k)) = 1) ∧ (sgL rs l = 0 → sgL rs (plusF l (minusF k)) = -sgL rs k):=by
  unfold sgL
  rw [vlL_plus,vlL_plus,vlL_minus,vlL_minus]
  generalize vlL rs l = x
  generalize vlL rs k = y
  refine ⟨?_,fun h=>?_,fun h=>?_⟩
  · rw [← sgR_negate]
    congr 1
    obtain ⟨f,hf,rfl⟩:=RR.rep x;obtain ⟨g,hg,rfl⟩:=RR.rep y
    exact RR.ext fun n=>by grind
  · refine sgR_pos ?_
    have : y < x:=RR.not_le.1 fun e=>by have:=sgR_mono e;omega
    have:=RR.lt_iff_sub.1 this
    rwa [RR.sub_def] at this
  · rw [sgR_eq0.1 h,RR.zero_add,sgR_negate]
theorem sg_all (ht : TOK rs) (hl : PW rs.length l) (hk : PW rs.length k) : (sgL rs (shoF (tmF rs l k)) = sgL rs l * sgL rs k ∧ (sgL rs l ≠ sgL rs k ∨ sgL rs (shoF (plusF l k)) = sgL rs l) ∧ (sgL rs k ≠ 0 ∨ sgL rs (shoF (plusF l k)) = sgL rs l)) ∧ sgL rs (plusF l (minusF k)) = -sgL rs (plusF k (minusF l)) ∧ sgL rs (shoF (minusF l)) = -sgL rs l ∧ (sgL rs l ≤ sgL rs k ∨ sgL rs (plusF l (minusF k)) = 1) ∧ (sgL rs l ≠ 0 ∨ sgL rs (plusF l (minusF k)) = -sgL rs k):=by
  have h1:=sg_pl ht hl hk
  have h2:=sg_cm (rs:=rs) (l:=l) (k:=k)
  refine ⟨⟨sg_tm ht hl hk,?_,?_⟩,h2.1,sg_ng ht hl,?_,?_⟩
  · by_cases e : sgL rs l = sgL rs k
    · exact .inr (h1.1 e)
    · exact .inl e
  · by_cases e : sgL rs k = 0
    · exact .inr (h1.2 e)
    · exact .inl e
  · by_cases e : sgL rs l ≤ sgL rs k
    · exact .inl e
    · exact .inr (h2.2.1 (by omega))
  · by_cases e : sgL rs l = 0
    · exact .inr (h2.2.2 e)
    · exact .inl e
end
end Go.Proofs.YtboicjlbbbodgaaGreatDoor
namespace Go.Proofs.YtboicjlbbbodgaaGreatDoor
open Go.RowKit (Below)
attribute [local irreducible] Go.Code.wp Go.wpList Go.bodyPost
attribute [local irreducible] plusF minusF joinF levI lev PW RLN tB sB iB timesF stepF tmF normF shoF TOK sgL vaF
instance gTY13_7_2 : GcT 7 2 false 3 [6,29,30,31,32,33,34,35,36,37,38]:=⟨⟩
instance gTY13_7_3 : GcT 7 3 false 6 [29,30,31,32,33,34,35,36,37,38]:=⟨⟩
instance gTY13_7_4 : GcT 7 4 false 40 [41,42,43,44,45]:=⟨⟩
instance gTY13_7_5 : GcT 7 5 false 46 [47,48,49,50,51]:=⟨⟩
instance gTY13_7_6 : GcT 7 6 false 52 [53,54,55,56,57,58]:=⟨⟩
instance gTY13_7_7 : GcT 7 7 false 59 [60,61,62,63,64,65]:=⟨⟩
instance gTY13_7_8 : GcT 7 8 false 11 [66,67,68,69,70,71]:=⟨⟩
instance gTY13_7_9 : GcT 7 9 false 13 [72,73,74,75,76,77]:=⟨⟩
instance gTY13_7_10 : GcT 7 10 false 78 [79,80,81,82,83,84]:=⟨⟩
instance gTY13_7_11 : GcT 7 11 false 85 [86,87,88,89,90,91]:=⟨⟩
instance gTY13_7_12 : GcT 7 12 false 92 [93,94,95,96,97]:=⟨⟩
instance gTY13_7_13 : GcT 7 13 false 3 [23,98,99,100,101,102,103]:=⟨⟩
instance gTY13_7_17 : GcT 7 17 false 28 [117,118,119,120,121]:=⟨⟩
instance gTY13_7_19 : GcT 7 19 false 8 [10,12,14,16,18,20,22,24,26,104,105,106,107,108,109,110,111,112,113,114,115]:=⟨⟩
theorem invTowerSigns {ls : List (List FR)} {l k : List FR} : ConT Tryz.prog 7 [RTX ls,LFR l,LFR k] (vaF ls [l,k] = false) (BT true):=.o3 fun hok ht h1 h2 h3 hp=>by
  refine St.enter (N:=178) Tryz.func7 rfl rfl rfl hok (enter3 h1 h2 h3) fun a=>?_
  refine W.tab ht ?_
  have e1:=hp
  repeat' (first|((with_reducible refine gS_ ?_);first|((with_reducible refine gL_ ?_);first|refine W.run ?_ fun a w G=>?_|refine W.mv fun a w G=>?_|refine W.asg fun a w G=>?_|refine W.bx fun b a w G=>?_|(refine W.nn hK ?_;clear hK K)|refine W.nl ?_|refine W.ste ?_ fun w=>?_)|((with_reducible refine gC_ ?_);first|with_reducible refine W.cbt (by first|assumption|(simp [e1];done)|fail) ?_|with_reducible refine W.cbf (by first|assumption|(simp [e1];done)|fail) ?_|with_reducible refine W.gcc 7 ?_|with_reducible refine W.gcd 7 ?_|refine W.reg fun K hK=>?_|refine W.reg1 ?_|refine W.sq fun K hK=>?_|refine W.sk ?_|refine W.cd (fun hc=>?_) (fun hc=>?_)|refine W.cb (fun hc=>?_) (fun hc=>?_)|refine W.bl ?_|refine W.ex ?_|refine W.rt ?_)|((with_reducible refine W.kn hK ?_);clear hK K)|(with_reducible first|refine W.bn ?_|refine W.xt ?_|refine W.xb ?_|refine W.xo ?_|refine W.tr ?_|refine W.br ?_)|refine W.rt1 rfl ?_)|clear hK K|clear hu|exact True.intro|exact Nat.le_trans (by clear hp;omega) hp|exact Nat.le_trans (by clear hp;omega) hp.1|exact Nat.le_trans (by clear hp;omega) hp.2|(clear hp;omega)|apply And.intro|refine GI.i fun _=>?_|with_reducible rfl|decide|(simp only [List.length_cons,List.length_nil];omega))
  all_goals first
    | omega
    | rfl
    | (simp [e1];done)
    | skip
theorem valTowerSigns {rs : List (List Rat)} {l k : List Rat} : ConT Tryz.prog 7 [TWR 14 rs,NM 14 l,NM 14 k] (TVA rs ∧ PW rs.length l ∧ PW rs.length k ∧ vaF (rs.map (List.map FR.of)) [l.map FR.of,k.map FR.of] = true) (BT true):=.o3 fun hok ht h1 h2 h3 hp=>by
  refine St.enter (N:=178) Tryz.func7 rfl rfl rfl hok (enter3 h1 h2 h3) fun a=>?_
  refine W.tab ht ?_
  have e1:=hp.2.2.2
  have ht:=hp.1.1
  have hl:=hp.2.1
  have hk:=hp.2.2.1
  obtain ⟨b1,b2,b3,b4,b5⟩:=bd3 hp.1.2
  have htm:=PW.tm ht.rl.1 (Nat.le_refl _) hl hk
  have hs1:=sho_pw (k:=rs.length) ht.rl.2 htm
  have hs2:=sho_pw (k:=rs.length) ht.rl.2 (hl.plus hk)
  have hs3:=sho_pw (k:=rs.length) ht.rl.2 hl.minus
  repeat' (first|((with_reducible refine gS_ ?_);first|((with_reducible refine gL_ ?_);first|refine W.run ?_ fun a w G=>?_|refine W.mv fun a w G=>?_|refine W.asg fun a w G=>?_|refine W.bx fun b a w G=>?_|(refine W.nn hK ?_;clear hK K)|refine W.nl ?_|refine W.ste ?_ fun w=>?_)|((with_reducible refine gC_ ?_);first|with_reducible refine W.cbt (by first|assumption|(simp [e1];done)|fail) ?_|with_reducible refine W.cbf (by first|assumption|(simp [e1];done)|fail) ?_|with_reducible refine W.gcc 7 ?_|with_reducible refine W.gcd 7 ?_|refine W.reg fun K hK=>?_|refine W.reg1 ?_|refine W.sq fun K hK=>?_|refine W.sk ?_|refine W.cd (fun hc=>?_) (fun hc=>?_)|refine W.cb (fun hc=>?_) (fun hc=>?_)|refine W.bl ?_|refine W.ex ?_|refine W.rt ?_)|((with_reducible refine W.kn hK ?_);clear hK K)|(with_reducible first|refine W.bn ?_|refine W.xt ?_|refine W.xb ?_|refine W.xo ?_|refine W.tr ?_|refine W.br ?_)|refine W.rt1 rfl ?_)|refine W.cast (t:=114) (τ:=LSC none (List.replicate 10 E0T)) (τ':=LS none ((List.replicate 10 ()).map fun _=>E0T)) (fun h=>errsN h) ?_|refine W.lp 117 (α:=Nat) (fun j=>10 - j) (fun j=>j ≤ 10) [6,28,116,117,118,119,120,121,122] (fun j=>[(116,NT j)]) (fun j=>[]) (0) ?_ ?_ ?_ fun j hj a w G=>?_|refine W.ag (x:=j) (j+1) ?_ ?_ ?_ ?_|clear hK K|clear hu|exact True.intro|exact Nat.le_trans (by clear hp;omega) hp|exact Nat.le_trans (by clear hp;omega) hp.1|exact Nat.le_trans (by clear hp;omega) hp.2|(clear hp;omega)|apply And.intro|refine GI.i fun _=>?_|with_reducible rfl|decide|(simp only [List.length_cons,List.length_nil];omega))
  all_goals (try simp only [List.length_replicate,List.length_cons,List.length_nil] at *)
  all_goals first
    | omega
    | assumption
    | exact (sgL_mul_bd rs l k).1
    | exact (sgL_mul_bd rs l k).2
    | (have h1:=sgL_bd rs l;have h2:=sgL_bd rs k;have h3:=sgL_bd rs (plusF l (minusF k));have h4:=sgL_bd rs (plusF k (minusF l));omega)
    | rfl
    | (have hA := sg_all ht hl hk
       obtain ⟨⟨a1,a2,a3⟩,a4,a5,a6,a7⟩:=hA
       simp only [Bool.and_eq_true,Bool.or_eq_true,decide_eq_true_eq]
       exact ⟨⟨⟨⟨⟨⟨a1,a2⟩,a3⟩,a4⟩,a5⟩,a6⟩,a7⟩)
    | skip
theorem lawTowerSigns {ls : List (List FR)} {l k : List FR} {w : World} {G : Gh} {v1 v2 v3 : Value} (hok : Gok w G) (ht : TAB G) (h1 : (RTX ls).t v1 G) (h2 : (LFR l).t v2 G) (h3 : (LFR k).t v3 G) : Calls Tryz.prog 7 #[v1,v2,v3] w (Ret w G (BT true)):=by
  cases e : vaF ls [l,k] with
  | false=>exact invTowerSigns.c3 hok ht h1 h2 h3 e
  | true =>
    obtain ⟨t1,t2,t3⟩:=va_tw e
    obtain ⟨l1,l2,l3⟩:=va_nm e (l:=l) (by simp)
    obtain ⟨k1,k2,k3⟩:=va_nm e (l:=k) (by simp)
    have e2 : vaF ((ls.map valsL).map (List.map FR.of)) [(valsL l).map FR.of,(valsL k).map FR.of] = true:=by rw [RTX.self h1 t3,LFR.self h2 l3,LFR.self h3 k3];exact e
    exact valTowerSigns.c3 hok ht (RTX.tw h1 t2 t3) (LFR.nm h2 l2 l3) (LFR.nm h3 k2 k3) ⟨t1,l1,k1,e2⟩
end Go.Proofs.YtboicjlbbbodgaaGreatDoor
namespace Go.Proofs.YtboicjlbbbodgaaGreatDoor
open Go.RowKit (Below)
def G0of (W : World) : Gh:=fun b=>W.heap[b]?
theorem G0of_ok (W : World) : Gok W (G0of W):=fun _ _ h=>h
theorem Gc_G0 {W : World} {b i : Nat} : Gc (G0of W) b i = W.cell? ⟨b,i,none⟩:=by
  unfold Gc G0of World.cell?;cases W.heap[b]? with
  | none=>rfl
  | some o=>cases o <;> rfl
def RdA (P : Program) (W : World) (t : TypeId) (k : Option Nat) (A : MT → Prop) : Prop:=∀ (H : Type) (enc : TypeId × Value → H) (fuel : Nat) (cs : List Value) (x : DataW H × List MemPlace),
  DataW.trod enc P W 0 (fun _=>true) true fuel t cs = some x → (x.1.weights P t).all (· ≤ reachBytes) = true → ∃ (v : Value) (τ : MT),A τ ∧ v.cells.toList = cs ∧ Shaped k v ∧ τ.t v (G0of W)
section
variable {P : Program} {W : World} {t e : TypeId} {k : Option Nat} {A A' : MT → Prop}
theorem RdA.mono (h : RdA P W t k A) (hA : ∀ τ v,A τ → τ.t v (G0of W) → ∃ σ,A' σ ∧ σ.t v (G0of W)) : RdA P W t k A':=fun H enc fuel cs x hx hw=>by
  obtain ⟨v,τ,h1,h2,h3,h4⟩:=h H enc fuel cs x hx hw
  obtain ⟨σ,h5,h6⟩:=hA τ v h1 h4
  exact ⟨v,σ,h5,h2,h3,h6⟩
theorem rd_bool (ht : P.underlying t = some .bool) : RdA P W t none (fun τ=>∃ b,τ = .ex (.bool b)):=fun H enc fuel cs x hx hw=>by
  obtain ⟨b,rfl,rfl⟩:=DataW.trod_bool ht hx
  exact ⟨.bool b,_,⟨b,rfl⟩,rfl,⟨rfl,rfl⟩,rfl⟩
theorem rd_int {kk : IntKind} (ht : P.underlying t = some (.int kk)) : RdA P W t none (fun τ=>∃ z,(Lit.int kk z).wf = true ∧ τ = .ex (.int kk z)):=fun H enc fuel cs x hx hw=>by
  obtain ⟨z,rfl,rfl,h⟩:=DataW.trod_int ht hx
  exact ⟨.int kk z,_,⟨z,h,rfl⟩,rfl,⟨rfl,rfl⟩,rfl⟩
theorem cells_get {a : Addr} {n : Nat} {L : List Value} (h : W.cells? 0 a n = some L) : L.length = n ∧ ∀ j,j < n → W.cell? (a.add j) = L[j]?:=by
  unfold World.cells? at h
  rw [if_pos (Nat.zero_le _)] at h
  exact ⟨by simpa using mapM_some_length h,fun j hj=>mapM_some_get h j j (by simp [hj])⟩
theorem weightsAll_mem {H : Type} {es : List (DataW H)} {d : DataW H} {i : Nat} (hi : es[i]? = some d) : ∀ n ∈ d.weights P e,n ∈ DataW.weightsAll P e es:=by
  induction es generalizing i with
  | nil=>simp at hi
  | cons x r ih =>
    intro n hn
    rw [DataW.weightsAll,List.mem_append]
    cases i with
    | zero=>simp at hi;subst hi;exact .inl hn
    | succ j=>exact .inr (ih (by simpa using hi) n hn)
theorem rd_sliceB (ht : P.underlying t = some (.slice e)) (hc : P.cellsOf e = k.getD 1) (hc0 : 0 < k.getD 1) (hb : 4 ≤ P.bytesOf e) (h : RdA P W e k A) : RdA P W t none (fun τ=>∃ τs,(∀ σ ∈ τs,A σ) ∧ τs.length * P.bytesOf e ≤ 140737488351232 ∧ τ = LS k τs):=fun H enc fuel cs x hx hw=>by
  rcases DataW.trod_slice ht hx with ⟨rfl,rfl⟩ | ⟨a,len,cap,elems,rest,n,rfl,rfl,rfl,hb0,hlc,hcm,hel,hE,_,_⟩
  · exact ⟨.slice none 0 0,LS k [],⟨[],by simp,by simp,rfl⟩,rfl,⟨rfl,rfl⟩,LS.nil⟩
  · simp only [DataW.weights,ht,List.all_cons,List.all_append,Bool.and_eq_true,decide_eq_true_eq] at hw
    obtain ⟨hw1,hw2,_⟩:=hw
    have hlim : len ≤ LIM:=by
      have h1 : len * 4 ≤ ((elems.map (·.1)).length + (rest.map (·.1)).length) * P.bytesOf e:=Nat.mul_le_mul (by simp;omega) hb
      have h2 : reachBytes = 140737488351232:=rfl
      simp only [LIM];omega
    have hby : len * P.bytesOf e ≤ 140737488351232:=by
      have h1 : len * P.bytesOf e ≤ ((elems.map (·.1)).length + (rest.map (·.1)).length) * P.bytesOf e:=Nat.mul_le_mul_right _ (by simp;omega)
      have h2 : reachBytes = 140737488351232:=rfl
      omega
    have each : ∀ i,∃ (v : Value) (τ : MT),i < len → W.cells? 0 (a.add (i * k.getD 1)) (k.getD 1) = some v.cells.toList ∧ A τ ∧ Shaped k v ∧ τ.t v (G0of W):=fun i=>by
      by_cases hi : i < len
      · have h1:=hE i hi
        rw [List.getElem?_eq_getElem (by omega),Option.bind_eq_some_iff,hc] at h1
        obtain ⟨cs',h2,h3⟩:=h1
        obtain ⟨v,τ,h4,h5,h6,h7⟩:=h H enc n cs' _ h3 (List.all_eq_true.2 fun m hm=>List.all_eq_true.1 hw2 m (weightsAll_mem (i:=i) (by rw [List.getElem?_map,List.getElem?_eq_getElem (by omega)];rfl) m hm))
        exact ⟨v,τ,fun _=>⟨by rw [h5];exact h2,h4,h6,h7⟩⟩
      · exact ⟨undef,.ex undef,fun h=>absurd h hi⟩
    obtain ⟨f,g,hfg⟩ : ∃ (f : Nat → Value) (g : Nat → MT),∀ i,i < len → W.cells? 0 (a.add (i * k.getD 1)) (k.getD 1) = some (f i).cells.toList ∧ A (g i) ∧ Shaped k (f i) ∧ (g i).t (f i) (G0of W):=⟨fun i=>(each i).choose,fun i=>(each i).choose_spec.choose,fun i=>(each i).choose_spec.choose_spec⟩
    refine ⟨.slice (some a) len cap,LS k ((List.range len).map g),⟨_,fun σ hσ=>?_,by simpa using hby,rfl⟩,rfl,⟨rfl,rfl⟩,LS.of_vals (us:=(List.range len).map f) (A:=some a) (c:=cap) (by simp) (by simpa using hlc) (by simpa using hlim) ⟨by simp,fun i τ u hi hu=>?_⟩ fun i u hu=>?_⟩
    · obtain ⟨i,hi,rfl⟩:=List.mem_map.1 hσ
      exact (hfg i (by simpa using hi)).2.1
    · have hlt : i < len:=by have:=(List.getElem?_eq_some_iff.1 hi).1;simpa using this
      simp [List.getElem?_range hlt] at hi hu
      subst hi;subst hu
      exact (hfg i hlt).2.2
    · have hlt : i < len:=by have:=(List.getElem?_eq_some_iff.1 hu).1;simpa using this
      simp [List.getElem?_range hlt] at hu
      subst hu
      obtain ⟨h1,h2,h3,h4⟩:=hfg i hlt
      obtain ⟨h5,h6⟩:=cells_get h1
      obtain ⟨g5,g6⟩:=cells_get (hfg 0 (by omega)).1
      obtain ⟨b,off,spot⟩:=a
      have h7:=g6 0 hc0
      rw [List.getElem?_eq_getElem (by omega)] at h7
      have hs : spot = none:=by simpa [Addr.add] using World.cell?_spot h7
      subst hs
      refine ⟨b,off,rfl,fun j x hj=>?_⟩
      have hjl : j < k.getD 1:=by have:=(Array.getElem?_eq_some_iff.1 hj).1;rw [← h5,Array.length_toList];exact this
      have h8:=h6 j hjl
      rw [Gc_G0]
      rw [addr_add,addr_add,Array.getElem?_toList,hj] at h8
      exact h8
theorem rd_slice (ht : P.underlying t = some (.slice e)) (hc : P.cellsOf e = k.getD 1) (hc0 : 0 < k.getD 1) (hb : 4 ≤ P.bytesOf e) (h : RdA P W e k A) : RdA P W t none (fun τ=>∃ τs,(∀ σ ∈ τs,A σ) ∧ τ = LS k τs) :=
  (rd_sliceB ht hc hc0 hb h).mono fun τ v ⟨τs,h1,_,h2⟩ hv=>⟨τ,⟨τs,h1,h2⟩,hv⟩
theorem forall_map {α : Type} {T : α → MT} {τs : List MT} (h : ∀ σ ∈ τs,∃ x,σ = T x) : ∃ xs : List α,τs = xs.map T:=by
  induction τs with
  | nil=>exact ⟨[],rfl⟩
  | cons a r ih =>
    obtain ⟨l,rfl⟩:=ih fun σ h'=>h σ (List.mem_cons_of_mem _ h')
    obtain ⟨x,rfl⟩:=h a (List.mem_cons_self ..)
    exact ⟨x :: l,rfl⟩
theorem forall_map' {α : Type} {T : α → MT} {p : α → Prop} {τs : List MT} (h : ∀ σ ∈ τs,∃ x,p x ∧ σ = T x) : ∃ xs : List α,τs = xs.map T ∧ ∀ x ∈ xs,p x:=by
  induction τs with
  | nil=>exact ⟨[],rfl,by simp⟩
  | cons a r ih =>
    obtain ⟨l,rfl,hl⟩:=ih fun σ h'=>h σ (List.mem_cons_of_mem _ h')
    obtain ⟨x,hx,rfl⟩:=h a (List.mem_cons_self ..)
    exact ⟨x :: l,rfl,by simpa using ⟨hx,hl⟩⟩
theorem rd_words (ht : P.underlying t = some (.slice e)) (hu : P.underlying e = some (.int .u32)) (hc : P.cellsOf e = 1) (hb : 4 ≤ P.bytesOf e) : RdA P W t none (fun τ=>∃ l,τ = SL l):=by
  have h1 : RdA P W e none (fun τ=>∃ x : Nat,x < 4294967296 ∧ τ = .ex (u32 x)):=(rd_int hu).mono fun τ v ⟨z,hz,hτ⟩ hv=>by
    subst hτ
    have hm : IntKind.u32.min = 0:=by decide
    have hM : IntKind.u32.max = 4294967295:=by decide
    simp [Lit.wf,hm,hM] at hz
    exact ⟨_,⟨z.toNat,by omega,rfl⟩,by
      have : (z.toNat : Int) = z:=by omega
      show v = .int .u32 (z.toNat : Int);rw [this];exact hv⟩
  refine (rd_slice (k:=none) ht hc (by decide) hb h1).mono fun τ v ⟨τs,hσ,hτ⟩ hv=>?_
  subst hτ
  obtain ⟨l,hl,hlt⟩:=forall_map' hσ
  subst hl
  obtain ⟨A,c,us,h2,h3,h4,h5,h6⟩:=LS.vals hv
  rw [List.length_map] at h2 h3 h4
  refine ⟨_,⟨l,rfl⟩,A,c,h2,h3,h4,hlt,fun i x hi=>?_⟩
  have hil:=(List.getElem?_eq_some_iff.1 hi).1
  have hul : i < us.length:=by rw [h5.1,List.length_map];exact hil
  have hui : us[i]? = some us[i]:=by rw [List.getElem?_eq_getElem hul]
  have h7:=(h5.2 i (.ex (u32 x)) us[i] (by rw [List.getElem?_map,hi];rfl) hui).2
  obtain ⟨b,off,e1,h8⟩:=h6 i us[i] hui
  refine ⟨b,off,e1,?_⟩
  have h9 : us[i] = u32 x:=h7
  rw [h9] at h8
  simpa using h8 0 (u32 x) rfl
def FldOk (P : Program) (W : World) : Nat → List Field → List (Option Nat × (MT → Prop)) → Prop
  | _,[],[]=>True
  | off,f :: fs,a :: As=>f.offset = off ∧ P.cellsOf f.type = a.1.getD 1 ∧ RdA P W f.type a.1 a.2 ∧ FldOk P W (off + a.1.getD 1) fs As
  | _,_,_=>False
def Mt : List (Option Nat × (MT → Prop)) → List (Option Nat × MT) → Prop
  | [],[]=>True
  | a :: As,f :: F=>f.1 = a.1 ∧ a.2 f.2 ∧ Mt As F
  | _,_=>False
def tot (As : List (Option Nat × (MT → Prop))) : Nat:=(As.map fun a=>a.1.getD 1).sum
theorem Mt.tot : ∀ {As : List (Option Nat × (MT → Prop))} {F : List (Option Nat × MT)},Mt As F → (F.map fun f=>f.1.getD 1).sum = Go.Proofs.YtboicjlbbbodgaaGreatDoor.tot As
  | [],[],_=>rfl
  | a :: As,f :: F,h=>by
    have:=Mt.tot h.2.2
    simp only [Go.Proofs.YtboicjlbbbodgaaGreatDoor.tot,List.map_cons,List.sum_cons,h.1] at this ⊢
    rw [this]
  | [],_ :: _,h=>h.elim
  | _ :: _,[],h=>h.elim
theorem rd_fields {H : Type} {enc : TypeId × Value → H} {n : Nat} {cs : List Value} : ∀ (fs : List Field) (As : List (Option Nat × (MT → Prop))) (xs : List (DataW H × List MemPlace)) (off : Nat), FldOk P W off fs As → xs.length = fs.length →
    (∀ (i : Nat) (f : Field),fs[i]? = some f → DataW.trod enc P W 0 (fun _=>true) true n f.type ((cs.drop f.offset).take (P.cellsOf f.type)) = xs[i]?) → (DataW.weightsEach P (fs.map (·.type)) (xs.map (·.1))).all (· ≤ reachBytes) = true → cs.length = off + tot As →
    ∃ us F,Mt As F ∧ flat us = cs.drop off ∧ us.length = F.length ∧ ∀ (i : Nat) (f : Option Nat × MT) (u : Value),F[i]? = some f → us[i]? = some u → Shaped f.1 u ∧ f.2.t u (G0of W)
  | [],[],xs,off,_,_,_,_,hl=>⟨[],[],trivial,by rw [List.drop_eq_nil_of_le (by rw [hl];simp [tot])];rfl,rfl,fun i f u h=>by simp at h⟩
  | f :: fs,a :: As,[],off,_,hx,_,_,_=>by simp at hx
  | f :: fs,a :: As,x :: xs,off,hF,hx,hT,hw,hl=>by
    obtain ⟨h1,h2,h3,h4⟩:=hF
    simp only [List.map_cons,DataW.weightsEach,List.all_append,Bool.and_eq_true] at hw
    obtain ⟨v,τ,h5,h6,h7,h8⟩:=h3 H enc n _ x (hT 0 f rfl) hw.1
    obtain ⟨us,F,g1,g2,g3,g4⟩:=rd_fields fs As xs (off + a.1.getD 1) h4 (by simpa using hx) (fun i g hg=>by simpa using hT (i + 1) g (by simpa using hg)) hw.2 (by rw [hl];simp [tot];omega)
    refine ⟨v :: us,(a.1,τ) :: F,⟨rfl,h5,g1⟩,?_,by simp [g3],fun i f' u hf hu=>?_⟩
    · rw [flat_cons,h6,g2,h1,h2,← List.drop_drop,List.take_append_drop]
    · cases i with
      | zero=>simp at hf hu;subst hf;subst hu;exact ⟨h7,h8⟩
      | succ i=>exact g4 i f' u (by simpa using hf) (by simpa using hu)
  | [],_ :: _,_,_,h,_,_,_,_=>h.elim
  | _ :: _,[],_,_,h,_,_,_,_=>h.elim
theorem rd_struct {fs : Array Field} {As : List (Option Nat × (MT → Prop))} {n : Nat} (ht : P.underlying t = some (.struct fs)) (hn : P.cellsOf t = n) (hnA : tot As = n) (hF : FldOk P W 0 fs.toList As) : RdA P W t (some n) (fun τ=>∃ F,Mt As F ∧ τ = PTS F):=fun H enc fuel cs x hx hw=>by
  obtain ⟨xs,m,rfl,rfl,hl,hxl,hT⟩:=DataW.trod_struct ht hx
  simp only [DataW.weights,ht] at hw
  obtain ⟨us,F,h1,h2,h3,h4⟩:=rd_fields fs.toList As xs 0 hF (by simpa using hxl) (fun i f hf=>hT i f (by simpa using hf)) hw (by omega)
  have hP : (PTS F).t (.agg (flat us).toArray) (G0of W):=⟨us,rfl,h3,h4⟩
  refine ⟨.agg (flat us).toArray,PTS F,⟨F,h1,rfl⟩,by rw [h2];rfl,PTS.shaped (by unfold offs;rw [List.take_length,h1.tot,hnA]) hP,hP⟩
theorem shaped1 {u : Value} (h : Shaped none u) : u.cells = #[u]:=h.1
theorem PTS.toQR {s : Bool} {p q : List Nat} {v : Value} {G : Gh} (h : (PTS [(none,.ex (.bool s)),(none,SL p),(none,SL q)]).t v G) : (QR s p q).t v G:=by
  obtain ⟨us,rfl,hl,h⟩:=h
  match us,hl,h with
  | [u0,u1,u2],_,h =>
    obtain ⟨a0,b0⟩:=h 0 _ u0 rfl rfl
    obtain ⟨a1,b1⟩:=h 1 _ u1 rfl rfl
    obtain ⟨a2,b2⟩:=h 2 _ u2 rfl rfl
    refine ⟨u1,u2,?_,b1,b2⟩
    have e0 : u0 = .bool s:=b0
    simp only [flat,List.flatMap_cons,List.flatMap_nil,shaped1 a0,shaped1 a1,shaped1 a2]
    rw [e0];rfl
theorem rd_frac {fs : Array Field} {f0 f1 f2 : Field} {tw : TypeId} (ht : P.underlying t = some (.struct fs)) (hf : fs.toList = [f0, f1, f2]) (hn : P.cellsOf t = 3) (h0 : f0.offset = 0 ∧ P.cellsOf f0.type = 1 ∧ P.underlying f0.type = some .bool) (h1 : f1.offset = 1 ∧ f1.type = tw) (h2 : f2.offset = 2 ∧ f2.type = tw)
    (hw : P.underlying tw = some (.slice e) ∧ P.cellsOf tw = 1) (he : P.underlying e = some (.int .u32) ∧ P.cellsOf e = 1 ∧ 4 ≤ P.bytesOf e) : RdA P W t (some 3) (fun τ=>∃ r : FR,τ = QR r.s r.p r.q):=by
  have hW : RdA P W tw none (fun τ=>∃ l,τ = SL l):=rd_words hw.1 he.1 he.2.1 he.2.2
  refine (rd_struct (As:=[(none,fun τ=>∃ b,τ = .ex (.bool b)),(none,fun τ=>∃ l,τ = SL l),(none,fun τ=>∃ l,τ = SL l)]) ht hn rfl (by
    rw [hf];exact ⟨h0.1,h0.2.1,rd_bool h0.2.2,h1.1,by rw [h1.2];exact hw.2,by rw [h1.2];exact hW,h2.1,by rw [h2.2];exact hw.2,by rw [h2.2];exact hW,trivial⟩)).mono fun τ v ⟨F,hM,hτ⟩ hv=>?_
  subst hτ
  match F,hM with
  | [a,b,c],⟨a1,⟨s,a2⟩,b1,⟨p,b2⟩,c1,⟨q,c2⟩,_⟩ =>
    obtain ⟨a0,a'⟩:=a;obtain ⟨b0,b'⟩:=b;obtain ⟨c0,c'⟩:=c
    simp only at a1 a2 b1 b2 c1 c2
    subst a1;subst a2;subst b1;subst b2;subst c1;subst c2
    exact ⟨_,⟨⟨s,p,q⟩,rfl⟩,PTS.toQR hv⟩
theorem rd_list {α : Type} {T : α → MT} (ht : P.underlying t = some (.slice e)) (hc : P.cellsOf e = k.getD 1) (hc0 : 0 < k.getD 1) (hb : 4 ≤ P.bytesOf e) (h : RdA P W e k (fun τ=>∃ x,τ = T x)) : RdA P W t none (fun τ=>∃ xs : List α,τ = LS k (xs.map T)) :=
  (rd_slice ht hc hc0 hb h).mono fun τ v ⟨τs,hσ,hτ⟩ hv=>by
    obtain ⟨xs,rfl⟩:=forall_map hσ
    subst hτ
    exact ⟨_,⟨xs,rfl⟩,hv⟩
theorem rd_arg {H : Type} {enc : TypeId × Value → H} {v : Value} {d : DataW H} {ps : List MemPlace} (h : RdA P W t k A) (hd : DataW.Trod enc P W 0 (fun _ => true) true t v d ps) (hw : (d.weights P t).all (· ≤ reachBytes) = true)
    (hv : match k with | none=>v.cells = #[v] | some _=>∃ cs,v = .agg cs) : ∃ τ,A τ ∧ Shaped k v ∧ τ.t v (G0of W):=by
  obtain ⟨fuel,hf⟩:=hd
  obtain ⟨u,τ,h1,h2,h3,h4⟩:=h H enc fuel _ _ hf hw
  have : u = v:=by
    cases k with
    | none =>
      have h5 : u.cells = #[u]:=h3.1
      rw [h5,hv] at h2
      simpa using h2
    | some n =>
      obtain ⟨cs,rfl⟩:=hv
      obtain ⟨cs',rfl,_⟩:=h3
      have : cs'.toList = cs.toList:=h2
      rw [Array.toList_inj.1 this]
  subst this
  exact ⟨τ,h1,h3,h4⟩
end
end Go.Proofs.YtboicjlbbbodgaaGreatDoor
