import Derived.Test.YtnjbcjmkkejfpaaGreatDoorQTh
set_option linter.unusedVariables false
set_option linter.unusedSimpArgs false
set_option linter.unusedVariables false
set_option linter.unusedSimpArgs false
set_option maxHeartbeats 4000000
set_option maxRecDepth 100000
set_option synthInstance.maxSize 100000
set_option synthInstance.maxHeartbeats 400000
namespace Go.Proofs.YtnjbcjmkkejfpaaGreatDoor
open Go.RowKit (Below)
attribute [local irreducible] Go.Code.wp Go.wpList Go.bodyPost
private theorem gS_ {W0 : World} {G0 : Gh} {N : Nat} {L : List (Nat × MT)} {B : List BX} {a : Act} {w : World} {G : Gh} {q : Prop} (h : St W0 G0 N L B a w G → q) : St W0 G0 N L B a w G → q:=h
private theorem gL_ {p : Prop} {P : Program} {arr : Array Oper} {Q : Exit → Act → World → Prop} {l : List Oper} {a : Act} {w : World} (h : p → wpList P arr Q l a w) : p → wpList P arr Q l a w:=h
private theorem gC_ {p : Prop} {P : Program} {c : Code} {Q : Exit → Act → World → Prop} {a : Act} {w : World} (h : p → c.wp P Q a w) : p → c.wp P Q a w:=h
private theorem mixedOrders : Tryz.prog.follows .mixedOrders = true:=by kernel_rfl
attribute [local irreducible] barC trnC btC ciF dsc enR enL cirs exC ofC ofI boC boI boK dirC dirS cirF
theorem ex_bar : barC [FR.of 4,FR.of 1,FR.of 9,FR.of 9] = 0:=by
  unfold barC;simp only [List.all_cons,List.all_nil,posR_of4];decide +kernel
theorem ex_dL : dsc (FR.of 4) (FR.of 1) (FR.of 9) (FR.of 9) true zFR.val = 275:=by unfold dsc;simp only [FR.of_val,zv0];decide +kernel
instance iK6_113  : Con Tryz.prog 54 [] (True) (QUD 64 (FR.of 4) (FR.of 1) (FR.of 9) (FR.of 9)):=.o0 fun hok  hp=>by
  refine St.enter (N:=6) Tryz.func54 rfl rfl rfl hok enter0 fun a=>?_
  repeat' (first|((with_reducible refine gS_ ?_);first|((with_reducible refine gL_ ?_);first|refine W.run ?_ fun a w G=>?_|refine W.mv fun a w G=>?_|refine W.asg fun a w G=>?_|refine W.bx fun b a w G=>?_|(refine W.nn hK ?_;clear hK K)|refine W.nl ?_|refine W.al fun b a w G=>?_|refine W.st fun w=>?_|refine W.stp fun w=>?_|refine W.ste ?_ fun w=>?_)|((with_reducible refine gC_ ?_);first|refine W.reg fun K hK=>?_|refine W.reg1 ?_|refine W.sq fun K hK=>?_|refine W.ds ?_ (fun β a w G hu=>W.fin ?_ hu) mixedOrders (by kernel_rfl)|refine W.sk ?_|refine W.cd (fun hc=>?_) (fun hc=>?_)|refine W.cb (fun hc=>?_) (fun hc=>?_)|refine W.bl ?_|refine W.ex ?_|refine W.rt ?_)|((with_reducible refine W.kn hK ?_);clear hK K)|(with_reducible first|refine W.bn ?_|refine W.xt ?_|refine W.xb ?_|refine W.xo ?_|refine W.tr ?_|refine W.br ?_)|refine W.rt1 rfl ?_|refine W.rt2 rfl ?_ ?_|refine W.rt3 rfl ?_ ?_ ?_)|clear hK K|clear hu|exact True.intro|exact Nat.le_trans (by clear hp;omega) hp|exact Nat.le_trans (by clear hp;omega) hp.1|exact Nat.le_trans (by clear hp;omega) hp.2|(clear hp;omega)|apply And.intro|refine GI.i fun _=>?_|with_reducible rfl|decide|(simp only [List.length_cons,List.length_nil];omega))
end Go.Proofs.YtnjbcjmkkejfpaaGreatDoor
set_option linter.unusedVariables false
set_option linter.unusedSimpArgs false
set_option maxHeartbeats 4000000
set_option maxRecDepth 100000
set_option synthInstance.maxSize 100000
set_option synthInstance.maxHeartbeats 400000
namespace Go.Proofs.YtnjbcjmkkejfpaaGreatDoor
open Go.RowKit (Below)
attribute [local irreducible] Go.Code.wp Go.wpList Go.bodyPost
attribute [local irreducible] barC trnC btC dirC dirS dsc ouE ouR ouL ouX ouY ouMX ouMY
theorem a36_b : btC [FR.of 4,FR.of 1,FR.of 9,FR.of 9] true zFR = 0:=bt_0 ex_bar trn_zero
theorem a36_d : dsc (FR.of 4) (FR.of 1) (FR.of 9) (FR.of 9) true zFR.val = 275:=ex_dL
theorem a36_ok {x : Rat} : okV (btC [FR.of 4,FR.of 1,FR.of 9,FR.of 9] true zFR) x = x:=okV_0 a36_b
theorem a36_x : ouX (FR.of 4) (FR.of 1) (FR.of 9) (FR.of 9) true zFR.val = 3 / 2:=by
  unfold ouX ouK w2F
  simp only [FR.of_val,zv0]
  decide +kernel
theorem a36_e : oaE (FR.of 4) (FR.of 1) (FR.of 9) (FR.of 9) true zFR = 0:=by
  unfold oaE
  rw [if_pos a36_b]
  unfold ouE
  rw [if_neg (fun e=>absurd e.1 (by unfold w2F;simp only [FR.of_val,zv0];decide +kernel)),if_neg (by rw [a36_d];decide)]
theorem a36_o : ouE (FR.of 4) (FR.of 1) (FR.of 9) (FR.of 9) true zFR.val = 0:=by have h:=a36_e;unfold oaE at h;rw [if_pos a36_b] at h;exact h
theorem a36_r : oaR (FR.of 4) (FR.of 1) (FR.of 9) (FR.of 9) true zFR = [[275]]:=by
  unfold oaR ouR
  rw [if_pos a36_b,if_pos ⟨a36_o,by rw [a36_d];decide⟩,a36_d]
theorem a36_l : oaL (FR.of 4) (FR.of 1) (FR.of 9) (FR.of 9) true zFR = [(1,[3 / 2,ouMX (FR.of 4) (FR.of 1) true zFR.val],[ouY (FR.of 4) (FR.of 1) (FR.of 9) (FR.of 9) true zFR.val,ouMY (FR.of 4) (FR.of 1) true zFR.val]),(-1,[3 / 2,-ouMX (FR.of 4) (FR.of 1) true zFR.val],[ouY (FR.of 4) (FR.of 1) (FR.of 9) (FR.of 9) true zFR.val,-ouMY (FR.of 4) (FR.of 1) true zFR.val])]:=by
  unfold oaL ouL
  rw [if_pos a36_b,if_pos a36_o,a36_d,if_neg (by decide),a36_x]
theorem w12 {t : FR} {h : Bool} : Con Tryz.prog 12 [PTS [(some 3,RX t),(none,BT h)]] (True) (BT (shortR t)):=.o1 fun hok h1 hp=>by
  refine St.enter (N:=15) Tryz.func12 rfl rfl rfl hok (enter1 h1) fun a=>?_
  repeat' (first|((with_reducible refine gS_ ?_);first|((with_reducible refine gL_ ?_);first|refine W.run ?_ fun a w G=>?_|refine W.mv fun a w G=>?_|refine W.asg fun a w G=>?_|refine W.bx fun b a w G=>?_|(refine W.nn hK ?_;clear hK K)|refine W.nl ?_|refine W.al fun b a w G=>?_|refine W.st fun w=>?_|refine W.stp fun w=>?_|refine W.ste ?_ fun w=>?_)|((with_reducible refine gC_ ?_);first|refine W.reg fun K hK=>?_|refine W.reg1 ?_|refine W.sq fun K hK=>?_|refine W.ds ?_ (fun β a w G hu=>W.fin ?_ hu) mixedOrders (by kernel_rfl)|refine W.sk ?_|refine W.cd (fun hc=>?_) (fun hc=>?_)|refine W.cb (fun hc=>?_) (fun hc=>?_)|refine W.bl ?_|refine W.ex ?_|refine W.rt ?_)|((with_reducible refine W.kn hK ?_);clear hK K)|(with_reducible first|refine W.bn ?_|refine W.xt ?_|refine W.xb ?_|refine W.xo ?_|refine W.tr ?_|refine W.br ?_)|refine W.rt1 rfl ?_|refine W.rt2 rfl ?_ ?_|refine W.rt3 rfl ?_ ?_ ?_)|clear hK K|clear hu|exact True.intro|exact Nat.le_trans (by clear hp;omega) hp|exact Nat.le_trans (by clear hp;omega) hp.1|exact Nat.le_trans (by clear hp;omega) hp.2|(clear hp;omega)|apply And.intro|refine GI.i fun _=>?_|with_reducible rfl|decide|(simp only [List.length_cons,List.length_nil];omega))
  all_goals first | omega | rfl | (unfold shortR;congr 1 <;> exact decide_eq_decide.2 (by omega)) | (unfold shortR;rw [Bool.eq_iff_iff];simp only [Bool.and_eq_true,decide_eq_true_eq];omega) | skip
instance {t : FR} {h : Bool} {τ1 : MT} [j1 : NR τ1 (PTS [(some 3,RX t),(none,BT h)])] : Con Tryz.prog 12 [τ1] (True) (BT (shortR t)):=.o1 fun hok h1 hp=>w12.c1 hok (j1.h h1) hp
instance  : ConT Tryz.prog 10 [] (True) (BT true):=.o0 fun hok ht  hp=>by
  refine St.enter (N:=75) Tryz.func10 rfl rfl rfl hok enter0 fun a=>?_
  refine W.tab ht ?_
  have x1:=a36_b
  have x3:=a36_e
  have x4:=a36_r
  have x5:=a36_l
  repeat' (first|((with_reducible refine gS_ ?_);first|((with_reducible refine gL_ ?_);first|refine W.run ?_ fun a w G=>?_|refine W.mv fun a w G=>?_|refine W.asg fun a w G=>?_|refine W.bx fun b a w G=>?_|(refine W.nn hK ?_;clear hK K)|refine W.nl ?_|refine W.al fun b a w G=>?_|refine W.st fun w=>?_|refine W.stp fun w=>?_|refine W.ste ?_ fun w=>?_)|((with_reducible refine gC_ ?_);first|refine W.reg fun K hK=>?_|refine W.reg1 ?_|refine W.sq fun K hK=>?_|refine W.ds ?_ (fun β a w G hu=>W.fin ?_ hu) mixedOrders (by kernel_rfl)|refine W.sk ?_|refine W.cd (fun hc=>?_) (fun hc=>?_)|refine W.cb (fun hc=>?_) (fun hc=>?_)|refine W.bl ?_|refine W.ex ?_|refine W.rt ?_)|((with_reducible refine W.kn hK ?_);clear hK K)|(with_reducible first|refine W.bn ?_|refine W.xt ?_|refine W.xb ?_|refine W.xo ?_|refine W.tr ?_|refine W.br ?_)|refine W.rt1 rfl ?_|refine W.rt2 rfl ?_ ?_|refine W.rt3 rfl ?_ ?_ ?_)|clear hK K|clear hu|exact True.intro|exact Nat.le_trans (by clear hp;omega) hp|exact Nat.le_trans (by clear hp;omega) hp.1|exact Nat.le_trans (by clear hp;omega) hp.2|(clear hp;omega)|apply And.intro|refine GI.i fun _=>?_|with_reducible rfl|decide|(simp only [List.length_cons,List.length_nil];omega))
  all_goals (try simp only [a36_ok,a36_d,a36_r,a36_l,a36_e,List.length_cons,List.length_nil] at *)
  all_goals first
    | omega
    | (show (0 : Rat) < 3 / 2;decide +kernel)
    | (show (3 / 2 : Rat).num < 1000000000;decide +kernel)
    | (show (3 / 2 : Rat).den < 1000000000;decide +kernel)
    | decide
    | rfl
    | (rw [a36_b];decide +kernel)
    | skip
end Go.Proofs.YtnjbcjmkkejfpaaGreatDoor
set_option linter.unusedVariables false
set_option linter.unusedSimpArgs false
set_option maxHeartbeats 4000000
set_option maxRecDepth 100000
set_option synthInstance.maxSize 100000
set_option synthInstance.maxHeartbeats 400000
namespace Go.Proofs.YtnjbcjmkkejfpaaGreatDoor
open Go.RowKit (Below)
attribute [local irreducible] Go.Code.wp Go.wpList Go.bodyPost
theorem gi3_0 {s1 s2 s3 : Bool} (h : ((s1 && s2) && s3) = false) (g : (((!true || !s1) || !s2) || !s3) = false) : False:=by cases s1 <;> cases s2 <;> cases s3 <;> simp_all
theorem gi3_1 {s1 s2 s3 A1 : Bool} (h : ((s1 && s2) && s3) = false) (g : ((((!true || !s1) || !s2) || !s3) || A1) = false) : False:=by cases s1 <;> cases s2 <;> cases s3 <;> simp_all
theorem gi3_2 {s1 s2 s3 A1 A2 : Bool} (h : ((s1 && s2) && s3) = false) (g : (((((!true || !s1) || !s2) || !s3) || A1) || A2) = false) : False:=by cases s1 <;> cases s2 <;> cases s3 <;> simp_all
theorem long3_3 {s1 s2 s3 A1 A2 A3 : Bool} (h : ((s1 && s2) && s3) = false) : ((((((!true || !s1) || !s2) || !s3) || A1) || A2) || A3) = true:=by cases s1 <;> cases s2 <;> cases s3 <;> simp_all
attribute [local irreducible] barC trnC btC dirC dirS dsc ouE ouR ouL ouX ouY ouMX ouMY oaE oaR oaL
section
variable {a b c d t : FR} {h : Bool}
theorem ouL_t (g a b c : FR) (h : Bool) (t : Rat) : (ouL g a b c h t).length ≤ 2:=by
  unfold ouL;split
  · split
    · exact Nat.le_succ 1
    · exact Nat.le_refl 2
  · exact Nat.zero_le _
end
instance gTO5_3_2 : GcT 3 2 false 2 [3,4,12,13,14,15,16,17,18,19,20,21,22,23]:=⟨⟩
instance gTO5_3_3 : GcT 3 3 false 4 [12,13,14,15,16,17,18,19,20,21,22,23]:=⟨⟩
instance gTO5_3_4 : GcT 3 4 false 25 [26,27,28,29,30,31]:=⟨⟩
instance gTO5_3_7 : GcT 3 7 false 32 [33,34,35,36,37,38,39,40]:=⟨⟩
instance gTO5_3_10 : GcT 3 10 false 2 [3,41,42,58,59,60,61,62,63,64]:=⟨⟩
instance gTO5_3_11 : GcT 3 11 false 5 [6,7,8,9,10,65,66,67,68,69,70,71,72,73,74,75,76,77,78,79,80,81]:=⟨⟩
instance gTO5_3_12 : GcT 3 12 false 5 [7,8,9,65,66,67,68,69,70,71,72,73,74,75,76,77,78,79,80,81]:=⟨⟩
instance gTO5_3_16 : GcT 3 16 false 11 [85,86,87,88,89,90,91,92,93,94,95,96,97,98,99,100,101,102,103,104,105,106,107,108,109,110,111,112,113,114,115,116,117,118,119,120,121,122,123,124,125,126,127,128,129]:=⟨⟩
end Go.Proofs.YtnjbcjmkkejfpaaGreatDoor
namespace Go.Proofs.YtnjbcjmkkejfpaaGreatDoor
open Go.RowKit (Below)
end Go.Proofs.YtnjbcjmkkejfpaaGreatDoor
namespace Go.Proofs.YtnjbcjmkkejfpaaGreatDoor
theorem fr_self {r : FR} (hw : wfl r.p ∧ wfl r.q) (hok : r.ok = true) : FR.of r.val = r:=by
  obtain ⟨s,p,q⟩:=r
  have hw : wfl p ∧ wfl q:=hw
  have hok : qok s p q = true:=hok
  by_cases hp : p.length = 0
  · have e:=List.length_eq_zero_iff.1 hp
    subst e
    have h : qok s [] q = true:=hok
    have hv : FR.val ⟨s,[],q⟩ = 0:=qval_nil rfl
    unfold qok at h
    split at h
    · rename_i k
      obtain rfl:=k.2
      rw [hv]
      have : s = false:=by simpa using h
      subst this
      unfold FR.of dwords
      rw [if_pos rfl,show (0 : Rat).num.natAbs = 0 from rfl,words_zero];rfl
    · simp at h
  · obtain ⟨_,h3,h4,h5,h6⟩:=qval_parts hw hok hp
    have hp0 : val p ≠ 0:=fun e=>ne_of_len hp (val_eq_zero h3 e)
    have hne : FR.val ⟨s,p,q⟩ ≠ 0:=fun e=>by
      have h5' : (FR.val ⟨s,p,q⟩).num = sg s (val p):=h5
      rw [e] at h5'
      have:=congrArg Int.natAbs h5'
      rw [sg_abs] at this;exact hp0 this.symm
    have hs : decide (FR.val ⟨s,p,q⟩ < 0) = s:=by
      have h5' : (FR.val ⟨s,p,q⟩).num = sg s (val p):=h5
      have h7 : FR.val ⟨s,p,q⟩ < 0 ↔ (FR.val ⟨s,p,q⟩).num < 0:=by
        rw [← Rat.not_le,← Rat.num_nonneg];omega
      rw [Bool.eq_iff_iff,decide_eq_true_iff,h7,h5']
      cases s <;> simp [sg] <;> omega
    unfold FR.of dwords
    rw [if_neg hne,hs]
    have e1 : (FR.val ⟨s,p,q⟩).num.natAbs = val p:=(congrArg Int.natAbs h5).trans sg_abs
    have e2 : (FR.val ⟨s,p,q⟩).den = val q:=h6
    rw [e1,e2,words_val hw.1 h3,words_val hw.2 h4]
theorem FX.self {n : Nat} {r : FR} {v : Value} {G : Gh} (h : (FX n r).t v G) (hok : r.ok = true) : (FX n (FR.of r.val)).t v G:=FX.eq h (fr_self (QR.wf (FX.qr h)) hok).symm
theorem FX.inv {n : Nat} {ra rb rc rd : FR} {k : Int} {j : Nat} {v : Value} {G : Gh} (hck : chkF [ra,rb,rc,rd] = 0) (h : (FX n ([ra,rb,rc,rd].getD ((j + md4 k) % 4) default)).t v G) : (FX n (invF [ra,rb,rc,rd] k j)).t v G:=by
  have hp:=chk_pos hck
  unfold invF;rw [if_pos hck]
  refine FX.self h ?_
  have hlt : (j + md4 k) % 4 < [ra,rb,rc,rd].length:=Nat.mod_lt _ (by decide)
  have hm : [ra,rb,rc,rd].getD ((j + md4 k) % 4) default ∈ [ra,rb,rc,rd]:=by
    rw [List.getD_eq_getElem?_getD,List.getElem?_eq_getElem hlt];exact List.getElem_mem hlt
  have:=List.all_eq_true.1 hp _ hm
  unfold posR at this
  exact (Bool.and_eq_true_iff.1 this).1
section
variable {a b c d A B C D : Rat}
end
end Go.Proofs.YtnjbcjmkkejfpaaGreatDoor
set_option linter.unusedVariables false
set_option linter.unusedSimpArgs false
set_option maxHeartbeats 4000000
set_option maxRecDepth 100000
set_option synthInstance.maxSize 100000
set_option synthInstance.maxHeartbeats 400000
namespace Go.Proofs.YtnjbcjmkkejfpaaGreatDoor
open Go.RowKit (Below)
attribute [local irreducible] Go.Code.wp Go.wpList Go.bodyPost
attribute [local irreducible] barC trnC btC dirC dirS dsc ouE ouR ouL ouX ouY ouMX ouMY oaE oaR oaL okV quF
section
variable {g a b c t : FR} {h : Bool}
end
instance gTO6_4_2 : GcT 4 2 false 2 [3,4,14,15,16,17,18,19,20,21,22,23,24,25]:=⟨⟩
instance gTO6_4_3 : GcT 4 3 false 4 [14,15,16,17,18,19,20,21,22,23,24,25]:=⟨⟩
instance gTO6_4_5 : GcT 4 5 false 27 [28,29,30,31,32,33,34,35,36,37]:=⟨⟩
instance gTO6_4_6 : GcT 4 6 false 38 [39,40,41,42,43]:=⟨⟩
instance gTO6_4_8 : GcT 4 8 false 2 [3,5,6,7,8,9,10,11,44,45,46,47,48,49,50]:=⟨⟩
instance gTO6_4_9 : GcT 4 9 false 44 [45,46,47,48,49,50]:=⟨⟩
instance gTO6_4_13 : GcT 4 13 false 2 [3,5,6,7,8,9,10,11,12,51,52,86,87,88,89,90,91,92,93,94,95,96,97,98,99,100,101,102,103,104,105,106,107,108,109,110,111,112,113,114,115,116,117,118,119,120,121]:=⟨⟩
instance gTO6_4_14 : GcT 4 14 false 5 [6,11,12,51,52,86,87,88,89,90,91,92,93,94,95,96,97,98,99,100,101,102,103,104,105,106,107,108,109,110,111,112,113,114,115,116,117,118,119,120,121]:=⟨⟩
instance gTO6_4_17 : GcT 4 17 false 122 [123,124,142,143,144]:=⟨⟩
end Go.Proofs.YtnjbcjmkkejfpaaGreatDoor
set_option linter.unusedVariables false
set_option linter.unusedSimpArgs false
set_option maxHeartbeats 4000000
set_option maxRecDepth 100000
set_option synthInstance.maxSize 100000
set_option synthInstance.maxHeartbeats 400000
namespace Go.Proofs.YtnjbcjmkkejfpaaGreatDoor
open Go.RowKit (Below)
attribute [local irreducible] Go.Code.wp Go.wpList Go.bodyPost
attribute [local irreducible] barC trnC btC dirC dirS dsc ouE ouR ouL ouX ouY ouMX ouMY oaE oaR oaL okV quF
def hoB (g a b c : FR) (h : Bool) (t x y : Rat) : Bool:=decide (cmpQ (d2F (x - a.val * dirC h t) (y - a.val * dirS h t)) b.val = 0) && decide (cmpQ (d2F (x - g.val) y) c.val = 0)
def hoC (l : List FR) (h : Bool) (t x y : FR) : Int:=if btC l h t = 0 then (if (x.ok && y.ok) = true then 0 else 2) else btC l h t
section
variable {l : List FR} {h : Bool} {t x y : FR}
theorem ho_n (e : ¬ btC l h t = 0) : hoC l h t x y = btC l h t:=by unfold hoC;rw [if_neg e]
theorem ho_0 (e : btC l h t = 0) (k : (x.ok && y.ok) = true) : hoC l h t x y = 0:=by unfold hoC;rw [if_pos e,if_pos k]
theorem ho_2 (e : btC l h t = 0) (k : (x.ok && y.ok) = false) : hoC l h t x y = 2:=by unfold hoC;rw [if_pos e,k];rfl
theorem ho_k (e : (!x.ok || !y.ok) = false) : (x.ok && y.ok) = true:=by cases hx : x.ok <;> cases hy : y.ok <;> simp_all
theorem ho_f (e : (!x.ok || !y.ok) = true) : (x.ok && y.ok) = false:=by cases hx : x.ok <;> cases hy : y.ok <;> simp_all
end
theorem w36 {k : Nat} {rx ry : FR} : Con Tryz.prog 36 [PTS [(some 3,FX k rx),(some 3,FX k ry)]] (k ≤ BIG) (BT (rx.ok && ry.ok)):=.o1 fun hok h1 hp=>by
  refine St.enter (N:=11) Tryz.func36 rfl rfl rfl hok (enter1 h1) fun a=>?_
  repeat' (first|((with_reducible refine gS_ ?_);first|((with_reducible refine gL_ ?_);first|refine W.run ?_ fun a w G=>?_|refine W.mv fun a w G=>?_|refine W.asg fun a w G=>?_|refine W.bx fun b a w G=>?_|(refine W.nn hK ?_;clear hK K)|refine W.nl ?_|refine W.al fun b a w G=>?_|refine W.st fun w=>?_|refine W.stp fun w=>?_|refine W.ste ?_ fun w=>?_)|((with_reducible refine gC_ ?_);first|refine W.reg fun K hK=>?_|refine W.reg1 ?_|refine W.sq fun K hK=>?_|refine W.ds ?_ (fun β a w G hu=>W.fin ?_ hu) mixedOrders (by kernel_rfl)|refine W.sk ?_|refine W.cd (fun hc=>?_) (fun hc=>?_)|refine W.cb (fun hc=>?_) (fun hc=>?_)|refine W.bl ?_|refine W.ex ?_|refine W.rt ?_)|((with_reducible refine W.kn hK ?_);clear hK K)|(with_reducible first|refine W.bn ?_|refine W.xt ?_|refine W.xb ?_|refine W.xo ?_|refine W.tr ?_|refine W.br ?_)|refine W.rt1 rfl ?_|refine W.rt2 rfl ?_ ?_|refine W.rt3 rfl ?_ ?_ ?_)|clear hK K|clear hu|exact True.intro|exact Nat.le_trans (by clear hp;omega) hp|exact Nat.le_trans (by clear hp;omega) hp.1|exact Nat.le_trans (by clear hp;omega) hp.2|(clear hp;omega)|apply And.intro|refine GI.i fun _=>?_|with_reducible rfl|decide|(simp only [List.length_cons,List.length_nil];omega))
  all_goals first | omega | rfl | skip
instance {k : Nat} {rx ry : FR} {τ1 : MT} [j1 : NF τ1 (PTS [(some 3,FX k rx),(some 3,FX k ry)])] : Con Tryz.prog 36 [τ1] (k ≤ BIG) (BT (rx.ok && ry.ok)):=.o1 fun hok h1 hp=>w36.c1 hok (j1.h h1) hp
def plR (x : FR × FR) : MT:=PTS [(some 3,RX x.1),(some 3,RX x.2)]
instance {x : FR × FR} : Shp (plR x) (some 6):=⟨fun h=>PTS.shaped rfl h⟩
instance (priority:=800) Prt.plr {x : FR × FR} {i : Nat} {kt : Option Nat} {τ : MT} [h : PrtL [(some 3,RX x.1),(some 3,RX x.2)] i kt τ] : Prt (plR x) i kt τ:=(inferInstance : Prt (PTS [(some 3,RX x.1),(some 3,RX x.2)]) i kt τ)
instance {r s : FR} : AsT (PTS [(some 3,RX r),(some 3,RX s)]) plR (r,s):=⟨fun h=>h⟩
instance {n : Nat} {r s : FR} : AsT (PTS [(some 3,FX n r),(some 3,FX n s)]) plR (r,s):=⟨fun h=>NR.h h⟩
instance NR.plr {τs : List MT} {xs : List (FR × FR)} [h : AsTL τs plR xs] : NR (LSC (some 6) τs) (LS (some 6) (xs.map plR)):=⟨fun hv=>h.ls hv.1⟩
def shP (x : FR × FR) : Bool:=[x.1,x.2].all shortR
theorem shR_t9 {r : FR} (h : (decide (((r.p.length : Nat) : Int) > 2) || decide (((r.q.length : Nat) : Int) > 2)) = true) : shortR r = false:=by
  simp only [Bool.or_eq_true,decide_eq_true_eq] at h
  exact shortR_not (by omega)
theorem shR_f9 {r : FR} (h : (decide (((r.p.length : Nat) : Int) > 2) || decide (((r.q.length : Nat) : Int) > 2)) = false) : shortR r = true:=by
  simp only [Bool.or_eq_false_iff,decide_eq_false_iff_not] at h
  exact shortR_of (by omega) (by omega)
theorem w29 {l : List (FR × FR)} : Con Tryz.prog 29 [LS (some 6) (l.map plR)] (True) (BT (l.all shP)):=.o1 fun hok h1 hp=>by
  refine St.enter (N:=35) Tryz.func29 rfl rfl rfl hok (enter1 h1) fun a=>?_
  have hlim:=LS.lenM h1
  simp only [LIM] at hlim
  repeat' (first|((with_reducible refine gS_ ?_);first|((with_reducible refine gL_ ?_);first|refine W.run ?_ fun a w G=>?_|refine W.mv fun a w G=>?_|refine W.asg fun a w G=>?_|refine W.bx fun b a w G=>?_|(refine W.nn hK ?_;clear hK K)|refine W.nl ?_|refine W.al fun b a w G=>?_|refine W.st fun w=>?_|refine W.stp fun w=>?_|refine W.ste ?_ fun w=>?_)|((with_reducible refine gC_ ?_);first|refine W.reg fun K hK=>?_|refine W.reg1 ?_|refine W.sq fun K hK=>?_|refine W.ds ?_ (fun β a w G hu=>W.fin ?_ hu) mixedOrders (by kernel_rfl)|refine W.sk ?_|refine W.cd (fun hc=>?_) (fun hc=>?_)|refine W.cb (fun hc=>?_) (fun hc=>?_)|refine W.bl ?_|refine W.ex ?_|refine W.rt ?_)|((with_reducible refine W.kn hK ?_);clear hK K)|(with_reducible first|refine W.bn ?_|refine W.xt ?_|refine W.xb ?_|refine W.xo ?_|refine W.tr ?_|refine W.br ?_)|refine W.rt1 rfl ?_|refine W.rt2 rfl ?_ ?_|refine W.rt3 rfl ?_ ?_ ?_)|refine W.lp 10 (α:=Nat) (fun i=>l.length - i) (fun i=>i ≤ l.length ∧ (l.take i).all shP = true) [2,4,6,9,10,11,12,13,14,15,16,17,18,19,20,21,22,23,24,25,26,27,28,29,30,31,32,33,34] (fun i=>[(9,NT i)]) (fun i=>[]) (0) ?_ ?_ ?_ fun i hi a w G=>?_|refine W.ag (x:=i) (i+1) ?_ ?_ ?_ ?_|refine W.lp 20 (α:=Nat) (fun j=>2 - j) (fun j=>j ≤ 2 ∧ ([(l.getD i default).1,(l.getD i default).2].take j).all shortR = true) [2,6,17,18,19,20,21,22,23,24,25,26,27,28,29,30,31,32,33] (fun j=>[(19,NT j),(18,NT 2),(17,LS (some 3) ([(l.getD i default).1,(l.getD i default).2].map RX))]) (fun j=>[]) (0) ?_ ?_ ?_ fun j hj a w G=>?_|refine W.ag (x:=j) (j+1) ?_ ?_ ?_ ?_|clear hK K|clear hu|exact True.intro|exact Nat.le_trans (by clear hp;omega) hp|exact Nat.le_trans (by clear hp;omega) hp.1|exact Nat.le_trans (by clear hp;omega) hp.2|(clear hp;omega)|apply And.intro|refine GI.i fun _=>?_|with_reducible rfl|decide|(simp only [List.length_cons,List.length_nil];omega))
  all_goals first
    | omega
    | rfl
    | exact (all_not (p:=shP) (show i < l.length by omega) (all_not (show j < 2 by omega) (shR_t9 hc))).symm
    | exact all_snoc (show j < 2 by omega) hj.2 (shR_f9 hc)
    | exact all_snoc (p:=shP) (by omega) hi.2 (all_end (show ¬ j < 2 by omega) hj.2)
    | exact (all_end (by omega) hi.2).symm
    | skip
instance {l : List (FR × FR)} {τ1 : MT} [j1 : NR τ1 (LS (some 6) (l.map plR))] : Con Tryz.prog 29 [τ1] (True) (BT (l.all shP)):=.o1 fun hok h1 hp=>w29.c1 hok (j1.h h1) hp
theorem w31 {n m k : Nat} {rg ra rb rc t rx ry : FR} {h : Bool} : Con Tryz.prog 31 [QUD n rg ra rb rc,TRN m t h,PTS [(some 3,FX k rx),(some 3,FX k ry)]] (10000 * n + 10000 * m + 10000 * k + 200000 ≤ BIG) (MT.tup2 (BT (decide (hoC [rg,ra,rb,rc] h t rx ry = 0) && hoB rg ra rb rc h t.val rx.val ry.val)) (.ex (errV 67 (hoC [rg,ra,rb,rc] h t rx ry)))):=.o3 fun hok h1 h2 h3 hp=>by
  refine St.enter (N:=69) Tryz.func31 rfl rfl rfl hok (enter3 h1 h2 h3) fun a=>?_
  repeat' (first|((with_reducible refine gS_ ?_);first|((with_reducible refine gL_ ?_);first|refine W.run ?_ fun a w G=>?_|refine W.mv fun a w G=>?_|refine W.asg fun a w G=>?_|refine W.bx fun b a w G=>?_|(refine W.nn hK ?_;clear hK K)|refine W.nl ?_|refine W.al fun b a w G=>?_|refine W.st fun w=>?_|refine W.stp fun w=>?_|refine W.ste ?_ fun w=>?_)|((with_reducible refine gC_ ?_);first|refine W.reg fun K hK=>?_|refine W.reg1 ?_|refine W.sq fun K hK=>?_|refine W.ds ?_ (fun β a w G hu=>W.fin ?_ hu) mixedOrders (by kernel_rfl)|refine W.sk ?_|refine W.cd (fun hc=>?_) (fun hc=>?_)|refine W.cb (fun hc=>?_) (fun hc=>?_)|refine W.bl ?_|refine W.ex ?_|refine W.rt ?_)|((with_reducible refine W.kn hK ?_);clear hK K)|(with_reducible first|refine W.bn ?_|refine W.xt ?_|refine W.xb ?_|refine W.xo ?_|refine W.tr ?_|refine W.br ?_)|refine W.rt1 rfl ?_|refine W.rt2 rfl ?_ ?_|refine W.rt3 rfl ?_ ?_ ?_)|clear hK K|clear hu|exact True.intro|exact Nat.le_trans (by clear hp;omega) hp|exact Nat.le_trans (by clear hp;omega) hp.1|exact Nat.le_trans (by clear hp;omega) hp.2|(clear hp;omega)|apply And.intro|refine GI.i fun _=>?_|with_reducible rfl|decide|(simp only [List.length_cons,List.length_nil];omega))
  all_goals first
    | omega
    | (by_cases e0 : btC [rg, ra, rb, rc] h t = 0
       · first
         | omega
         | (exfalso;omega)
         | exact okV_0 e0
         | (have hk:=ho_k (x:=rx) (y:=ry) (by assumption);rw [ho_0 e0 hk];simp only [okV_0 e0,decide_true,Bool.true_and];rfl)
         | (have hk:=ho_k (x:=rx) (y:=ry) (by assumption);rw [ho_0 e0 hk])
         | exact (ho_0 e0 (ho_k (by assumption))).symm
         | exact (ho_2 e0 (ho_f (by assumption)))
         | exact (ho_2 e0 (ho_f (by assumption))).symm
         | (rw [ho_2 e0 (ho_f (by assumption))];rfl)
         | skip
       · first
         | (exfalso;omega)
         | exact ho_n e0
         | exact (ho_n e0).symm
         | (rw [ho_n e0,decide_eq_false e0];rfl)
         | skip)
    | skip
instance {n m k : Nat} {rg ra rb rc t rx ry : FR} {h : Bool} {τ1 : MT} [j1 : NF τ1 (QUD n rg ra rb rc)] {τ2 : MT} [j2 : NF τ2 (TRN m t h)] {τ3 : MT} [j3 : NF τ3 (PTS [(some 3,FX k rx),(some 3,FX k ry)])] : Con Tryz.prog 31 [τ1,τ2,τ3] (10000 * n + 10000 * m + 10000 * k + 200000 ≤ BIG) (MT.tup2 (BT (decide (hoC [rg,ra,rb,rc] h t rx ry = 0) && hoB rg ra rb rc h t.val rx.val ry.val)) (.ex (errV 67 (hoC [rg,ra,rb,rc] h t rx ry)))):=.o3 fun hok h1 h2 h3 hp=>w31.c3 hok (j1.h h1) (j2.h h2) (j3.h h3) hp
def poK (b c : FR) : Rat:=4 * (b.val * c.val)
def poU (g a b c : FR) : Rat:=b.val + c.val - (g.val - a.val) * (g.val - a.val)
def poV (g a b c : FR) : Rat:=b.val + c.val - (g.val + a.val) * (g.val + a.val)
def poL (g a b c : FR) : List Rat:=[poK b c - poU g a b c * poU g a b c,0,2 * poK b c - 2 * (poU g a b c * poV g a b c),0,poK b c - poV g a b c * poV g a b c]
def poP (g a b c : FR) : List Rat:=if barC [g,a,b,c] = 0 then poL g a b c else []
attribute [local irreducible] hoB hoC poL poP
instance gTO7_5_2 : GcT 5 2 false 3 [4,5,6,19,20,21,22,23,24,25,26,27,28,29,30,31,32,33,34,35,36]:=⟨⟩
instance gTO7_5_3 : GcT 5 3 false 6 [19,20,21,22,23,24,25,26,27,28,29,30,31,32,33,34,35,36]:=⟨⟩
instance gTO7_5_4 : GcT 5 4 false 38 [39,40,41,42,43,44,45]:=⟨⟩
instance gTO7_5_5 : GcT 5 5 false 46 [47,48,49,50,51,52]:=⟨⟩
instance gTO7_5_7 : GcT 5 7 false 53 [54,55,56,57,58,59]:=⟨⟩
instance gTO7_5_8 : GcT 5 8 false 3 [4,5,8,9,60,61]:=⟨⟩
instance gTO7_5_10 : GcT 5 10 false 3 [4,5,7,8,9,10,11,12,13,14,15,60,61,92,93,94,95,96,97,98,99,100]:=⟨⟩
instance gTO7_5_11 : GcT 5 11 false 13 [14,15,60,61,92,93,94,95,96,97,98,99,100]:=⟨⟩
instance gTO7_5_12 : GcT 5 12 false 3 [4,5,7,8,101,102,103]:=⟨⟩
instance gTO7_5_14 : GcT 5 14 false 101 [102,103,119,120,121,122,123,124,125]:=⟨⟩
instance gTO7_5_15 : GcT 5 15 false 3 [4,5,7,8,9,10,11,12,16,17,18,126,127,128,129,130,131,132,133,134,135,136,137,138,139,140,141,142,143,144,145]:=⟨⟩
instance gTO7_5_16 : GcT 5 16 false 7 [8,9,10,16,17,18,126,127,128,129,130,131,132,133,134,135,136,137,138,139,140,141,142,143,144,145]:=⟨⟩
instance gTO7_5_17 : GcT 5 17 false 3 [4,5,146,147,148]:=⟨⟩
end Go.Proofs.YtnjbcjmkkejfpaaGreatDoor
set_option linter.unusedVariables false
set_option linter.unusedSimpArgs false
set_option maxHeartbeats 4000000
set_option maxRecDepth 100000
set_option synthInstance.maxSize 100000
set_option synthInstance.maxHeartbeats 400000
namespace Go.Proofs.YtnjbcjmkkejfpaaGreatDoor
open Go.RowKit (Below)
attribute [local irreducible] Go.Code.wp Go.wpList Go.bodyPost
theorem tok0 : TOK []:=⟨Nat.zero_le _,fun j hj=>absurd hj (Nat.not_lt_zero _),fun j hj=>absurd hj (Nat.not_lt_zero _)⟩
theorem sB1u {k x r : Nat} (h : k ≤ 1) : sB k x r ≤ 4 * x + r + 1:=by rw [← sB1];exact sB_ups h
theorem vlc {R : List (List Rat)} {q : Rat} : vlL R [q] = RR.of q:=by
  rw [El.vl_at (k:=0) (l:=[q]) (by decide) (Nat.le_refl 1)];rfl
section
variable {g a b c : FR} {h : Bool} {t : Rat}
theorem ou_cases (g a b c : FR) (h : Bool) (t : Rat) : (ouE g a b c h t ≠ 0 ∧ ouR g a b c h t = [] ∧ ouL g a b c h t = []) ∨
    (ouE g a b c h t = 0 ∧ dsc g a b c h t = 0 ∧ w2F g a h t ≠ 0 ∧ ouR g a b c h t = [] ∧ ouL g a b c h t = [(0,[ouX g a b c h t],[ouY g a b c h t])]) ∨
    (ouE g a b c h t = 0 ∧ 0 < dsc g a b c h t ∧ w2F g a h t ≠ 0 ∧ ouR g a b c h t = [[dsc g a b c h t]] ∧ ouL g a b c h t = [(1,[ouX g a b c h t,ouMX g a h t],[ouY g a b c h t,ouMY g a h t]),(-1,[ouX g a b c h t,-ouMX g a h t],[ouY g a b c h t,-ouMY g a h t])]):=by
  by_cases e0 : ouE g a b c h t = 0
  · have hn : ¬ (w2F g a h t = 0 ∧ b.val = c.val):=fun e=>by unfold ouE at e0;rw [if_pos e] at e0;cases e0
    have hd : ¬ dsc g a b c h t < 0:=fun e=>by unfold ouE at e0;rw [if_neg hn,if_pos e] at e0;cases e0
    have hd2 : ¬ (dsc g a b c h t).num.sign < 0:=fun e=>hd ((num_sg _).2.2.1 e)
    by_cases e1 : dsc g a b c h t = 0
    · exact .inr (.inl ⟨e0,e1,ou_ne hn hd2,(ou_s hn hd2 (sg0.2 e1)).1,(ou_s hn hd2 (sg0.2 e1)).2⟩)
    · exact .inr (.inr ⟨e0,by grind,ou_ne hn hd2,(ou_t hn hd2 fun e=>e1 (sg0.1 e)).1,(ou_t hn hd2 fun e=>e1 (sg0.1 e)).2⟩)
  · exact .inl ⟨e0,(ou_e (e:=ouE g a b c h t) rfl e0).1,(ou_e (e:=ouE g a b c h t) rfl e0).2⟩
theorem ou_len (g a b c : FR) (h : Bool) (t : Rat) : (ouR g a b c h t).length ≤ 1:=by
  rcases ou_cases g a b c h t with ⟨_,e,_⟩ | ⟨_,_,_,e,_⟩ | ⟨_,_,_,e,_⟩ <;> rw [e] <;> simp
theorem ou_tok (g a b c : FR) (h : Bool) (t : Rat) : TOK (ouR g a b c h t):=by
  rcases ou_cases g a b c h t with ⟨_,e,_⟩ | ⟨_,_,_,e,_⟩ | ⟨_,k,_,e,_⟩ <;> rw [e]
  · exact tok0
  · exact tok0
  · exact tok1 (Rat.le_of_lt k)
theorem ou_pw {j : Nat} (hj : j < (ouL g a b c h t).length) : PW (ouR g a b c h t).length ((ouL g a b c h t).getD j default).2.1 ∧ PW (ouR g a b c h t).length ((ouL g a b c h t).getD j default).2.2:=by
  rcases ou_cases g a b c h t with ⟨_,e,e2⟩ | ⟨_,_,_,e,e2⟩ | ⟨_,k,_,e,e2⟩ <;> rw [e2] at hj <;> rw [e,e2]
  · exact absurd hj (Nat.not_lt_zero _)
  · match j,hj with
    | 0,_=>exact ⟨.inr ⟨0,Nat.le_refl 0,rfl⟩,.inr ⟨0,Nat.le_refl 0,rfl⟩⟩
  · match j,hj with
    | 0,_=>exact ⟨.inr ⟨1,Nat.le_refl 1,rfl⟩,.inr ⟨1,Nat.le_refl 1,rfl⟩⟩
    | 1,_=>exact ⟨.inr ⟨1,Nat.le_refl 1,rfl⟩,.inr ⟨1,Nat.le_refl 1,rfl⟩⟩
end
section
variable {g a b c : FR} {h : Bool} {t : Rat}
end
end Go.Proofs.YtnjbcjmkkejfpaaGreatDoor
set_option linter.unusedVariables false
set_option linter.unusedSimpArgs false
namespace Go.Proofs.YtnjbcjmkkejfpaaGreatDoor
open Go.RowKit (Below)
def FAD (i : Nat) (k : Option Nat) (τ : MT) : MT:=⟨fun v G=>∃ b ty u,v = .pointer (some ⟨b,i,none⟩) ∧ G b = some (.cells (Value.cells u) ty (0,0)) ∧ Shaped k u ∧ τ.t u G,fun hle ⟨b,ty,u,h1,h2,h3,h4⟩=>⟨b,ty,u,h1,hle _ _ h2,h3,τ.mono hle h4⟩⟩
instance (priority:=500) PrtL.sx1 {τ' : MT} {fs : List (Option Nat × MT)} {i : Nat} {kt : Option Nat} {τ : MT} [h : PrtL fs i kt τ] : PrtL ((some 1,τ') :: fs) (i + 1) kt τ:=h.skip rfl
instance ShN.sx1 {τ : MT} {fs : List (Option Nat × MT)} {n : Nat} [h : ShN fs n] : ShN ((some 1,τ) :: fs) (n + 1):=⟨by rw [offs_cons,h.h];simp;omega⟩
section
variable {P : Program} {L L' : List (Nat × MT)} {B B' : List BX} {x y : Operand} {u v : List Nat} {t ty : TypeId} {τ σ : MT} {k kt : Option Nat} {i b : Nat} {z : Value}
instance Op1.nck [h : Opd L x (FAD i k τ) u] : Op1 P L B (.nilCheck x) True (FAD i k τ) u:=⟨fun ho hok e _ _=>by
  have hx:=h.h e
  have hx':=hx
  obtain ⟨b,ty,z,hv,_⟩:=hx
  exact .run hok (v:=.pointer (some ⟨b,i,none⟩)) (by simp [execOp,ho,hv]) (hv ▸ hx')⟩
instance (priority:=600) Op1.fldF {s f off : Nat} [k' : FO P s f off] [h : Opd L x (FAD i k τ) u] : Op1 P L B (.fieldAddr s x f) True (FAD (i + off) k τ) u:=⟨fun ho hok e _ _=>by
  obtain ⟨b,ty,z,hv,h2⟩:=h.h e
  exact .fldA hok ho hv k'.h ⟨b,ty,z,rfl,h2⟩⟩
instance (priority:=700) Op1.fldZ {s f off : Nat} [k' : FO P s f off] [h : Opd L x (FAD 0 k τ) u] : Op1 P L B (.fieldAddr s x f) True (FAD off k τ) u:=⟨fun ho hok e _ _=>by
  obtain ⟨b,ty,z,hv,h2⟩:=h.h e
  exact .fldA hok ho hv k'.h ⟨b,ty,z,by rw [Nat.zero_add],h2⟩⟩
instance Op1.ldF [h : Opd L x (FAD i k σ) u] [hT : TyS P t kt] [hz : NZ kt] [hp : Prt σ i kt τ] : Op1 P L B (.load t x) True τ u:=⟨fun ho hok e _ _=>by
  obtain ⟨b,ty,z,hv,hg,hs,ht⟩:=h.h e
  have h0 : (decide (0 < kt.getD 1)) = true:=by
    cases kt with
    | none=>rfl
    | some n=>exact decide_eq_true (Nat.pos_of_ne_zero fun e=>hz.h (by simpa using e))
  cases kt with
  | none =>
    obtain ⟨q,h1,h2⟩:=part_load (k':=none) (hp.h ht hs) h0
    exact .ldG1 hok ho hv hg hT.h h1 h2
  | some n =>
    obtain ⟨h1,h2⟩:=part_load (k':=some n) (hp.h ht hs) h0
    exact .ldG hok ho hv hg hT.h h1 h2⟩
variable {W0 : World} {G0 : Gh} {N : Nat} {a : Act} {w : World} {G : Gh} {Q : Exit → Act → World → Prop} {rest : List Oper} {arr : Array Oper} {pos : String} {aft : Array Edge}
end
abbrev PX (n : Nat) (p : List Rat × List Rat) : MT:=PTS [(none,NM n p.1),(none,NM n p.2)]
section
variable {τ σ : MT} {b c : Nat} {l m : List Rat} {k : Option Nat} {τs : List MT}
theorem pts2 {τ' σ' : MT} {k1 k2 : Option Nat} (f : ∀ {v : Value} {G : Gh},τ.t v G → τ'.t v G) (g : ∀ {v : Value} {G : Gh},σ.t v G → σ'.t v G) {v : Value} {G : Gh} (h : (PTS [(k1,τ),(k2,σ)]).t v G) : (PTS [(k1,τ'),(k2,σ')]).t v G:=by
  obtain ⟨us,e,a1,a2⟩:=h
  refine ⟨us,e,a1,fun i p u hp hu=>?_⟩
  match i,hp with
  | 0,hp=>cases hp;obtain ⟨d1,d2⟩:=a2 0 _ u rfl hu;exact ⟨d1,f d2⟩
  | 1,hp=>cases hp;obtain ⟨d1,d2⟩:=a2 1 _ u rfl hu;exact ⟨d1,g d2⟩
instance : Grow PX:=⟨fun h e=>pts2 (fun h=>NM.up h e) (fun h=>NM.up h e) h⟩
instance Rdn.px [h : Rdn τ NM b l] [g : Rdn σ NM c m] : Rdn (PTS [(none,τ),(none,σ)]) PX (max b c) (l,m):=⟨fun hv=>pts2 (fun h'=>NM.up (h.h h') (Nat.le_max_left _ _)) (fun h'=>NM.up (g.h h') (Nat.le_max_right _ _)) hv⟩
instance NU.px {p : List Rat × List Rat} [h : Rdn (PTS [(none,τ),(none,σ)]) PX b p] : NU (PTS [(none,τ),(none,σ)]) (PX b p):=⟨fun hv=>h.h hv⟩
instance (priority:=1100) Rdn.pxe {n : Nat} : Rdn (PTS [(none,NM n l),(none,NM n m)]) PX n (l,m):=⟨fun hv=>hv⟩
instance (priority:=1100) NU.pxe {n : Nat} : NU (PTS [(none,NM n l),(none,NM n m)]) (PX n (l,m)):=⟨fun hv=>hv⟩
instance (priority:=900) AsT.nm0 {n : Nat} : AsT (NM n l) (NM n) l:=⟨fun h=>h⟩
abbrev PXS (n : Nat) (ps : List (List Rat × List Rat)) : MT:=LS (some 2) (ps.map (PX n))
instance NU.pxs {ps : List (List Rat × List Rat)} [h : RdnL τs PX b ps] : NU (LSC (some 2) τs) (PXS b ps):=⟨fun hv=>h.ls hv.1⟩
end
end Go.Proofs.YtnjbcjmkkejfpaaGreatDoor
set_option linter.unusedVariables false
set_option linter.unusedSimpArgs false
set_option maxHeartbeats 4000000
set_option maxRecDepth 100000
set_option synthInstance.maxSize 100000
set_option synthInstance.maxHeartbeats 400000
namespace Go.Proofs.YtnjbcjmkkejfpaaGreatDoor
open Go.RowKit (Below)
attribute [local irreducible] Go.Code.wp Go.wpList Go.bodyPost
attribute [local irreducible] plusF minusF joinF levI lev PW RLN tB sB timesF stepF tmF normF shoF TOK sgL
def PWp (K : Nat) (p : List Rat × List Rat) : Prop:=PW K p.1 ∧ PW K p.2
def lesF (p q : List Rat × List Rat) : List Rat × List Rat:=(shoF (plusF p.1 (minusF q.1)),shoF (plusF p.2 (minusF q.2)))
def dotF (rs : List (List Rat)) (p q : List Rat × List Rat) : List Rat:=shoF (plusF (shoF (tmF rs p.1 q.1)) (shoF (tmF rs p.2 q.2)))
def croF (rs : List (List Rat)) (p q : List Rat × List Rat) : List Rat:=shoF (plusF (shoF (tmF rs p.1 q.2)) (minusF (shoF (tmF rs p.2 q.1))))
theorem PWp.a {K : Nat} {p : List Rat × List Rat} (h : PWp K p) : PW K p.1:=h.1
theorem PWp.b {K : Nat} {p : List Rat × List Rat} (h : PWp K p) : PW K p.2:=h.2
attribute [local irreducible] PWp
theorem w138 {r n : Nat} {rs ls : List (List Rat)} : Con Tryz.prog 138 [TWR r rs,RTS n ls] (TOK rs ∧ 1 ≤ r ∧ 1 ≤ n ∧ n ≤ BIG ∧ sB rs.length (r + r) r ≤ BIG ∧ ls.length ≤ 16 ∧ ∀ x ∈ ls,PW rs.length x) (.ex (errV 67 (0))):=.o2 fun hok h1 h2 hp=>by
  refine St.enter (N:=31) Tryz.func138 rfl rfl rfl hok (enter2 h1 h2) fun a=>?_
  have h5:=hp.1.rl
  repeat' (first|((with_reducible refine gS_ ?_);first|((with_reducible refine gL_ ?_);first|refine W.run ?_ fun a w G=>?_|refine W.mv fun a w G=>?_|refine W.asg fun a w G=>?_|refine W.bx fun b a w G=>?_|(refine W.nn hK ?_;clear hK K)|refine W.nl ?_|refine W.al fun b a w G=>?_|refine W.st fun w=>?_|refine W.stp fun w=>?_|refine W.ste ?_ fun w=>?_)|((with_reducible refine gC_ ?_);first|refine W.reg fun K hK=>?_|refine W.reg1 ?_|refine W.sq fun K hK=>?_|refine W.ds ?_ (fun β a w G hu=>W.fin ?_ hu) mixedOrders (by kernel_rfl)|refine W.sk ?_|refine W.cd (fun hc=>?_) (fun hc=>?_)|refine W.cb (fun hc=>?_) (fun hc=>?_)|refine W.bl ?_|refine W.ex ?_|refine W.rt ?_)|((with_reducible refine W.kn hK ?_);clear hK K)|(with_reducible first|refine W.bn ?_|refine W.xt ?_|refine W.xb ?_|refine W.xo ?_|refine W.tr ?_|refine W.br ?_)|refine W.rt1 rfl ?_|refine W.rt2 rfl ?_ ?_|refine W.rt3 rfl ?_ ?_ ?_)|refine W.lp 18 (α:=Nat) (fun j=>ls.length - j) (fun j=>j ≤ ls.length) [4,7,8,9,17,18,19,20,21,22,23,24,25,26,27,28,29,30] (fun j=>[(17,NT j)]) (fun j=>[]) (0) ?_ ?_ ?_ fun j hj a w G=>?_|refine W.ag (x:=j) (j+1) ?_ ?_ ?_ ?_|clear hK K|clear hu|exact True.intro|exact Nat.le_trans (by clear hp;omega) hp|exact Nat.le_trans (by clear hp;omega) hp.1|exact Nat.le_trans (by clear hp;omega) hp.2|(clear hp;omega)|apply And.intro|refine GI.i fun _=>?_|with_reducible rfl|decide|(simp only [List.length_cons,List.length_nil];omega))
  all_goals first
    | omega
    | exact hp.1
    | exact hp.2.2.2.2.2.2 _ (getD_mem (by omega))
    | skip
instance {r n : Nat} {rs ls : List (List Rat)} {τ1 : MT} [j1 : NU τ1 (TWR r rs)] {τ2 : MT} [j2 : NU τ2 (RTS n ls)] : Con Tryz.prog 138 [τ1,τ2] (TOK rs ∧ 1 ≤ r ∧ 1 ≤ n ∧ n ≤ BIG ∧ sB rs.length (r + r) r ≤ BIG ∧ ls.length ≤ 16 ∧ ∀ x ∈ ls,PW rs.length x) (.ex (errV 67 (0))):=.o2 fun hok h1 h2 hp=>w138.c2 hok (j1.h h1) (j2.h h2) hp
def numsF (ps : List (List Rat × List Rat)) (j : Nat) : List (List Rat):=(ps.take j).flatMap fun p=>[p.1,p.2]
theorem numsF_0 {ps : List (List Rat × List Rat)} : numsF ps 0 = []:=rfl
theorem numsF_go {ps : List (List Rat × List Rat)} {j : Nat} (h : j < ps.length) : numsF ps j ++ [(ps.getD j default).1,(ps.getD j default).2] = numsF ps (j + 1):=by
  unfold numsF
  rw [List.take_add_one,List.getElem?_eq_getElem h,List.flatMap_append,List.getD_eq_getElem?_getD,List.getElem?_eq_getElem h];rfl
theorem numsF_len {ps : List (List Rat × List Rat)} {j : Nat} (h : j ≤ ps.length) : (numsF ps j).length = 2 * j:=by
  induction j with
  | zero=>rfl
  | succ j ih=>rw [← numsF_go (by omega),List.length_append,ih (by omega)];simp;omega
theorem numsF_pw {K j : Nat} {ps : List (List Rat × List Rat)} (h : ∀ p ∈ ps,PWp K p) : ∀ x ∈ numsF ps j,PW K x:=by
  intro x hx
  unfold numsF at hx
  obtain ⟨p,hp,hx⟩:=List.mem_flatMap.1 hx
  have:=h p (List.mem_of_mem_take hp)
  simp only [List.mem_cons,List.not_mem_nil,or_false] at hx
  rcases hx with rfl | rfl
  · exact this.a
  · exact this.b
theorem w92 {r n : Nat} {rs : List (List Rat)} {ps : List (List Rat × List Rat)} : Con Tryz.prog 92 [TWR r rs,PXS n ps] (TOK rs ∧ 1 ≤ r ∧ 1 ≤ n ∧ n ≤ BIG ∧ sB rs.length (r + r) r ≤ BIG ∧ ps.length ≤ 8 ∧ ∀ p ∈ ps,PWp rs.length p) (.ex (errV 67 (0))):=.o2 fun hok h1 h2 hp=>by
  refine St.enter (N:=25) Tryz.func92 rfl rfl rfl hok (enter2 h1 h2) fun a=>?_
  have own20 : OwnAt 20:=⟨⟩
  repeat' (first|((with_reducible refine gS_ ?_);first|((with_reducible refine gL_ ?_);first|refine W.run ?_ fun a w G=>?_|refine W.mv fun a w G=>?_|refine W.asg fun a w G=>?_|refine W.bx fun b a w G=>?_|(refine W.nn hK ?_;clear hK K)|refine W.nl ?_|refine W.al fun b a w G=>?_|refine W.st fun w=>?_|refine W.stp fun w=>?_|refine W.ste ?_ fun w=>?_)|((with_reducible refine gC_ ?_);first|refine W.reg fun K hK=>?_|refine W.reg1 ?_|refine W.sq fun K hK=>?_|refine W.ds ?_ (fun β a w G hu=>W.fin ?_ hu) mixedOrders (by kernel_rfl)|refine W.sk ?_|refine W.cd (fun hc=>?_) (fun hc=>?_)|refine W.cb (fun hc=>?_) (fun hc=>?_)|refine W.bl ?_|refine W.ex ?_|refine W.rt ?_)|((with_reducible refine W.kn hK ?_);clear hK K)|(with_reducible first|refine W.bn ?_|refine W.xt ?_|refine W.xb ?_|refine W.xo ?_|refine W.tr ?_|refine W.br ?_)|refine W.rt1 rfl ?_|refine W.rt2 rfl ?_ ?_|refine W.rt3 rfl ?_ ?_ ?_)|refine W.lpo 11 (OWNS.nil (k:=none) (e:=46)) (T:=NM n) (xs0:=[]) (fun j=>ps.length - j) (fun j=>j ≤ ps.length) (fun j=>numsF ps j) [5,7,10,11,12,13,14,15,16,17,18,19,20,21] (fun j V=>[(10,NT j),(5,.ex V)]) (fun j=>[]) 0 ?_ ?_ ?_ ?_ fun j hj V own a w G hO=>?_|refine W.ap (mt:=.ex (.slice none 0 0)) (T:=NM n) hO ?_ fun V own a w G hO=>?_|refine W.ago (K:=fun _ _=>True) (T:=NM n) hO (x:=j) (j+1) ?_ ?_ ?_ ?_ ?_|refine W.fzo (T:=NM n) 5 hO ?_ fun G=>?_|clear hK K|clear hu|exact True.intro|exact Nat.le_trans (by clear hp;omega) hp|exact Nat.le_trans (by clear hp;omega) hp.1|exact Nat.le_trans (by clear hp;omega) hp.2|(clear hp;omega)|apply And.intro|refine GI.i fun _=>?_|with_reducible rfl|decide|(simp only [List.length_cons,List.length_nil];omega))
  all_goals first
    | omega
    | exact hp.1
    | rfl
    | exact numsF_0
    | exact numsF_0.symm
    | exact numsF_go (by omega)
    | exact (numsF_go (by omega)).symm
    | exact numsF_pw hp.2.2.2.2.2.2
    | (have hjl:=numsF_len (ps:=ps) (j:=j) (by omega);have h8:=hp.2.2.2.2.2.1;omega)
    | (have hjl:=numsF_len (ps:=ps) (j:=j) (by omega);simp only [LIM,List.length_cons,List.length_nil,List.length_map] at *;omega)
    | skip
instance {r n : Nat} {rs : List (List Rat)} {ps : List (List Rat × List Rat)} {τ1 : MT} [j1 : NU τ1 (TWR r rs)] {τ2 : MT} [j2 : NU τ2 (PXS n ps)] : Con Tryz.prog 92 [τ1,τ2] (TOK rs ∧ 1 ≤ r ∧ 1 ≤ n ∧ n ≤ BIG ∧ sB rs.length (r + r) r ≤ BIG ∧ ps.length ≤ 8 ∧ ∀ p ∈ ps,PWp rs.length p) (.ex (errV 67 (0))):=.o2 fun hok h1 h2 hp=>w92.c2 hok (j1.h h1) (j2.h h2) hp
theorem w48 {n m : Nat} {x y : Rat} : Con Tryz.prog 48 [QV n x,QV m y] (n + m + 2 ≤ BIG) (PTS [(none,NM (n + 2) (shoF [x])),(none,NM (m + 2) (shoF [y]))]):=.o2 fun hok h1 h2 hp=>by
  refine St.enter (N:=10) Tryz.func48 rfl rfl rfl hok (enter2 h1 h2) fun a=>?_
  repeat' (first|((with_reducible refine gS_ ?_);first|((with_reducible refine gL_ ?_);first|refine W.run ?_ fun a w G=>?_|refine W.mv fun a w G=>?_|refine W.asg fun a w G=>?_|refine W.bx fun b a w G=>?_|(refine W.nn hK ?_;clear hK K)|refine W.nl ?_|refine W.al fun b a w G=>?_|refine W.st fun w=>?_|refine W.stp fun w=>?_|refine W.ste ?_ fun w=>?_)|((with_reducible refine gC_ ?_);first|refine W.reg fun K hK=>?_|refine W.reg1 ?_|refine W.sq fun K hK=>?_|refine W.ds ?_ (fun β a w G hu=>W.fin ?_ hu) mixedOrders (by kernel_rfl)|refine W.sk ?_|refine W.cd (fun hc=>?_) (fun hc=>?_)|refine W.cb (fun hc=>?_) (fun hc=>?_)|refine W.bl ?_|refine W.ex ?_|refine W.rt ?_)|((with_reducible refine W.kn hK ?_);clear hK K)|(with_reducible first|refine W.bn ?_|refine W.xt ?_|refine W.xb ?_|refine W.xo ?_|refine W.tr ?_|refine W.br ?_)|refine W.rt1 rfl ?_|refine W.rt2 rfl ?_ ?_|refine W.rt3 rfl ?_ ?_ ?_)|clear hK K|clear hu|exact True.intro|exact Nat.le_trans (by clear hp;omega) hp|exact Nat.le_trans (by clear hp;omega) hp.1|exact Nat.le_trans (by clear hp;omega) hp.2|(clear hp;omega)|apply And.intro|refine GI.i fun _=>?_|with_reducible rfl|decide|(simp only [List.length_cons,List.length_nil];omega))
instance {n m : Nat} {x y : Rat} {τ1 : MT} [j1 : NQ τ1 (QV n x)] {τ2 : MT} [j2 : NQ τ2 (QV m y)] : Con Tryz.prog 48 [τ1,τ2] (n + m + 2 ≤ BIG) (PTS [(none,NM (n + 2) (shoF [x])),(none,NM (m + 2) (shoF [y]))]):=.o2 fun hok h1 h2 hp=>w48.c2 hok (j1.h h1) (j2.h h2) hp
theorem w47 {r n m : Nat} {rs : List (List Rat)} {p q : List Rat × List Rat} : Con Tryz.prog 47 [TWR r rs,PX n p,PX m q] (TOK rs ∧ PWp rs.length p ∧ PWp rs.length q ∧ 1 ≤ r ∧ 1 ≤ n ∧ 1 ≤ m ∧ sB rs.length (r + r) r ≤ BIG ∧ sB rs.length (n + m + 1 + r) r ≤ BIG) (MT.tup2 (BT (decide (sgL rs (plusF p.1 (minusF q.1)) = 0) && decide (sgL rs (plusF p.2 (minusF q.2)) = 0))) (.ex (errV 67 (0)))):=.o3 fun hok h1 h2 h3 hp=>by
  refine St.enter (N:=52) Tryz.func47 rfl rfl rfl hok (enter3 h1 h2 h3) fun a=>?_
  have hb0:=sB_le (r:=r) (k:=rs.length) (n:=n + m + 1 + r)
  repeat' (first|((with_reducible refine gS_ ?_);first|((with_reducible refine gL_ ?_);first|refine W.run ?_ fun a w G=>?_|refine W.mv fun a w G=>?_|refine W.asg fun a w G=>?_|refine W.bx fun b a w G=>?_|(refine W.nn hK ?_;clear hK K)|refine W.nl ?_|refine W.al fun b a w G=>?_|refine W.st fun w=>?_|refine W.stp fun w=>?_|refine W.ste ?_ fun w=>?_)|((with_reducible refine gC_ ?_);first|refine W.reg fun K hK=>?_|refine W.reg1 ?_|refine W.sq fun K hK=>?_|refine W.ds ?_ (fun β a w G hu=>W.fin ?_ hu) mixedOrders (by kernel_rfl)|refine W.sk ?_|refine W.cd (fun hc=>?_) (fun hc=>?_)|refine W.cb (fun hc=>?_) (fun hc=>?_)|refine W.bl ?_|refine W.ex ?_|refine W.rt ?_)|((with_reducible refine W.kn hK ?_);clear hK K)|(with_reducible first|refine W.bn ?_|refine W.xt ?_|refine W.xb ?_|refine W.xo ?_|refine W.tr ?_|refine W.br ?_)|refine W.rt1 rfl ?_|refine W.rt2 rfl ?_ ?_|refine W.rt3 rfl ?_ ?_ ?_)|clear hK K|clear hu|exact True.intro|exact Nat.le_trans (by clear hp;omega) hp|exact Nat.le_trans (by clear hp;omega) hp.1|exact Nat.le_trans (by clear hp;omega) hp.2|(clear hp;omega)|apply And.intro|refine GI.i fun _=>?_|with_reducible rfl|decide|(simp only [List.length_cons,List.length_nil];omega))
  all_goals first
    | omega
    | exact hp.1
    | exact hp.2.1
    | exact hp.2.2.1
    | exact hx
    | exact hp.2.1
    | exact hp.2.2.1
    | exact hp.2.1.a
    | exact hp.2.1.b
    | exact hp.2.2.1.a
    | exact hp.2.2.1.b
    | (intro z hz;simp only [List.mem_cons,List.not_mem_nil,or_false] at hz;rcases hz with hz | hz | hz <;> subst hz <;> first | exact hp.2.1 | exact hp.2.2.1 | exact hp.2.2.2.1)
    | (intro z hz;simp only [List.mem_cons,List.not_mem_nil,or_false] at hz;rcases hz with hz | hz <;> subst hz <;> first | exact hp.2.1 | exact hp.2.2.1)
    | (simp;done)
    | rfl
    | skip
instance {r n m : Nat} {rs : List (List Rat)} {p q : List Rat × List Rat} {τ1 : MT} [j1 : NU τ1 (TWR r rs)] {τ2 : MT} [j2 : NU τ2 (PX n p)] {τ3 : MT} [j3 : NU τ3 (PX m q)] : Con Tryz.prog 47 [τ1,τ2,τ3] (TOK rs ∧ PWp rs.length p ∧ PWp rs.length q ∧ 1 ≤ r ∧ 1 ≤ n ∧ 1 ≤ m ∧ sB rs.length (r + r) r ≤ BIG ∧ sB rs.length (n + m + 1 + r) r ≤ BIG) (MT.tup2 (BT (decide (sgL rs (plusF p.1 (minusF q.1)) = 0) && decide (sgL rs (plusF p.2 (minusF q.2)) = 0))) (.ex (errV 67 (0)))):=.o3 fun hok h1 h2 h3 hp=>w47.c3 hok (j1.h h1) (j2.h h2) (j3.h h3) hp
end Go.Proofs.YtnjbcjmkkejfpaaGreatDoor
set_option linter.unusedVariables false
set_option linter.unusedSimpArgs false
set_option maxHeartbeats 4000000
set_option maxRecDepth 100000
set_option synthInstance.maxSize 100000
set_option synthInstance.maxHeartbeats 400000
namespace Go.Proofs.YtnjbcjmkkejfpaaGreatDoor
open Go.RowKit (Below)
attribute [local irreducible] Go.Code.wp Go.wpList Go.bodyPost
def limN (y u : Rat) : List Rat:=[0,y,0,u]
def limA (g a b c : FR) : Rat:=(g.val + a.val - (b.val + c.val)) / (2 * (a.val * g.val))
def limI (g a b c : FR) (u : Rat) : Bool:=decide (surdsF (-1) (limA g a b c) (a.val * g.val) u (a.val * g.val * (b.val * c.val)) ≤ 0) && decide (surdsF 1 (limA g a b c) (a.val * g.val) u (a.val * g.val * (b.val * c.val)) ≥ 0)
def limK (g a : FR) : List Rat:=[-(1 / (a.val * g.val)),1 / (a.val * g.val)]
def limJ (g a b c : FR) (j : Nat) : List (List Rat):=(((limK g a).take j).filter fun u=>limI g a b c u).map fun u=>limN (limA g a b c) u
def limL (g a b c : FR) : List (List Rat):=if chkF [g,a,b,c] = 0 then limJ g a b c 2 else []
theorem LSC.nm {b c : Nat} {l : List Rat} {v : Value} {G : Gh} (h : (LSC none [NM b l]).t v G) (e : b ≤ c) : (LSC none [NM c l]).t v G:=⟨LS.els h.1 rfl fun i τ σ h1 h2 _ hv=>by
  match i,h1,h2 with
  | 0,h1,h2=>cases h1;cases h2;exact NM.up hv e,h.2⟩
instance AsT.nm {b : Nat} {l : List Rat} : AsT (NM b l) (NM b) l:=⟨fun h=>h⟩
attribute [local irreducible] plusF minusF joinF levI lev PW RLN tB sB timesF stepF tmF normF TOK sgL surdsF chkF nearF farF gapC fullF
attribute [local irreducible] limJ limL limI
end Go.Proofs.YtnjbcjmkkejfpaaGreatDoor
namespace Go.Proofs.YtnjbcjmkkejfpaaGreatDoor
end Go.Proofs.YtnjbcjmkkejfpaaGreatDoor
namespace Go.Proofs.YtnjbcjmkkejfpaaGreatDoor
open Go.RowKit (Below)
attribute [local irreducible] rotQ compareF befR
end Go.Proofs.YtnjbcjmkkejfpaaGreatDoor
namespace Go.Proofs.YtnjbcjmkkejfpaaGreatDoor
open Go.RowKit (Below)
end Go.Proofs.YtnjbcjmkkejfpaaGreatDoor
namespace Go.Proofs.YtnjbcjmkkejfpaaGreatDoor
open Go.RowKit (Below)
def invQ (l : List FR) (k : Int) : List FR:=[invF l k 0,invF l k 1,invF l k 2,invF l k 3]
theorem inv_pos {l : List FR} {k : Int} (h : chkF l = 0) (hl : l.length = 4) : (invQ l k).all posR = true:=by
  have hp:=chk_pos h
  have : ∀ j,posR (invF l k j) = true:=fun j=>by
    unfold invF;rw [if_pos h,posR_of4]
    have hlt : (j + md4 k) % 4 < l.length:=by rw [hl];exact Nat.mod_lt _ (by decide)
    refine decide_eq_true (posR_val (List.all_eq_true.1 hp _ ?_))
    rw [List.getD_eq_getElem?_getD,List.getElem?_eq_getElem hlt];exact List.getElem_mem hlt
  unfold invQ;simp [this]
end Go.Proofs.YtnjbcjmkkejfpaaGreatDoor
namespace Go.Proofs.YtnjbcjmkkejfpaaGreatDoor
end Go.Proofs.YtnjbcjmkkejfpaaGreatDoor
set_option linter.unusedVariables false
set_option linter.unusedSimpArgs false
namespace Go.Proofs.YtnjbcjmkkejfpaaGreatDoor
section
variable {g a b c : Rat}
end
end Go.Proofs.YtnjbcjmkkejfpaaGreatDoor
set_option linter.unusedVariables false
set_option linter.unusedSimpArgs false
set_option maxHeartbeats 4000000
set_option maxRecDepth 100000
set_option synthInstance.maxSize 100000
set_option synthInstance.maxHeartbeats 400000
namespace Go.Proofs.YtnjbcjmkkejfpaaGreatDoor
open Go.RowKit (Below)
attribute [local irreducible] Go.Code.wp Go.wpList Go.bodyPost
section
variable {x y W v B C X s : Rat}
end
section
variable {g a b c : FR} {h : Bool} {t : Rat}
theorem ou_v (k : w2F g a h t ≠ 0) : ∃ v : Rat,0 < v ∧ 2 * w2F g a h t * v = 1 ∧ ouK g a b c h t = (w2F g a h t + b.val - c.val) * v ∧ ouMX g a h t = -(v * wayY a.val h t) ∧ ouMY g a h t = v * wayX g.val a.val h t:=by
  have hi:=Rat.mul_inv_cancel (2 * w2F g a h t) (two_ne k)
  have hp : 0 < 2 * w2F g a h t:=by
    have h1:=sq_nn (wayX g.val a.val h t);have h2:=sq_nn (wayY a.val h t)
    have : 0 ≤ w2F g a h t:=by unfold w2F d2F;grind
    grind
  refine ⟨(2 * w2F g a h t)⁻¹,?_,hi,by unfold ouK;rw [Rat.div_def],by unfold ouMX;rw [Rat.div_def,Rat.one_mul],by unfold ouMY;rw [Rat.div_def,Rat.one_mul]⟩
  apply Classical.byContradiction
  intro e
  have h3:=Rat.mul_nonneg (Rat.le_of_lt hp) (show 0 ≤ -(2 * w2F g a h t)⁻¹ by grind)
  rw [Rat.mul_neg,hi] at h3
  exact absurd h3 (by decide)
end
section
variable {g a b c : FR} {h : Bool} {t : Rat}
theorem of_pw0 {K : Nat} {x : Rat} (hK : K ≤ 5) : PW K (shoF [x]):=sho_pw hK pw1k
theorem of_v0 {R : List (List Rat)} {x : Rat} : vlL R (shoF [x]) = RR.of x:=by
  rw [vlL_sho (k:=0) (by decide) (.inr ⟨0,Nat.le_refl _,rfl⟩)];exact vlc
def ptF (x y : Rat) : List Rat × List Rat:=(shoF [x],shoF [y])
theorem pt_pw {K : Nat} (hK : K ≤ 5) {x y : Rat} : PWp K (ptF x y):=⟨of_pw0 hK,of_pw0 hK⟩
theorem end_pw {j : Nat} (hj : j < (ouL g a b c h t).length) : PWp (ouR g a b c h t).length ((ouL g a b c h t).getD j default).2:=ou_pw hj
end
theorem FX.qc0 {n : Nat} {z : Rat} {v : Value} {G : Gh} (h : (FX n (FR.of z)).t v G) : (QC n z).t v G:=by
  obtain ⟨h1,h2,h5,hq⟩:=h
  refine ⟨⟨by have : Go.Proofs.YtnjbcjmkkejfpaaGreatDoor.val (words z.num.natAbs) < 2 ^ n := h2
              rwa [val_words] at this,?_⟩,hq⟩
  have hq : Go.Proofs.YtnjbcjmkkejfpaaGreatDoor.val (dwords z) < 2 ^ n:=h5
  unfold dwords at hq
  split at hq
  · rename_i e0
    have : z.den = 1:=by
      have h0 : z = 0:=by first | exact e0 | exact Rat.num_eq_zero.1 e0
      rw [h0];rfl
    rw [this];exact Nat.lt_of_lt_of_le (show (1 : Nat) < 2 ^ 1 by decide) (Nat.pow_le_pow_right (by decide) h1)
  · rwa [val_words] at hq
instance {n m : Nat} {z : Rat} : Fit (FX n (FR.of z)) (QC m) z (n ≤ m):=⟨fun e _ _ h=>QC.up (FX.qc0 h) e⟩
instance {n : Nat} {z : Rat} : Rdn (FX n (FR.of z)) QC n z:=⟨fun h=>FX.qc0 h⟩
section
variable {g a b c : FR} {h : Bool} {t : Rat}
end
end Go.Proofs.YtnjbcjmkkejfpaaGreatDoor
set_option linter.unusedVariables false
set_option linter.unusedSimpArgs false
set_option maxHeartbeats 4000000
set_option maxRecDepth 100000
set_option synthInstance.maxSize 100000
set_option synthInstance.maxHeartbeats 400000
namespace Go.Proofs.YtnjbcjmkkejfpaaGreatDoor
open Go.RowKit (Below)
attribute [local irreducible] Go.Code.wp Go.wpList Go.bodyPost
def rbX (a : FR) (h : Bool) (t x y : Rat) : Rat:=d2F (x - a.val * dirC h t) (y - a.val * dirS h t)
def rcX (g : FR) (x y : Rat) : Rat:=d2F (x - g.val) y
theorem qud_mk {n1 n2 N : Nat} {g a : FR} {x y x' y' : Rat} {v : Value} {G : Gh} (h : (PTS [(some 3,FX 64 g),(some 3,FX 64 a),(some 3,QC n1 x),(some 3,QC n2 y)]).t v G) (hN : 64 ≤ N ∧ n1 ≤ N ∧ n2 ≤ N ∧ 1 ≤ n1 ∧ 1 ≤ n2) (hx : x = x') (hy : y = y') : (QUD N g a (FR.of x') (FR.of y')).t v G:=by
  subst hx hy
  obtain ⟨us,e,a1,a2⟩:=h
  refine ⟨us,e,a1,fun i p u hp hu=>?_⟩
  match i,hp with
  | 0,hp=>cases hp;obtain ⟨d1,d2⟩:=a2 0 _ u rfl hu;exact ⟨d1,FX.up d2 hN.1⟩
  | 1,hp=>cases hp;obtain ⟨d1,d2⟩:=a2 1 _ u rfl hu;exact ⟨d1,FX.up d2 hN.1⟩
  | 2,hp=>cases hp;obtain ⟨d1,d2⟩:=a2 2 _ u rfl hu;exact ⟨d1,FX.up (QC.toFX d2 hN.2.2.2.1) hN.2.1⟩
  | 3,hp=>cases hp;obtain ⟨d1,d2⟩:=a2 3 _ u rfl hu;exact ⟨d1,FX.up (QC.toFX d2 hN.2.2.2.2) hN.2.2.1⟩
section
variable {x y W v ex ey X B C : Rat}
theorem ra_disc (hW : W = x * x + y * y) (hB : B = ex * ex + ey * ey) (hC : C = (ex - x) * (ex - x) + (ey - y) * (ey - y)) (hX : X = 4 * (B * C) - (B + C - W) * (B + C - W)) : X = (2 * (x * ey - y * ex)) * (2 * (x * ey - y * ex)):=by
  subst hW hB hC hX;grind
theorem ra_base (hW : W = x * x + y * y) (hv : 2 * W * v = 1) (hB : B = ex * ex + ey * ey) (hC : C = (ex - x) * (ex - x) + (ey - y) * (ey - y)) : (W + B - C) * v * x + -(v * y) * (2 * (x * ey - y * ex)) = ex ∧ (W + B - C) * v * y + (v * x) * (2 * (x * ey - y * ex)) = ey:=by
  have e1 : W + B - C = 2 * (ex * x + ey * y):=by rw [hW,hB,hC];grind
  rw [e1]
  constructor
  · have e2 : 2 * (ex * x + ey * y) * v * x + -(v * y) * (2 * (x * ey - y * ex)) = ex * (2 * (x * x + y * y) * v):=by grind
    rw [e2,← hW,hv];grind
  · have e2 : 2 * (ex * x + ey * y) * v * y + (v * x) * (2 * (x * ey - y * ex)) = ey * (2 * (x * x + y * y) * v):=by grind
    rw [e2,← hW,hv];grind
end
theorem rt_sqr {c : Rat} (h : 0 ≤ c) : rt (c * c) = RR.of c:=rt_c h
section
variable {g a : FR} {h : Bool} {t ex ey : Rat}
local notation "BX_"=>FR.of (rbX a h t ex ey)
local notation "CX_"=>FR.of (rcX g ex ey)
def crX (g a : FR) (h : Bool) (t ex ey : Rat) : Rat:=2 * (wayX g.val a.val h t * (ey - a.val * dirS h t) - wayY a.val h t * (ex - a.val * dirC h t))
theorem ra_C : rcX g ex ey = ((ex - a.val * dirC h t) - wayX g.val a.val h t) * ((ex - a.val * dirC h t) - wayX g.val a.val h t) + ((ey - a.val * dirS h t) - wayY a.val h t) * ((ey - a.val * dirS h t) - wayY a.val h t):=by
  unfold rcX d2F wayX wayY;grind
theorem ra_dsc : dsc g a BX_ CX_ h t = crX g a h t ex ey * crX g a h t ex ey:=by
  unfold crX
  refine ra_disc (W:=w2F g a h t) (B:=rbX a h t ex ey) (C:=rcX g ex ey) rfl rfl ra_C ?_
  show discF (FR.of (rbX a h t ex ey)).val (FR.of (rcX g ex ey)).val (w2F g a h t) = _
  rw [FR.of_val,FR.of_val];rfl
theorem ra_nn : ¬ dsc g a BX_ CX_ h t < 0:=by
  rw [ra_dsc]
  have:=sq_nn (crX g a h t ex ey)
  grind
theorem ra_15 (h0 : ouE g a BX_ CX_ h t ≠ 0) : ouE g a BX_ CX_ h t = 15:=by
  unfold ouE at h0 ⊢
  split
  · rfl
  · rename_i k;rw [if_neg k,if_neg ra_nn] at h0;exact absurd rfl h0
theorem ra_hold : hoB g a BX_ CX_ h t ex ey = true:=by
  unfold hoB
  rw [Bool.and_eq_true,decide_eq_true_eq,decide_eq_true_eq,cmpQ_eq0,cmpQ_eq0,FR.of_val,FR.of_val]
  exact ⟨rfl,rfl⟩
theorem ra_found (h0 : ouE g a BX_ CX_ h t = 0) : ∃ j,j < (ouL g a BX_ CX_ h t).length ∧ vlL (ouR g a BX_ CX_ h t) ((ouL g a BX_ CX_ h t).getD j default).2.1 = RR.of ex ∧ vlL (ouR g a BX_ CX_ h t) ((ouL g a BX_ CX_ h t).getD j default).2.2 = RR.of ey:=by
  have hd : dsc g a BX_ CX_ h t = crX g a h t ex ey * crX g a h t ex ey:=ra_dsc
  rcases ou_cases g a BX_ CX_ h t with ⟨k,_,e⟩ | ⟨_,k0,k,e,e2⟩ | ⟨_,k0,k,e,e2⟩
  · exact absurd h0 k
  all_goals
    obtain ⟨v,hv0,hv,eK,eX,eY⟩:=ou_v (b:=BX_) (c:=CX_) k
    have hb:=ra_base (x:=wayX g.val a.val h t) (y:=wayY a.val h t) (W:=w2F g a h t) (v:=v) (ex:=ex - a.val * dirC h t) (ey:=ey - a.val * dirS h t) (B:=rbX a h t ex ey) (C:=rcX g ex ey) rfl hv rfl ra_C
    rw [FR.of_val,FR.of_val] at eK
    have eX2 : ouX g a BX_ CX_ h t = a.val * dirC h t + (w2F g a h t + rbX a h t ex ey - rcX g ex ey) * v * wayX g.val a.val h t:=by unfold ouX;rw [eK]
    have eY2 : ouY g a BX_ CX_ h t = a.val * dirS h t + (w2F g a h t + rbX a h t ex ey - rcX g ex ey) * v * wayY a.val h t:=by unfold ouY;rw [eK]
    have hcr : crX g a h t ex ey = 2 * (wayX g.val a.val h t * (ey - a.val * dirS h t) - wayY a.val h t * (ex - a.val * dirC h t)):=rfl
    rw [← hcr] at hb
  · have c0 : crX g a h t ex ey = 0 := by
      rw [hd] at k0
      rcases Rat.mul_eq_zero.1 k0 with q | q <;> exact q
    rw [c0] at hb
    refine ⟨0,by rw [e2];exact Nat.zero_lt_one,?_⟩
    rw [e,e2]
    show vlL [] [_] = _ ∧ vlL [] [_] = _
    rw [vlc,vlc,eX2,eY2]
    exact ⟨by congr 1;grind,by congr 1;grind⟩
  · rcases Rat.le_total (a:=0) (b:=crX g a h t ex ey) with hc | hc
    · refine ⟨0,by rw [e2];exact Nat.zero_lt_two,?_⟩
      rw [e,e2]
      show vlL [[dsc g a BX_ CX_ h t]] [_,_] = _ ∧ vlL [[dsc g a BX_ CX_ h t]] [_,_] = _
      rw [vl1,vl1,hd,rt_sqr hc,← RR.of_mul,← RR.of_add,← RR.of_mul,← RR.of_add,eX2,eY2,eX,eY]
      exact ⟨by congr 1;grind,by congr 1;grind⟩
    · refine ⟨1,by rw [e2];exact Nat.one_lt_two,?_⟩
      rw [e,e2]
      show vlL [[dsc g a BX_ CX_ h t]] [_,_] = _ ∧ vlL [[dsc g a BX_ CX_ h t]] [_,_] = _
      rw [vl1,vl1,hd,show crX g a h t ex ey * crX g a h t ex ey = -crX g a h t ex ey * -crX g a h t ex ey by grind,rt_sqr (show 0 ≤ -crX g a h t ex ey by grind),← RR.of_mul,← RR.of_add,← RR.of_mul,← RR.of_add,eX2,eY2,eX,eY]
      exact ⟨by congr 1;grind,by congr 1;grind⟩
noncomputable def fndR (g a b c : FR) (h : Bool) (t ex ey : Rat) (j : Nat) : Bool:=((ouL g a b c h t).take j).any fun x=>decide (sgL (ouR g a b c h t) (plusF x.2.1 (minusF (shoF [ex]))) = 0) && decide (sgL (ouR g a b c h t) (plusF x.2.2 (minusF (shoF [ey]))) = 0)
theorem fnd_go {b c : FR} {j : Nat} (hj : j < (ouL g a b c h t).length) : (fndR g a b c h t ex ey j || (decide (sgL (ouR g a b c h t) (plusF ((ouL g a b c h t).getD j default).2.1 (minusF (shoF [ex]))) = 0) && decide (sgL (ouR g a b c h t) (plusF ((ouL g a b c h t).getD j default).2.2 (minusF (shoF [ey]))) = 0))) = fndR g a b c h t ex ey (j + 1):=by
  unfold fndR
  rw [List.take_add_one,List.any_append,List.getElem?_eq_getElem hj,List.getD_eq_getElem?_getD,List.getElem?_eq_getElem hj]
  simp
theorem fnd_end {j : Nat} (h0 : ouE g a BX_ CX_ h t = 0) (h1 : ¬ j < (ouL g a BX_ CX_ h t).length) : fndR g a BX_ CX_ h t ex ey j = true:=by
  unfold fndR
  rw [List.take_of_length_le (by omega),List.any_eq_true]
  obtain ⟨i,hi,k1,k2⟩:=ra_found h0
  refine ⟨(ouL g a BX_ CX_ h t).getD i default,?_,?_⟩
  · rw [List.getD_eq_getElem?_getD,List.getElem?_eq_getElem hi];exact List.getElem_mem hi
  · unfold sgL
    rw [vlL_plus,vlL_plus,vlL_minus,vlL_minus,of_v0,of_v0,k1,k2,RR.add_neg,RR.add_neg,sgR_zero];rfl
end
end Go.Proofs.YtnjbcjmkkejfpaaGreatDoor
