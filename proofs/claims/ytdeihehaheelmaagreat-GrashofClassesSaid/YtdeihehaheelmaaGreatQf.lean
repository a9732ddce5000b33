/- GrashofClasses returns true for every input, and every argument reads afterwards as it did. Conditions: none. -/
import Derived.ChangeArms
import Derived.SizedLaws
import Derived.WideShapes
import Derived.Test.YtdeihehaheelmaaGreatRows
import Derived.WalkKit
import Derived.ProofKit
import Derived.OpenShut
import Derived.ShutString
import Derived.ChangeOld
import Derived.Below
import Derived.Test.YtdeihehaheelmaaGreatQe
set_option linter.unusedVariables false
set_option linter.unusedSimpArgs false
namespace Go.Proofs.YtdeihehaheelmaaGreat
set_option maxHeartbeats 1000000
set_option maxRecDepth 100000
open Go.RowKit (Below)
private theorem ap_49 : ∀ {u0 : Value} {u1 : Value} {u2 : Value} {u3 : Value} (h0 : Shaped (some 3) u0) (h1 : Shaped (some 3) u1) (h2 : Shaped (some 3) u2) (h3 : Shaped (some 3) u3),Tryz.prog.built 49 [(0,u0),(1,u1),(2,u2),(3,u3)] = some (flat [u0,u1,u2,u3]).toArray:=by
 intro u0 u1 u2 u3 h0 h1 h2 h3
 obtain ⟨c0_0,c0_1,c0_2,rfl⟩:=agg3 h0
 obtain ⟨c1_0,c1_1,c1_2,rfl⟩:=agg3 h1
 obtain ⟨c2_0,c2_1,c2_2,rfl⟩:=agg3 h2
 obtain ⟨c3_0,c3_1,c3_2,rfl⟩:=agg3 h3
 kernel_rfl
private theorem c_23 : callable Tryz.prog 23 = true:=by kernel_rfl
private theorem c_24 : callable Tryz.prog 24 = true:=by kernel_rfl
private theorem fo_26_0 : fldOff Tryz.prog 26 0 = some 0:=by kernel_rfl
private theorem fo_26_1 : fldOff Tryz.prog 26 1 = some 3:=by kernel_rfl
private theorem fo_26_2 : fldOff Tryz.prog 26 2 = some 6:=by kernel_rfl
private theorem fo_26_3 : fldOff Tryz.prog 26 3 = some 9:=by kernel_rfl
private theorem tS_24 : tyS Tryz.prog 24 (some 3) = true:=by kernel_rfl
private theorem tS_26 : tyS Tryz.prog 26 (some 12) = true:=by kernel_rfl
private theorem tS_49 : tyS Tryz.prog 49 (some 12) = true:=by kernel_rfl
private theorem z_49 : (Tryz.prog.info? 49).bind (·.zero) = some (.agg #[.bool false,.slice none 0 0,.slice none 0 0,.bool false,.slice none 0 0,.slice none 0 0,.bool false,.slice none 0 0,.slice none 0 0,.bool false,.slice none 0 0,.slice none 0 0]):=by kernel_rfl
private theorem zs_49 : Shaped (some 12) (.agg #[.bool false,.slice none 0 0,.slice none 0 0,.bool false,.slice none 0 0,.slice none 0 0,.bool false,.slice none 0 0,.slice none 0 0,.bool false,.slice none 0 0,.slice none 0 0]):=⟨_,rfl,rfl,by simp [Value.oneCell']⟩
theorem rSquaresX_ok {rg ra rb rc : FR} {v1 : Value} {W0 : World} {G0 : Gh} (hok : Gok W0 G0) (h1 : (PTS [(some 3,RX rg),(some 3,RX ra),(some 3,RX rb),(some 3,RX rc)]).t v1 G0)  : Calls Tryz.prog 23 #[v1] W0 (Ret W0 G0 (ARN (some 3) (([rg,ra,rb,rc]).map (RX)))):=by
 refine St.enter (N:=12) (L:=[(0,PTS [(some 3,RX rg),(some 3,RX ra),(some 3,RX rb),(some 3,RX rc)])]) (args:=[v1]) Tryz.func23 rfl rfl rfl hok (enter1 h1) fun a S=>?_
 refine wp_reg fun K hK=>?_
 refine S.boxop (x:=.tmp 0) (τ:=PTS [(some 3,RX rg),(some 3,RX ra),(some 3,RX rb),(some 3,RX rc)]) (S.g 0 rfl) (sh (τ:=PTS [(some 3,RX rg),(some 3,RX ra),(some 3,RX rb),(some 3,RX rc)]) (S.g 0 rfl)) rfl rfl rfl rfl rfl fun b1 a w G S=>?_
 refine S.alloc rfl rfl rfl z_49 zs_49 rfl rfl fun b2 a w G S=>?_
 refine wpList_nil (hK _ _ ?_);clear hK K
 replace S:=S.d2
 refine wp_reg fun K hK=>?_
 refine S.s (τ:=PB b1) (OpR.fldA S.ok rfl (S.e 1 rfl) fo_26_0 rfl) rfl fun a w G S=>?_
 refine S.s (OpR.ldPart S.ok rfl (S.e 0 rfl) (S.box 1 rfl) tS_24 fun _ h hs=>part_load (PTS.part 0 rfl rfl h hs) rfl) rfl fun a w G S=>?_
 refine S.s (τ:=MT.ex (Value.pointer (some ⟨b1,3,none⟩))) (OpR.fldA S.ok rfl (S.e 3 rfl) fo_26_1 rfl) rfl fun a w G S=>?_
 refine S.s (OpR.ldPart S.ok rfl (S.e 0 rfl) (S.box 1 rfl) tS_24 fun _ h hs=>part_load (PTS.part 1 rfl rfl h hs) rfl) rfl fun a w G S=>?_
 refine S.s (τ:=MT.ex (Value.pointer (some ⟨b1,6,none⟩))) (OpR.fldA S.ok rfl (S.e 5 rfl) fo_26_2 rfl) rfl fun a w G S=>?_
 refine S.s (OpR.ldPart S.ok rfl (S.e 0 rfl) (S.box 1 rfl) tS_24 fun _ h hs=>part_load (PTS.part 2 rfl rfl h hs) rfl) rfl fun a w G S=>?_
 refine S.s (τ:=MT.ex (Value.pointer (some ⟨b1,9,none⟩))) (OpR.fldA S.ok rfl (S.e 7 rfl) fo_26_3 rfl) rfl fun a w G S=>?_
 refine S.s (OpR.ldPart S.ok rfl (S.e 0 rfl) (S.box 1 rfl) tS_24 fun _ h hs=>part_load (PTS.part 3 rfl rfl h hs) rfl) rfl fun a w G S=>?_
 refine S.s (τ:=ARN (some 3) (([rg,ra,rb,rc]).map (RX))) (OpR.conv' (OpR.bldP (us:=[a.eval (.tmp 4),a.eval (.tmp 6),a.eval (.tmp 8),a.eval (.tmp 10)]) (fs:=(List.map (RX) [rg,ra,rb,rc]).map fun τ=>(some 3,τ)) S.ok rfl (by simp only [List.map_toArray,List.map_cons,List.map_nil];exact ap_49 (u0:=a.eval (.tmp 4)) (u1:=a.eval (.tmp 6)) (u2:=a.eval (.tmp 8)) (u3:=a.eval (.tmp 10)) (sh (τ:=RX rg) (S.g 6 rfl)) (sh (τ:=RX ra) (S.g 4 rfl)) (sh (τ:=RX rb) (S.g 2 rfl)) (sh (τ:=RX rc) (S.g 0 rfl))) rfl (pts_cons (sh (τ:=RX rg) (S.g 6 rfl)) (S.g 6 rfl) (pts_cons (sh (τ:=RX ra) (S.g 4 rfl)) (S.g 4 rfl) (pts_cons (sh (τ:=RX rb) (S.g 2 rfl)) (S.g 2 rfl) (pts_cons (sh (τ:=RX rc) (S.g 0 rfl)) (S.g 0 rfl) pts_nil))))) fun _ _ h=>PTS.arn h) rfl fun a w G S=>?_
 refine S.store (τ:=ARN (some 3) (([rg,ra,rb,rc]).map (RX))) 0 rfl rfl rfl rfl (S.e 9 rfl) tS_49 (S.g 0 rfl) (sh (τ:=ARN (some 3) (([rg,ra,rb,rc]).map (RX))) (S.g 0 rfl)) fun w S=>?_
 replace S:=S.n0
 replace S:=(S.castBox (τ':=ROWS (some 3) (([rg,ra,rb,rc]).map (RX))) 0 rfl fun _ h _=>ARN.rows h).n0
 refine wpList_nil (hK _ _ ?_);clear hK K
 replace S:=S.d10.d8.d7.d6.d5.d4.d3.d2.d1.d0
 replace S:=(S.castBox (τ':=ARN (some 3) (([rg,ra,rb,rc]).map (RX))) 0 rfl fun _ h hs=>ROWS.arn h hs (by first | rfl | (simp;done) | (simp;omega))).n0
 exact wp_ret (S.retCell (i:=0) rfl (S.e 0 rfl) rfl tS_49 (fun _ h=>h))
theorem rSquares_ok {n : Nat} {rg ra rb rc : FR} {v1 : Value} {W0 : World} {G0 : Gh} (hok : Gok W0 G0) (h1 : (PTS [(some 3,FX n rg),(some 3,FX n ra),(some 3,FX n rb),(some 3,FX n rc)]).t v1 G0)  : Calls Tryz.prog 23 #[v1] W0 (Ret W0 G0 (ARN (some 3) (([rg,ra,rb,rc]).map (FX n)))):=by
 refine St.enter (N:=12) (L:=[(0,PTS [(some 3,FX n rg),(some 3,FX n ra),(some 3,FX n rb),(some 3,FX n rc)])]) (args:=[v1]) Tryz.func23 rfl rfl rfl hok (enter1 h1) fun a S=>?_
 refine wp_reg fun K hK=>?_
 refine S.boxop (x:=.tmp 0) (τ:=PTS [(some 3,FX n rg),(some 3,FX n ra),(some 3,FX n rb),(some 3,FX n rc)]) (S.g 0 rfl) (sh (τ:=PTS [(some 3,FX n rg),(some 3,FX n ra),(some 3,FX n rb),(some 3,FX n rc)]) (S.g 0 rfl)) rfl rfl rfl rfl rfl fun b1 a w G S=>?_
 refine S.alloc rfl rfl rfl z_49 zs_49 rfl rfl fun b2 a w G S=>?_
 refine wpList_nil (hK _ _ ?_);clear hK K
 replace S:=S.d2
 refine wp_reg fun K hK=>?_
 refine S.s (τ:=PB b1) (OpR.fldA S.ok rfl (S.e 1 rfl) fo_26_0 rfl) rfl fun a w G S=>?_
 refine S.s (OpR.ldPart S.ok rfl (S.e 0 rfl) (S.box 1 rfl) tS_24 fun _ h hs=>part_load (PTS.part 0 rfl rfl h hs) rfl) rfl fun a w G S=>?_
 refine S.s (τ:=MT.ex (Value.pointer (some ⟨b1,3,none⟩))) (OpR.fldA S.ok rfl (S.e 3 rfl) fo_26_1 rfl) rfl fun a w G S=>?_
 refine S.s (OpR.ldPart S.ok rfl (S.e 0 rfl) (S.box 1 rfl) tS_24 fun _ h hs=>part_load (PTS.part 1 rfl rfl h hs) rfl) rfl fun a w G S=>?_
 refine S.s (τ:=MT.ex (Value.pointer (some ⟨b1,6,none⟩))) (OpR.fldA S.ok rfl (S.e 5 rfl) fo_26_2 rfl) rfl fun a w G S=>?_
 refine S.s (OpR.ldPart S.ok rfl (S.e 0 rfl) (S.box 1 rfl) tS_24 fun _ h hs=>part_load (PTS.part 2 rfl rfl h hs) rfl) rfl fun a w G S=>?_
 refine S.s (τ:=MT.ex (Value.pointer (some ⟨b1,9,none⟩))) (OpR.fldA S.ok rfl (S.e 7 rfl) fo_26_3 rfl) rfl fun a w G S=>?_
 refine S.s (OpR.ldPart S.ok rfl (S.e 0 rfl) (S.box 1 rfl) tS_24 fun _ h hs=>part_load (PTS.part 3 rfl rfl h hs) rfl) rfl fun a w G S=>?_
 refine S.s (τ:=ARN (some 3) (([rg,ra,rb,rc]).map (FX n))) (OpR.conv' (OpR.bldP (us:=[a.eval (.tmp 4),a.eval (.tmp 6),a.eval (.tmp 8),a.eval (.tmp 10)]) (fs:=(List.map (FX n) [rg,ra,rb,rc]).map fun τ=>(some 3,τ)) S.ok rfl (by simp only [List.map_toArray,List.map_cons,List.map_nil];exact ap_49 (u0:=a.eval (.tmp 4)) (u1:=a.eval (.tmp 6)) (u2:=a.eval (.tmp 8)) (u3:=a.eval (.tmp 10)) (sh (τ:=FX n rg) (S.g 6 rfl)) (sh (τ:=FX n ra) (S.g 4 rfl)) (sh (τ:=FX n rb) (S.g 2 rfl)) (sh (τ:=FX n rc) (S.g 0 rfl))) rfl (pts_cons (sh (τ:=FX n rg) (S.g 6 rfl)) (S.g 6 rfl) (pts_cons (sh (τ:=FX n ra) (S.g 4 rfl)) (S.g 4 rfl) (pts_cons (sh (τ:=FX n rb) (S.g 2 rfl)) (S.g 2 rfl) (pts_cons (sh (τ:=FX n rc) (S.g 0 rfl)) (S.g 0 rfl) pts_nil))))) fun _ _ h=>PTS.arn h) rfl fun a w G S=>?_
 refine S.store (τ:=ARN (some 3) (([rg,ra,rb,rc]).map (FX n))) 0 rfl rfl rfl rfl (S.e 9 rfl) tS_49 (S.g 0 rfl) (sh (τ:=ARN (some 3) (([rg,ra,rb,rc]).map (FX n))) (S.g 0 rfl)) fun w S=>?_
 replace S:=S.n0
 replace S:=(S.castBox (τ':=ROWS (some 3) (([rg,ra,rb,rc]).map (FX n))) 0 rfl fun _ h _=>ARN.rows h).n0
 refine wpList_nil (hK _ _ ?_);clear hK K
 replace S:=S.d10.d8.d7.d6.d5.d4.d3.d2.d1.d0
 replace S:=(S.castBox (τ':=ARN (some 3) (([rg,ra,rb,rc]).map (FX n))) 0 rfl fun _ h hs=>ROWS.arn h hs (by first | rfl | (simp;done) | (simp;omega))).n0
 exact wp_ret (S.retCell (i:=0) rfl (S.e 0 rfl) rfl tS_49 (fun _ h=>h))
theorem lshort_ok {rg ra rb rc : FR} {v1 : Value} {W0 : World} {G0 : Gh} (hok : Gok W0 G0) (h1 : (PTS [(some 3,RX rg),(some 3,RX ra),(some 3,RX rb),(some 3,RX rc)]).t v1 G0)  : Calls Tryz.prog 6 #[v1] W0 (Ret W0 G0 (BT (shortF [rg,ra,rb,rc]))):=by
 refine St.enter (N:=8) (L:=[(0,PTS [(some 3,RX rg),(some 3,RX ra),(some 3,RX rb),(some 3,RX rc)])]) (args:=[v1]) Tryz.func6 rfl rfl rfl hok (enter1 h1) fun a S=>?_
 refine wp_reg fun K hK=>?_
 refine S.boxop (x:=.tmp 0) (τ:=PTS [(some 3,RX rg),(some 3,RX ra),(some 3,RX rb),(some 3,RX rc)]) (S.g 0 rfl) (sh (τ:=PTS [(some 3,RX rg),(some 3,RX ra),(some 3,RX rb),(some 3,RX rc)]) (S.g 0 rfl)) rfl rfl rfl rfl rfl fun b1 a w G S=>?_
 refine S.s (τ:=BT false) (OpR.asn S.ok rfl rfl) rfl fun a w G S=>?_
 refine wpList_nil (hK _ _ ?_);clear hK K
 replace S:=S.d2
 refine wp_reg fun K hK=>?_
 refine S.s (OpR.ldBox S.ok rfl (S.e 1 rfl) (S.box 0 rfl) tS_26) rfl fun a w G S=>?_
 refine S.s (τ:=ARN (some 3) (([rg,ra,rb,rc]).map (RX))) (OpR.call1 rfl c_23 (rSquaresX_ok S.ok (S.g 0 rfl))) rfl fun a w G S=>?_
 refine S.alloc rfl rfl rfl z_49 zs_49 rfl rfl fun b3 a w G S=>?_
 refine S.store (τ:=ARN (some 3) (([rg,ra,rb,rc]).map (RX))) 0 rfl rfl rfl rfl (S.e 0 rfl) tS_49 (S.g 1 rfl) (sh (τ:=ARN (some 3) (([rg,ra,rb,rc]).map (RX))) (S.g 1 rfl)) fun w S=>?_
 replace S:=S.n0
 replace S:=(S.castBox (τ':=ROWS (some 3) (([rg,ra,rb,rc]).map (RX))) 0 rfl fun _ h _=>ARN.rows h).n0
 refine wpList_nil (hK _ _ ?_);clear hK K
 replace S:=S.d4.d2.d1
 refine wp_reg fun K hK=>?_
 refine S.s (τ:=MT.ex (Value.slice (some ⟨b3,0,none⟩) (4) (4))) (OpR.slAr S.ok rfl Tryz.underlying49 tS_24 (S.e 0 rfl) rfl rfl) rfl fun a w G S=>?_
 obtain ⟨vz1,Gz1,hz1,hs1,hg1,hle1,S⟩:=S.freeze 0 rfl
 have hsl1:=ROWS.slM hz1 hg1 rfl (Nat.le_refl _) (show 4 ≤ LIM by decide) (rfl : _ = Value.slice (some ⟨b3,0,none⟩) (4) (4))
 replace S:=S.also (t:=6) (τ:=LS (some 3) (([rg,ra,rb,rc]).map (RX))) ((S.e 0 rfl).symm ▸ hsl1)
 replace S : St W0 G0 8 [(6,LS (some 3) (([rg,ra,rb,rc]).map (RX))),(3,PB b3),(2,BT false)] [⟨b1,26,some 12,PTS [(some 3,RX rg),(some 3,RX ra),(some 3,RX rb),(some 3,RX rc)]⟩] a _ _:=S.keep [0,2,3]
 refine S.s (τ:=BT (shortF ([rg,ra,rb,rc]))) (OpR.call1 rfl c_24 (rShort_ok S.ok (LS.eqM (S.g 0 rfl) (by first | rfl | omega | (simp only [Nat.zero_add,Nat.add_zero];done) | (simp;done) | (push_cast;omega))))) rfl fun a w G S=>?_
 replace S:=S.d3
 refine S.s (OpR.asn S.ok rfl (S.g 0 rfl)) rfl fun a w G S=>?_
 refine wpList_nil (hK _ _ ?_);clear hK K
 replace S:=S.d2.d1
 exact wp_ret (S.retTmp rfl ((S.e 0 rfl).trans (bv_eq (by first | rfl | omega | (simp only [Nat.zero_add,Nat.add_zero];done) | (simp;done) | (push_cast;omega)))))
end Go.Proofs.YtdeihehaheelmaaGreat
namespace Go.Proofs.YtdeihehaheelmaaGreat
open Go.RowKit (Below)
section
variable {P : Program} {W0 : World} {a : Act} {w : World} {G : Gh} {o : Oper}
theorem ARN.shN {k : Option Nat} {τs : List MT} {v : Value} {n : Nat} (h : (ARN k τs).t v G) (e : τs.length * k.getD 1 = n) : Shaped (some n) v := e ▸ ARN.shaped h
theorem run_part {k : Option Nat} {t : TypeId} {us : List Value} {i : Nat} {u : Value} (hs : tyS P t k = true) (hE : ∀ v ∈ us, Shaped k v) (hi : us[i]? = some u) : (part t (flat us).toArray (i * k.getD 1)).run P w = .ok u w := by
  have hsz : ∀ v ∈ us, v.cells.size = k.getD 1 := fun v hv => shaped_size (hE v hv)
  have hu := hE u (List.mem_of_getElem? hi)
  cases k with
  | none =>
    have h1 := flat_get (j := 0) hsz hi (by decide)
    have hc : u.cells = #[u] := hu.1
    rw [hc] at h1
    have h2 : (flat us)[i]? = some u := by simpa using h1
    simp [part, (tyS_none hs w).1, h2]
  | some n =>
    obtain ⟨cs, rfl, hn, _⟩ := hu
    have he : (flat us).toArray.extract (i * n) (i * n + n) = cs := by
      have hil := (List.getElem?_eq_some_iff.1 hi).1
      have hfl := flat_len hsz
      have hle : (i + 1) * n ≤ us.length * n := Nat.mul_le_mul_right n hil
      rw [Nat.add_mul, Nat.one_mul] at hle
      have hfl' : (flat us).length = us.length * n := hfl
      apply Array.ext
      · simp; omega
      · intro j h1 h2
        have h3 := flat_get (j := j) hsz hi (show j < n by omega)
        have h3' : (flat us)[i * n + j]? = cs[j]? := h3
        rw [Array.getElem?_eq_getElem h2] at h3'
        have h4 := (List.getElem?_eq_some_iff.1 h3').2
        simpa using h4
    have he' : (List.take n (List.drop (i * n) (flat us))).toArray = cs := by simpa using he
    simp [part, (tyS_some hs w).1, (tyS_some hs w).2, he']
theorem OpR.ixV {α : Type} [Inhabited α] {T : α → MT} {xs : List α} {kk : Option Nat} {x y : Operand} {t e : TypeId} {n i : Nat} {m : Int} {k : IntKind} (hok : Gok w G) (ho : o.op = .index t x y) (ht : P.underlying t = some (.array n e)) (hs : tyS P e kk = true)
    (hx : (ARN kk (xs.map T)).t (a.eval x) G) (hy : a.eval y = .int k m) (hm : m = (i : Int)) (hn : n = xs.length) (hi : i < n) : OpR P o a w G (T (xs.getD i default)) := by
  subst hm
  obtain ⟨us, hu, hE⟩ := hx
  have hl : us.length = n := by rw [hE.1, List.length_map, hn]
  have hiu : i < us.length := by omega
  have hE2 := hE.2 i (T (xs.getD i default)) us[i] (by rw [List.getElem?_map, List.getD_eq_getElem?_getD, List.getElem?_eq_getElem (by omega)]; rfl) (List.getElem?_eq_getElem hiu)
  refine .run hok (v := us[i]) ?_ hE2.2
  simp [execOp, ho, Instr.index, hu, hy, asIntOf, run_underlying ht, tyS_size hs, hi, run_part hs hE.shaped (List.getElem?_eq_getElem hiu)]
end
end Go.Proofs.YtdeihehaheelmaaGreat
namespace Go.Proofs.YtdeihehaheelmaaGreat
theorem vgetD (l : List FR) (j : Nat) : (l.map FR.val).getD j default = (l.getD j default).val := by
  rw [List.getD_eq_getElem?_getD, List.getD_eq_getElem?_getD, List.getElem?_map]
  cases l[j]? <;> rfl
theorem lkD (l : List FR) (j : Nat) : lk l j = (l.map FR.val).getD ((orderF (l.map FR.val)).getD j default) default := by rw [vgetD]; rfl
theorem bub_t {xs : List Rat} {o : List Nat} {j : Nat} (h : cmpQ (xs.getD ((bubP xs o j).getD j default) default) (xs.getD ((bubP xs o j).getD (j + 1) default) default) > 0) : ((bubP xs o j).set j ((bubP xs o j).getD (j + 1) default)).set (j + 1) ((bubP xs o j).getD j default) = bubP xs o (j + 1) := (if_pos h).symm
theorem bub_f {xs : List Rat} {o : List Nat} {j : Nat} (h : ¬ cmpQ (xs.getD ((bubP xs o j).getD j default) default) (xs.getD ((bubP xs o j).getD (j + 1) default) default) > 0) : bubP xs o j = bubP xs o (j + 1) := (if_neg h).symm
theorem bubP_n {xs : List Rat} {j : Nat} (hj : ¬ j < 3) (hk : j ≤ 3) (p : Nat) : bubP xs (bub xs p) j = bub xs (p + 1) := by
  obtain rfl : j = 3 := by omega
  rfl
theorem bubP_len {xs : List Rat} {o : List Nat} (ho : o.length = 4) : ∀ j, (bubP xs o j).length = 4
  | 0 => ho
  | j + 1 => sw1_len.trans (bubP_len ho j)
theorem bubP_lt {xs : List Rat} {o : List Nat} (ho : o.length = 4) (h : ∀ x ∈ o, x < 4) : ∀ j, j ≤ 3 → ∀ x ∈ bubP xs o j, x < 4
  | 0, _ => h
  | j + 1, hj => sw1_lt (bubP_lt ho h j (by omega)) (bubP_len ho j) (by omega)
theorem bub_len {xs : List Rat} : ∀ p, (bub xs p).length = 4
  | 0 => rfl
  | p + 1 => bubP_len (bub_len p) 3
theorem bub_lt {xs : List Rat} : ∀ p, ∀ x ∈ bub xs p, x < 4
  | 0 => fun x hx => by simp [bub] at hx; omega
  | p + 1 => bubP_lt (bub_len p) (bub_lt p) 3 (by omega)
theorem lk_le23 (l : List FR) : lk l 2 ≤ lk l 3 := by
  obtain ⟨i, j, k, m, e, hp, b1, b2, b3⟩ := order_ok (l.map FR.val)
  rw [lkD, lkD, e]; exact bef_le b3
def rcloseF (l : List FR) : Int := surdsF (lk l 3 + lk l 0 - (lk l 1 + lk l 2)) (-2) (lk l 3 * lk l 0) (-2) (lk l 1 * lk l 2)
theorem rclose_eq {l : List FR} (h : l.all posR = true) : rcloseF l > 0 ↔ ¬ closesF (lk l 3) (lk l 0) (lk l 1) (lk l 2) = true := by
  have h0 := lk_nn h 0; have h1 := lk_nn h 1; have h2 := lk_nn h 2; have h3 := lk_nn h 3
  have h30 : lk l 0 ≤ lk l 3 := by
    obtain ⟨i, j, k, m, e, hp, b1, b2, b3⟩ := order_ok (l.map FR.val)
    rw [lkD, lkD, e]; exact bef_le (bef_trans b1 (bef_trans b2 b3))
  rw [closes_iff h3 h0 h1 h2 (lk_le23 l)]
  unfold rcloseF
  rw [surds_sg (Rat.mul_nonneg h3 h0) (Rat.mul_nonneg h1 h2), rt_mul h3 h0, rt_mul h1 h2]
  have e : RR.of (lk l 3 + lk l 0 - (lk l 1 + lk l 2)) + RR.of (-2) * (rt (lk l 3) * rt (lk l 0)) + RR.of (-2) * (rt (lk l 1) * rt (lk l 2)) = (rt (lk l 3) - rt (lk l 0)) * (rt (lk l 3) - rt (lk l 0)) - (rt (lk l 1) + rt (lk l 2)) * (rt (lk l 1) + rt (lk l 2)) := by
    rw [RR.of_sub, RR.of_add, RR.of_add, ← rt_sq h0, ← rt_sq h1, ← rt_sq h2, ← rt_sq h3, show RR.of (-2) = -RR.of 2 from rfl]
    generalize rt (lk l 3) = a; generalize rt (lk l 0) = b; generalize rt (lk l 1) = c; generalize rt (lk l 2) = d
    obtain ⟨f, hf, rfl⟩ := RR.rep a; obtain ⟨g, hg, rfl⟩ := RR.rep b; obtain ⟨k, hk, rfl⟩ := RR.rep c; obtain ⟨m, hm, rfl⟩ := RR.rep d
    exact RR.ext fun n => by grind
  rw [e, ← sgR_sq (RR.le_iff_sub.1 (rt_le h0 h30)) (RR.add_nn (rt_nn _) (rt_nn _))]
  have e2 : rt (lk l 0) + rt (lk l 1) + rt (lk l 2) - rt (lk l 3) = -(rt (lk l 3) - rt (lk l 0) - (rt (lk l 1) + rt (lk l 2))) := by
    generalize rt (lk l 3) = a; generalize rt (lk l 0) = b; generalize rt (lk l 1) = c; generalize rt (lk l 2) = d
    obtain ⟨f, hf, rfl⟩ := RR.rep a; obtain ⟨g, hg, rfl⟩ := RR.rep b; obtain ⟨k, hk, rfl⟩ := RR.rep c; obtain ⟨m, hm, rfl⟩ := RR.rep d
    exact RR.ext fun n => by grind
  rw [← sgR_ge, e2, sgR_negate]; omega
theorem rchk16 {l : List FR} (h : l.all posR = true) (k : rcloseF l > 0) : (16 : Int) = chkF l := (chk16 h (Bool.eq_false_iff.2 ((rclose_eq h).1 k))).symm
theorem rchk0 {l : List FR} (h : l.all posR = true) (k : ¬ rcloseF l > 0) : (0 : Int) = chkF l := (chk0 h (Classical.not_not.1 fun n => k ((rclose_eq h).2 n))).symm
def rexcF (l : List FR) : Int := sumsF (lk l 0) (lk l 3) (lk l 1) (lk l 2)
def rclsF (l : List FR) : Int := if rexcF l = 1 then 4 else if rexcF l = 0 then 5 else (([1, 0, 2, 3] : List Nat).getD ((orderF (l.map FR.val)).getD 0 default) default : Nat)
theorem rexc_eq {l : List FR} (h : l.all posR = true) : rexcF l = excF l := by
  unfold rexcF excF
  rw [sums_four (lk_nn h 0) (lk_nn h 3) (lk_nn h 1) (lk_nn h 2), cmp4 (lk_nn h 0) (lk_nn h 3) (lk_nn h 1) (lk_nn h 2)]
theorem rcls_eq {l : List FR} (h : chkF l = 0) : rclsF l = clsF l := by
  unfold rclsF clsF; rw [if_pos h, rexc_eq (chk_pos h)]
theorem excRes0 {l : List FR} (h : chkF l ≠ 0) : excRes l = 0 := if_neg h
theorem excRes1 {l : List FR} (h : chkF l = 0) : excRes l = excF l := if_pos h
theorem clsF0 {l : List FR} (h : chkF l ≠ 0) : clsF l = 0 := if_neg h
end Go.Proofs.YtdeihehaheelmaaGreat
namespace Go.Proofs.YtdeihehaheelmaaGreat
set_option maxHeartbeats 1000000
set_option maxRecDepth 100000
open Go.RowKit (Below)
private theorem c_21 : callable Tryz.prog 21 = true:=by kernel_rfl
private theorem c_29 : callable Tryz.prog 29 = true:=by kernel_rfl
private theorem c_31 : callable Tryz.prog 31 = true:=by kernel_rfl
private theorem c_32 : callable Tryz.prog 32 = true:=by kernel_rfl
private theorem c_33 : callable Tryz.prog 33 = true:=by kernel_rfl
private theorem c_34 : callable Tryz.prog 34 = true:=by kernel_rfl
private theorem c_44 : callable Tryz.prog 44 = true:=by kernel_rfl
private theorem c_54 : callable Tryz.prog 54 = true:=by kernel_rfl
private theorem c_57 : callable Tryz.prog 57 = true:=by kernel_rfl
private theorem mixedOrders : Tryz.prog.follows .mixedOrders = true:=by kernel_rfl
private theorem z_24 : (Tryz.prog.info? 24).bind (·.zero) = some (.agg #[.bool false,.slice none 0 0,.slice none 0 0]):=by kernel_rfl
private theorem zs_24 : Shaped (some 3) (.agg #[.bool false,.slice none 0 0,.slice none 0 0]):=⟨_,rfl,rfl,by simp [Value.oneCell']⟩
theorem rSurd_ok {n0 n1 n2 : Nat} {x y d : Rat} {v1 v2 v3 : Value} {W0 : World} {G0 : Gh} (hok : Gok W0 G0) (h1 : (QV n0 x).t v1 G0) (h2 : (QV n1 y).t v2 G0) (h3 : (QV n2 d).t v3 G0) (hn : 2 * n0 + 2 * n1 + n2 + 1 ≤ BIG) : Calls Tryz.prog 57 #[v1,v2,v3] W0 (Ret W0 G0 (IT (surdF x y d))):=by
 refine St.enter (N:=44) (L:=[(2,QV n2 d),(1,QV n1 y),(0,QV n0 x)]) (args:=[v1,v2,v3]) Tryz.func57 rfl rfl rfl hok (enter3 h1 h2 h3) fun a S=>?_
 refine wp_reg fun K hK=>?_
 refine S.boxop (x:=.tmp 0) (τ:=QV n0 x) (S.g 2 rfl) (sh (τ:=QV n0 x) (S.g 2 rfl)) rfl rfl rfl rfl rfl fun b3 a w G S=>?_
 refine S.boxop (x:=.tmp 1) (τ:=QV n1 y) (S.g 2 rfl) (sh (τ:=QV n1 y) (S.g 2 rfl)) rfl rfl rfl rfl rfl fun b4 a w G S=>?_
 refine S.boxop (x:=.tmp 2) (τ:=QV n2 d) (S.g 2 rfl) (sh (τ:=QV n2 d) (S.g 2 rfl)) rfl rfl rfl rfl rfl fun b5 a w G S=>?_
 refine S.s (τ:=NT 0) (OpR.asn S.ok rfl (rfl : _ = nv .i64 0)) rfl fun a w G S=>?_
 refine wpList_nil (hK _ _ ?_);clear hK K
 replace S:=S.d6.d5.d4
 refine wp_seq_k fun K hK=>?_
 refine S.drawn [⟨10,.g (QV n0 x),[]⟩,⟨11,.g (IT x.num.sign),[0]⟩,⟨12,.g (QV n1 y),[]⟩,⟨13,.g (IT y.num.sign),[2]⟩,⟨14,.g (QV n2 d),[]⟩,⟨15,.g (IT d.num.sign),[4]⟩,⟨16,.g (IT (y.num.sign * d.num.sign)),[3,5]⟩,⟨7,.g (IT x.num.sign),[1]⟩,⟨8,.g (IT (y.num.sign * d.num.sign)),[6]⟩] mixedOrders (by kernel_rfl)
  ⟨fun a w G S=>.of rfl (OpR.ldBox S.ok rfl (S.e 3 rfl) (S.box 2 rfl) tS_24),
   fun a w G S=>.of rfl (OpR.call1 rfl c_29 (gSign_ok S.ok (S.g 0 rfl) (by omega))),
   fun a w G S=>.of rfl (OpR.ldBox S.ok rfl (S.e 2 rfl) (S.box 1 rfl) tS_24),
   fun a w G S=>.of rfl (OpR.call1 rfl c_29 (gSign_ok S.ok (S.g 0 rfl) (by omega))),
   fun a w G S=>.of rfl (OpR.ldBox S.ok rfl (S.e 1 rfl) (S.box 0 rfl) tS_24),
   fun a w G S=>.of rfl (OpR.call1 rfl c_29 (gSign_ok S.ok (S.g 0 rfl) (by omega))),
   fun a w G S=>.of rfl (OpR.imul S.ok rfl (S.e 0 rfl) (S.e 1 rfl) (iw_i64 rfl (sg_mul_bd _ _))),
   fun a w G S=>.of rfl (OpR.asn S.ok rfl (S.g 0 rfl)),
   fun a w G S=>.of rfl (OpR.asn S.ok rfl (S.g 0 rfl)),trivial⟩ fun β a w G S=>?_
 replace S : St W0 G0 44 [(8,IT (y.num.sign * d.num.sign)),(7,IT x.num.sign),(16,IT (y.num.sign * d.num.sign)),(15,IT d.num.sign),(14,QV n2 d),(13,IT y.num.sign),(12,QV n1 y),(11,IT x.num.sign),(10,QV n0 x),(6,NT 0),(5,PB b5),(4,PB b4),(3,PB b3)] [⟨b5,24,some 3,QV n2 d⟩,⟨b4,24,some 3,QV n1 y⟩,⟨b3,24,some 3,QV n0 x⟩] a _ _:=S
 refine wpList_nil (hK _ _ ?_);clear hK K
 replace S:=S.d8.d7.d6.d5.d4.d3.d2
 refine wp_seq_k fun K hK=>?_
 refine wp_reg fun K hK=>?_
 refine S.s (OpR.mv S.ok rfl (S.g 1 rfl)) rfl fun a w G S=>?_
 refine S.s (OpR.zeql S.ok rfl (S.e 0 rfl) (rfl : _ = nv .i64 0) MT.self) rfl fun a w G S=>?_
 refine S.s (OpR.mv S.ok rfl (S.g 0 rfl)) rfl fun a w G S=>?_
 rcases Bool.eq_false_or_eq_true (decide (x.num.sign = 0)) with hc1 | hc1
 ·
  have hp2:=of_decide_eq_true hc1
  replace S:=S.boolIs 0 rfl hc1
  refine S.skipG 0 rfl rfl rfl rfl rfl rfl fun a w G S=>?_
  refine S.skipG 1 rfl rfl rfl rfl rfl rfl fun a w G S=>?_
  refine S.s (τ:=BT true) (OpR.pick S.ok rfl (S.e 2 rfl) rfl) rfl fun a w G S=>?_
  refine S.s (OpR.mv S.ok rfl (S.g 0 rfl)) rfl fun a w G S=>?_
  refine S.skipG 0 rfl rfl rfl rfl rfl rfl fun a w G S=>?_
  refine S.skipG 1 rfl rfl rfl rfl rfl rfl fun a w G S=>?_
  refine S.skipG 2 rfl rfl rfl rfl rfl rfl fun a w G S=>?_
  refine S.s (τ:=BT true) (OpR.pick S.ok rfl (S.e 3 rfl) rfl) rfl fun a w G S=>?_
  refine wpList_nil (hK _ _ ?_);clear hK K
  replace S:=S.d11.d10.d9.d8.d7.d6.d5.d4.d3.d2.d1
  refine wp_cond_true (S.e 0 rfl) ?_
  refine wp_seq_k fun K hK=>?_
  refine wp_reg fun K hK=>?_
  refine S.s (OpR.mv S.ok rfl (S.g 2 rfl)) rfl fun a w G S=>?_
  refine S.s (OpR.zeql S.ok rfl (S.e 0 rfl) (rfl : _ = nv .i64 0) MT.self) rfl fun a w G S=>?_
  refine wpList_nil (hK _ _ ?_);clear hK K
  replace S:=S.d1
  refine S.cond 0 rfl (fun hc3=>?_) (fun hc3=>?_)
  ·
   have hp4:=of_decide_eq_true hc3
   refine wp_reg fun K hK=>?_
   refine S.s (OpR.mv S.ok rfl (S.g 2 rfl)) rfl fun a w G S=>?_
   replace S:=S.d5
   refine S.s (OpR.asn S.ok rfl (S.g 0 rfl)) rfl fun a w G S=>?_
   refine wpList_nil (hK _ _ ?_);clear hK K
   replace S:=S.d1
   exact wp_ret (then_ret (then_ret (S.retTmp rfl ((S.e 0 rfl).trans (iv_eq (by first | (exfalso;omega) | (unfold surdF;first | rw [if_pos (by omega),if_pos (by omega)] | rw [if_pos (by omega),if_neg (by omega)] | rw [if_neg (by omega)])))))))
  ·
   have hp5:=of_decide_eq_false hc3
   refine wp_skip ?_
   refine hK _ _ ?_;clear hK K
   refine wp_reg fun K hK=>?_
   refine S.s (OpR.mv S.ok rfl (S.g 3 rfl)) rfl fun a w G S=>?_
   replace S:=S.d5
   refine S.s (OpR.asn S.ok rfl (S.g 0 rfl)) rfl fun a w G S=>?_
   refine wpList_nil (hK _ _ ?_);clear hK K
   replace S:=S.d1
   exact wp_ret (then_ret (S.retTmp rfl ((S.e 0 rfl).trans (iv_eq (by first | (exfalso;omega) | (unfold surdF;first | rw [if_pos (by omega),if_pos (by omega)] | rw [if_pos (by omega),if_neg (by omega)] | rw [if_neg (by omega)]))))))
 ·
  have hp6:=of_decide_eq_false hc1
  replace S:=S.boolIs 0 rfl hc1
  refine S.stepG 0 (OpR.mv S.ok rfl (S.g 4 rfl)) rfl rfl rfl rfl rfl rfl fun a w G S=>?_
  refine S.stepG 1 (OpR.zeql S.ok rfl (S.e 0 rfl) (rfl : _ = nv .i64 0) MT.self) rfl rfl rfl rfl rfl rfl fun a w G S=>?_
  refine S.s (τ:=BT (decide ((y.num.sign * d.num.sign) = 0))) (OpR.pick S.ok rfl (S.e 2 rfl) (S.g 0 rfl)) rfl fun a w G S=>?_
  refine S.s (OpR.mv S.ok rfl (S.g 0 rfl)) rfl fun a w G S=>?_
  rcases Bool.eq_false_or_eq_true (decide ((y.num.sign * d.num.sign) = 0)) with hc7 | hc7
  ·
   have hp8:=of_decide_eq_true hc7
   replace S:=S.boolIs 0 rfl hc7
   refine S.skipG 0 rfl rfl rfl rfl rfl rfl fun a w G S=>?_
   refine S.skipG 1 rfl rfl rfl rfl rfl rfl fun a w G S=>?_
   refine S.skipG 2 rfl rfl rfl rfl rfl rfl fun a w G S=>?_
   refine S.s (τ:=BT true) (OpR.pick S.ok rfl (S.e 3 rfl) rfl) rfl fun a w G S=>?_
   refine wpList_nil (hK _ _ ?_);clear hK K
   replace S:=S.d12.d11.d10.d9.d8.d7.d6.d5.d4.d3.d2.d1
   refine wp_cond_true (S.e 0 rfl) ?_
   refine wp_seq_k fun K hK=>?_
   refine wp_reg fun K hK=>?_
   refine S.s (OpR.mv S.ok rfl (S.g 2 rfl)) rfl fun a w G S=>?_
   refine S.s (OpR.zeql S.ok rfl (S.e 0 rfl) (rfl : _ = nv .i64 0) MT.self) rfl fun a w G S=>?_
   refine wpList_nil (hK _ _ ?_);clear hK K
   replace S:=S.d1
   refine S.cond 0 rfl (fun hc9=>?_) (fun hc9=>?_)
   ·
    have hp10:=of_decide_eq_true hc9
    refine wp_reg fun K hK=>?_
    refine S.s (OpR.mv S.ok rfl (S.g 2 rfl)) rfl fun a w G S=>?_
    replace S:=S.d5
    refine S.s (OpR.asn S.ok rfl (S.g 0 rfl)) rfl fun a w G S=>?_
    refine wpList_nil (hK _ _ ?_);clear hK K
    replace S:=S.d1
    exact wp_ret (then_ret (then_ret (S.retTmp rfl ((S.e 0 rfl).trans (iv_eq (by first | (exfalso;omega) | (unfold surdF;first | rw [if_pos (by omega),if_pos (by omega)] | rw [if_pos (by omega),if_neg (by omega)] | rw [if_neg (by omega)])))))))
   ·
    have hp11:=of_decide_eq_false hc9
    refine wp_skip ?_
    refine hK _ _ ?_;clear hK K
    refine wp_reg fun K hK=>?_
    refine S.s (OpR.mv S.ok rfl (S.g 3 rfl)) rfl fun a w G S=>?_
    replace S:=S.d5
    refine S.s (OpR.asn S.ok rfl (S.g 0 rfl)) rfl fun a w G S=>?_
    refine wpList_nil (hK _ _ ?_);clear hK K
    replace S:=S.d1
    exact wp_ret (then_ret (S.retTmp rfl ((S.e 0 rfl).trans (iv_eq (by first | (exfalso;omega) | (unfold surdF;first | rw [if_pos (by omega),if_pos (by omega)] | rw [if_pos (by omega),if_neg (by omega)] | rw [if_neg (by omega)]))))))
  ·
   have hp12:=of_decide_eq_false hc7
   replace S:=S.boolIs 0 rfl hc7
   refine S.stepG 0 (OpR.mv S.ok rfl (S.g 10 rfl)) rfl rfl rfl rfl rfl rfl fun a w G S=>?_
   refine S.stepG 1 (OpR.mv S.ok rfl (S.g 10 rfl)) rfl rfl rfl rfl rfl rfl fun a w G S=>?_
   refine S.stepG 2 (OpR.zeql S.ok rfl (S.e 1 rfl) (S.e 0 rfl) MT.self) rfl rfl rfl rfl rfl rfl fun a w G S=>?_
   refine S.s (τ:=BT (decide (x.num.sign = (y.num.sign * d.num.sign)))) (OpR.pick S.ok rfl (S.e 3 rfl) (S.g 0 rfl)) rfl fun a w G S=>?_
   refine wpList_nil (hK _ _ ?_);clear hK K
   replace S:=S.d12.d11.d10.d9.d8.d7.d6.d5.d4.d3.d2.d1
   refine S.cond 0 rfl (fun hc13=>?_) (fun hc13=>?_)
   ·
    have hp14:=of_decide_eq_true hc13
    refine wp_seq_k fun K hK=>?_
    refine wp_reg fun K hK=>?_
    refine S.s (OpR.mv S.ok rfl (S.g 2 rfl)) rfl fun a w G S=>?_
    refine S.s (OpR.zeql S.ok rfl (S.e 0 rfl) (rfl : _ = nv .i64 0) MT.self) rfl fun a w G S=>?_
    refine wpList_nil (hK _ _ ?_);clear hK K
    replace S:=S.d1
    refine S.cond 0 rfl (fun hc15=>?_) (fun hc15=>?_)
    ·
     have hp16:=of_decide_eq_true hc15
     refine wp_reg fun K hK=>?_
     refine S.s (OpR.mv S.ok rfl (S.g 2 rfl)) rfl fun a w G S=>?_
     replace S:=S.d5
     refine S.s (OpR.asn S.ok rfl (S.g 0 rfl)) rfl fun a w G S=>?_
     refine wpList_nil (hK _ _ ?_);clear hK K
     replace S:=S.d1
     exact wp_ret (then_ret (then_ret (S.retTmp rfl ((S.e 0 rfl).trans (iv_eq (by first | (exfalso;omega) | (unfold surdF;first | rw [if_pos (by omega),if_pos (by omega)] | rw [if_pos (by omega),if_neg (by omega)] | rw [if_neg (by omega)])))))))
    ·
     have hp17:=of_decide_eq_false hc15
     refine wp_skip ?_
     refine hK _ _ ?_;clear hK K
     refine wp_reg fun K hK=>?_
     refine S.s (OpR.mv S.ok rfl (S.g 3 rfl)) rfl fun a w G S=>?_
     replace S:=S.d5
     refine S.s (OpR.asn S.ok rfl (S.g 0 rfl)) rfl fun a w G S=>?_
     refine wpList_nil (hK _ _ ?_);clear hK K
     replace S:=S.d1
     exact wp_ret (then_ret (S.retTmp rfl ((S.e 0 rfl).trans (iv_eq (by first | (exfalso;omega) | (unfold surdF;first | rw [if_pos (by omega),if_pos (by omega)] | rw [if_pos (by omega),if_neg (by omega)] | rw [if_neg (by omega)]))))))
   ·
    have hp18:=of_decide_eq_false hc13
    refine wp_skip ?_
    refine hK _ _ ?_;clear hK K
    refine wp_seq_k fun K hK=>?_
    refine S.drawn [⟨32,.g (QV n1 y),[]⟩,⟨33,.g (QV n1 y),[]⟩,⟨34,.g (QC (n1 + n1) (y * y)),[0,1]⟩,⟨35,.g (QV n2 d),[]⟩,⟨36,.g (QC ((n1 + n1) + n2) ((y * y) * d)),[2,3]⟩,⟨9,.al mkP 24 (some 3) (MT.ex (.agg #[.bool false,.slice none 0 0,.slice none 0 0])),[]⟩] mixedOrders (by kernel_rfl)
     ⟨fun a w G S=>.of rfl (OpR.ldBox S.ok rfl (S.e 5 rfl) (S.box 1 rfl) tS_24),
      fun a w G S=>.of rfl (OpR.ldBox S.ok rfl (S.e 5 rfl) (S.box 1 rfl) tS_24),
      fun a w G S=>.of rfl (OpR.call2 rfl c_34 (gMul_ok S.ok (S.g 0 rfl) (S.g 1 rfl) (by omega))),
      fun a w G S=>.of rfl (OpR.ldBox S.ok rfl (S.e 4 rfl) (S.box 0 rfl) tS_24),
      fun a w G S=>.of rfl (OpR.call2 rfl c_34 (gMul_ok S.ok (QC.toQV (S.g 0 rfl)) (S.g 1 rfl) (by omega))),
      ⟨fun _=>rfl,rfl,fun a w G S=>OpB.alloc S.ok rfl z_24 zs_24⟩,trivial⟩ fun β a w G S=>?_
    replace S : St W0 G0 44 [(9,PB (β 5)),(36,QC ((n1 + n1) + n2) ((y * y) * d)),(35,QV n2 d),(34,QC (n1 + n1) (y * y)),(33,QV n1 y),(32,QV n1 y),(27,BT (decide (x.num.sign = (y.num.sign * d.num.sign)))),(8,IT (y.num.sign * d.num.sign)),(7,IT x.num.sign),(6,NT 0),(5,PB b5),(4,PB b4),(3,PB b3)] [⟨(β 5),24,some 3,MT.ex ((.agg #[.bool false,.slice none 0 0,.slice none 0 0] : Value))⟩,⟨b5,24,some 3,QV n2 d⟩,⟨b4,24,some 3,QV n1 y⟩,⟨b3,24,some 3,QV n0 x⟩] a _ _:=S
    generalize β 5 = b9 at S
    refine S.store (τ:=QC ((n1 + n1) + n2) ((y * y) * d)) 0 rfl rfl rfl rfl (S.e 0 rfl) tS_24 (S.g 1 rfl) (sh (τ:=QC ((n1 + n1) + n2) ((y * y) * d)) (S.g 1 rfl)) fun w S=>?_
    replace S:=S.n0
    refine wpList_nil (hK _ _ ?_);clear hK K
    replace S:=S.d5.d4.d3.d2.d1
    refine wp_seq_k fun K hK=>?_
    replace S:=S.d4
    refine S.drawn [⟨37,.g (IT x.num.sign),[]⟩,⟨38,.g (QV n0 x),[]⟩,⟨39,.g (QV n0 x),[]⟩,⟨40,.g (QC (n0 + n0) (x * x)),[1,2]⟩,⟨41,.g (QC ((n1 + n1) + n2) ((y * y) * d)),[]⟩,⟨42,.g (IT (cmpQ (x * x) ((y * y) * d))),[3,4]⟩,⟨43,.g (IT (x.num.sign * cmpQ (x * x) (y * y * d))),[0,5]⟩,⟨6,.g (IT (x.num.sign * cmpQ (x * x) (y * y * d))),[6]⟩] mixedOrders (by kernel_rfl)
     ⟨fun a w G S=>.of rfl (OpR.mv S.ok rfl (S.g 3 rfl)),
      fun a w G S=>.of rfl (OpR.ldBox S.ok rfl (S.e 6 rfl) (S.box 3 rfl) tS_24),
      fun a w G S=>.of rfl (OpR.ldBox S.ok rfl (S.e 6 rfl) (S.box 3 rfl) tS_24),
      fun a w G S=>.of rfl (OpR.call2 rfl c_34 (gMul_ok S.ok (S.g 0 rfl) (S.g 1 rfl) (by omega))),
      fun a w G S=>.of rfl (OpR.ldBox S.ok rfl (S.e 0 rfl) (S.box 0 rfl) tS_24),
      fun a w G S=>.of rfl (OpR.call2 rfl c_44 (gCmp_ok S.ok (QC.toQV (S.g 0 rfl)) (QC.toQV (S.g 1 rfl)) (by omega))),
      fun a w G S=>.of rfl (OpR.imul S.ok rfl (S.e 0 rfl) (S.e 1 rfl) (iw_i64 rfl (sg_cmp_bd _ _ _))),
      fun a w G S=>.of rfl (OpR.asn S.ok rfl (S.g 0 rfl)),trivial⟩ fun β a w G S=>?_
    replace S : St W0 G0 44 [(6,IT (x.num.sign * cmpQ (x * x) (y * y * d))),(43,IT (x.num.sign * cmpQ (x * x) (y * y * d))),(42,IT (cmpQ (x * x) ((y * y) * d))),(41,QC ((n1 + n1) + n2) ((y * y) * d)),(40,QC (n0 + n0) (x * x)),(39,QV n0 x),(38,QV n0 x),(37,IT x.num.sign),(9,PB b9),(27,BT (decide (x.num.sign = (y.num.sign * d.num.sign)))),(8,IT (y.num.sign * d.num.sign)),(7,IT x.num.sign),(5,PB b5),(4,PB b4),(3,PB b3)] [⟨b9,24,some 3,QC ((n1 + n1) + n2) ((y * y) * d)⟩,⟨b5,24,some 3,QV n2 d⟩,⟨b4,24,some 3,QV n1 y⟩,⟨b3,24,some 3,QV n0 x⟩] a _ _:=S
    refine wpList_nil (hK _ _ ?_);clear hK K
    replace S:=S.d7.d6.d5.d4.d3.d2.d1
    exact wp_ret (S.retTmp rfl ((S.e 0 rfl).trans (iv_eq (by first | (exfalso;omega) | (unfold surdF;first | rw [if_pos (by omega),if_pos (by omega)] | rw [if_pos (by omega),if_neg (by omega)] | rw [if_neg (by omega)])))))
theorem rSurds_ok {n0 n1 n2 n3 n4 : Nat} {x y d z e : Rat} {v1 v2 v3 v4 v5 : Value} {W0 : World} {G0 : Gh} (hok : Gok W0 G0) (h1 : (QV n0 x).t v1 G0) (h2 : (QV n1 y).t v2 G0) (h3 : (QV n2 d).t v3 G0) (h4 : (QV n3 z).t v4 G0) (h5 : (QV n4 e).t v5 G0) (hn : 8 * n0 + 8 * n1 + 8 * n2 + 8 * n3 + 8 * n4 + 1000 ≤ BIG) : Calls Tryz.prog 33 #[v1,v2,v3,v4,v5] W0 (Ret W0 G0 (IT (surdsF x y d z e))):=by
 refine St.enter (N:=65) (L:=[(4,QV n4 e),(3,QV n3 z),(2,QV n2 d),(1,QV n1 y),(0,QV n0 x)]) (args:=[v1,v2,v3,v4,v5]) Tryz.func33 rfl rfl rfl hok (enter5 h1 h2 h3 h4 h5) fun a S=>?_
 refine wp_reg fun K hK=>?_
 refine S.boxop (x:=.tmp 0) (τ:=QV n0 x) (S.g 4 rfl) (sh (τ:=QV n0 x) (S.g 4 rfl)) rfl rfl rfl rfl rfl fun b5 a w G S=>?_
 refine S.boxop (x:=.tmp 1) (τ:=QV n1 y) (S.g 4 rfl) (sh (τ:=QV n1 y) (S.g 4 rfl)) rfl rfl rfl rfl rfl fun b6 a w G S=>?_
 refine S.boxop (x:=.tmp 2) (τ:=QV n2 d) (S.g 4 rfl) (sh (τ:=QV n2 d) (S.g 4 rfl)) rfl rfl rfl rfl rfl fun b7 a w G S=>?_
 refine S.boxop (x:=.tmp 3) (τ:=QV n3 z) (S.g 4 rfl) (sh (τ:=QV n3 z) (S.g 4 rfl)) rfl rfl rfl rfl rfl fun b8 a w G S=>?_
 refine S.boxop (x:=.tmp 4) (τ:=QV n4 e) (S.g 4 rfl) (sh (τ:=QV n4 e) (S.g 4 rfl)) rfl rfl rfl rfl rfl fun b9 a w G S=>?_
 refine S.s (τ:=NT 0) (OpR.asn S.ok rfl (rfl : _ = nv .i64 0)) rfl fun a w G S=>?_
 refine wpList_nil (hK _ _ ?_);clear hK K
 replace S:=S.d10.d9.d8.d7.d6
 refine wp_reg fun K hK=>?_
 refine S.s (OpR.ldBox S.ok rfl (S.e 5 rfl) (S.box 4 rfl) tS_24) rfl fun a w G S=>?_
 refine S.s (OpR.ldBox S.ok rfl (S.e 5 rfl) (S.box 3 rfl) tS_24) rfl fun a w G S=>?_
 refine S.s (OpR.ldBox S.ok rfl (S.e 5 rfl) (S.box 2 rfl) tS_24) rfl fun a w G S=>?_
 refine S.s (τ:=IT (surdF x y d)) (OpR.call3 rfl c_57 (rSurd_ok S.ok (S.g 2 rfl) (S.g 1 rfl) (S.g 0 rfl) (by omega))) rfl fun a w G S=>?_
 refine S.s (OpR.asn S.ok rfl (S.g 0 rfl)) rfl fun a w G S=>?_
 refine wpList_nil (hK _ _ ?_);clear hK K
 replace S:=S.d4.d3.d2.d1
 refine wp_seq_k fun K hK=>?_
 refine S.drawn [⟨19,.g (QV n3 z),[]⟩,⟨20,.g (IT z.num.sign),[0]⟩,⟨21,.g (QV n4 e),[]⟩,⟨22,.g (IT e.num.sign),[2]⟩,⟨23,.g (IT (z.num.sign * e.num.sign)),[1,3]⟩,⟨12,.g (IT (z.num.sign * e.num.sign)),[4]⟩] mixedOrders (by kernel_rfl)
  ⟨fun a w G S=>.of rfl (OpR.ldBox S.ok rfl (S.e 3 rfl) (S.box 1 rfl) tS_24),
   fun a w G S=>.of rfl (OpR.call1 rfl c_29 (gSign_ok S.ok (S.g 0 rfl) (by omega))),
   fun a w G S=>.of rfl (OpR.ldBox S.ok rfl (S.e 2 rfl) (S.box 0 rfl) tS_24),
   fun a w G S=>.of rfl (OpR.call1 rfl c_29 (gSign_ok S.ok (S.g 0 rfl) (by omega))),
   fun a w G S=>.of rfl (OpR.imul S.ok rfl (S.e 0 rfl) (S.e 1 rfl) (iw_i64 rfl (sg_mul_bd _ _))),
   fun a w G S=>.of rfl (OpR.asn S.ok rfl (S.g 0 rfl)),trivial⟩ fun β a w G S=>?_
 replace S : St W0 G0 65 [(12,IT (z.num.sign * e.num.sign)),(23,IT (z.num.sign * e.num.sign)),(22,IT e.num.sign),(21,QV n4 e),(20,IT z.num.sign),(19,QV n3 z),(11,IT (surdF x y d)),(10,NT 0),(9,PB b9),(8,PB b8),(7,PB b7),(6,PB b6),(5,PB b5)] [⟨b9,24,some 3,QV n4 e⟩,⟨b8,24,some 3,QV n3 z⟩,⟨b7,24,some 3,QV n2 d⟩,⟨b6,24,some 3,QV n1 y⟩,⟨b5,24,some 3,QV n0 x⟩] a _ _:=S
 refine wpList_nil (hK _ _ ?_);clear hK K
 replace S:=S.d5.d4.d3.d2.d1
 refine wp_seq_k fun K hK=>?_
 refine wp_reg fun K hK=>?_
 refine S.s (OpR.mv S.ok rfl (S.g 1 rfl)) rfl fun a w G S=>?_
 refine S.s (OpR.zeql S.ok rfl (S.e 0 rfl) (rfl : _ = nv .i64 0) MT.self) rfl fun a w G S=>?_
 refine S.s (OpR.mv S.ok rfl (S.g 0 rfl)) rfl fun a w G S=>?_
 rcases Bool.eq_false_or_eq_true (decide ((surdF x y d) = 0)) with hc1 | hc1
 ·
  have hp2:=of_decide_eq_true hc1
  replace S:=S.boolIs 0 rfl hc1
  refine S.skipG 0 rfl rfl rfl rfl rfl rfl fun a w G S=>?_
  refine S.skipG 1 rfl rfl rfl rfl rfl rfl fun a w G S=>?_
  refine S.s (τ:=BT true) (OpR.pick S.ok rfl (S.e 2 rfl) rfl) rfl fun a w G S=>?_
  refine S.s (OpR.mv S.ok rfl (S.g 0 rfl)) rfl fun a w G S=>?_
  refine S.skipG 0 rfl rfl rfl rfl rfl rfl fun a w G S=>?_
  refine S.skipG 1 rfl rfl rfl rfl rfl rfl fun a w G S=>?_
  refine S.skipG 2 rfl rfl rfl rfl rfl rfl fun a w G S=>?_
  refine S.s (τ:=BT true) (OpR.pick S.ok rfl (S.e 3 rfl) rfl) rfl fun a w G S=>?_
  refine wpList_nil (hK _ _ ?_);clear hK K
  replace S:=S.d11.d10.d9.d8.d7.d6.d5.d4.d3.d2.d1
  refine wp_cond_true (S.e 0 rfl) ?_
  refine wp_seq_k fun K hK=>?_
  refine wp_reg fun K hK=>?_
  refine S.s (OpR.mv S.ok rfl (S.g 2 rfl)) rfl fun a w G S=>?_
  refine S.s (OpR.zeql S.ok rfl (S.e 0 rfl) (rfl : _ = nv .i64 0) MT.self) rfl fun a w G S=>?_
  refine wpList_nil (hK _ _ ?_);clear hK K
  replace S:=S.d1
  refine S.cond 0 rfl (fun hc3=>?_) (fun hc3=>?_)
  ·
   have hp4:=of_decide_eq_true hc3
   refine wp_reg fun K hK=>?_
   refine S.s (OpR.mv S.ok rfl (S.g 2 rfl)) rfl fun a w G S=>?_
   replace S:=S.d5
   refine S.s (OpR.asn S.ok rfl (S.g 0 rfl)) rfl fun a w G S=>?_
   refine wpList_nil (hK _ _ ?_);clear hK K
   replace S:=S.d1
   exact wp_ret (then_ret (then_ret (S.retTmp rfl ((S.e 0 rfl).trans (iv_eq (by first | (exfalso;omega) | (unfold surdsF;first | rw [if_pos (by omega),if_pos (by omega)] | rw [if_pos (by omega),if_neg (by omega)] | rw [if_neg (by omega)])))))))
  ·
   have hp5:=of_decide_eq_false hc3
   refine wp_skip ?_
   refine hK _ _ ?_;clear hK K
   refine wp_reg fun K hK=>?_
   refine S.s (OpR.mv S.ok rfl (S.g 3 rfl)) rfl fun a w G S=>?_
   replace S:=S.d5
   refine S.s (OpR.asn S.ok rfl (S.g 0 rfl)) rfl fun a w G S=>?_
   refine wpList_nil (hK _ _ ?_);clear hK K
   replace S:=S.d1
   exact wp_ret (then_ret (S.retTmp rfl ((S.e 0 rfl).trans (iv_eq (by first | (exfalso;omega) | (unfold surdsF;first | rw [if_pos (by omega),if_pos (by omega)] | rw [if_pos (by omega),if_neg (by omega)] | rw [if_neg (by omega)]))))))
 ·
  have hp6:=of_decide_eq_false hc1
  replace S:=S.boolIs 0 rfl hc1
  refine S.stepG 0 (OpR.mv S.ok rfl (S.g 4 rfl)) rfl rfl rfl rfl rfl rfl fun a w G S=>?_
  refine S.stepG 1 (OpR.zeql S.ok rfl (S.e 0 rfl) (rfl : _ = nv .i64 0) MT.self) rfl rfl rfl rfl rfl rfl fun a w G S=>?_
  refine S.s (τ:=BT (decide ((z.num.sign * e.num.sign) = 0))) (OpR.pick S.ok rfl (S.e 2 rfl) (S.g 0 rfl)) rfl fun a w G S=>?_
  refine S.s (OpR.mv S.ok rfl (S.g 0 rfl)) rfl fun a w G S=>?_
  rcases Bool.eq_false_or_eq_true (decide ((z.num.sign * e.num.sign) = 0)) with hc7 | hc7
  ·
   have hp8:=of_decide_eq_true hc7
   replace S:=S.boolIs 0 rfl hc7
   refine S.skipG 0 rfl rfl rfl rfl rfl rfl fun a w G S=>?_
   refine S.skipG 1 rfl rfl rfl rfl rfl rfl fun a w G S=>?_
   refine S.skipG 2 rfl rfl rfl rfl rfl rfl fun a w G S=>?_
   refine S.s (τ:=BT true) (OpR.pick S.ok rfl (S.e 3 rfl) rfl) rfl fun a w G S=>?_
   refine wpList_nil (hK _ _ ?_);clear hK K
   replace S:=S.d12.d11.d10.d9.d8.d7.d6.d5.d4.d3.d2.d1
   refine wp_cond_true (S.e 0 rfl) ?_
   refine wp_seq_k fun K hK=>?_
   refine wp_reg fun K hK=>?_
   refine S.s (OpR.mv S.ok rfl (S.g 2 rfl)) rfl fun a w G S=>?_
   refine S.s (OpR.zeql S.ok rfl (S.e 0 rfl) (rfl : _ = nv .i64 0) MT.self) rfl fun a w G S=>?_
   refine wpList_nil (hK _ _ ?_);clear hK K
   replace S:=S.d1
   refine S.cond 0 rfl (fun hc9=>?_) (fun hc9=>?_)
   ·
    have hp10:=of_decide_eq_true hc9
    refine wp_reg fun K hK=>?_
    refine S.s (OpR.mv S.ok rfl (S.g 2 rfl)) rfl fun a w G S=>?_
    replace S:=S.d5
    refine S.s (OpR.asn S.ok rfl (S.g 0 rfl)) rfl fun a w G S=>?_
    refine wpList_nil (hK _ _ ?_);clear hK K
    replace S:=S.d1
    exact wp_ret (then_ret (then_ret (S.retTmp rfl ((S.e 0 rfl).trans (iv_eq (by first | (exfalso;omega) | (unfold surdsF;first | rw [if_pos (by omega),if_pos (by omega)] | rw [if_pos (by omega),if_neg (by omega)] | rw [if_neg (by omega)])))))))
   ·
    have hp11:=of_decide_eq_false hc9
    refine wp_skip ?_
    refine hK _ _ ?_;clear hK K
    refine wp_reg fun K hK=>?_
    refine S.s (OpR.mv S.ok rfl (S.g 3 rfl)) rfl fun a w G S=>?_
    replace S:=S.d5
    refine S.s (OpR.asn S.ok rfl (S.g 0 rfl)) rfl fun a w G S=>?_
    refine wpList_nil (hK _ _ ?_);clear hK K
    replace S:=S.d1
    exact wp_ret (then_ret (S.retTmp rfl ((S.e 0 rfl).trans (iv_eq (by first | (exfalso;omega) | (unfold surdsF;first | rw [if_pos (by omega),if_pos (by omega)] | rw [if_pos (by omega),if_neg (by omega)] | rw [if_neg (by omega)]))))))
  ·
   have hp12:=of_decide_eq_false hc7
   replace S:=S.boolIs 0 rfl hc7
   refine S.stepG 0 (OpR.mv S.ok rfl (S.g 10 rfl)) rfl rfl rfl rfl rfl rfl fun a w G S=>?_
   refine S.stepG 1 (OpR.mv S.ok rfl (S.g 10 rfl)) rfl rfl rfl rfl rfl rfl fun a w G S=>?_
   refine S.stepG 2 (OpR.zeql S.ok rfl (S.e 1 rfl) (S.e 0 rfl) MT.self) rfl rfl rfl rfl rfl rfl fun a w G S=>?_
   refine S.s (τ:=BT (decide ((surdF x y d) = (z.num.sign * e.num.sign)))) (OpR.pick S.ok rfl (S.e 3 rfl) (S.g 0 rfl)) rfl fun a w G S=>?_
   refine wpList_nil (hK _ _ ?_);clear hK K
   replace S:=S.d12.d11.d10.d9.d8.d7.d6.d5.d4.d3.d2.d1
   refine S.cond 0 rfl (fun hc13=>?_) (fun hc13=>?_)
   ·
    have hp14:=of_decide_eq_true hc13
    refine wp_seq_k fun K hK=>?_
    refine wp_reg fun K hK=>?_
    refine S.s (OpR.mv S.ok rfl (S.g 2 rfl)) rfl fun a w G S=>?_
    refine S.s (OpR.zeql S.ok rfl (S.e 0 rfl) (rfl : _ = nv .i64 0) MT.self) rfl fun a w G S=>?_
    refine wpList_nil (hK _ _ ?_);clear hK K
    replace S:=S.d1
    refine S.cond 0 rfl (fun hc15=>?_) (fun hc15=>?_)
    ·
     have hp16:=of_decide_eq_true hc15
     refine wp_reg fun K hK=>?_
     refine S.s (OpR.mv S.ok rfl (S.g 2 rfl)) rfl fun a w G S=>?_
     replace S:=S.d5
     refine S.s (OpR.asn S.ok rfl (S.g 0 rfl)) rfl fun a w G S=>?_
     refine wpList_nil (hK _ _ ?_);clear hK K
     replace S:=S.d1
     exact wp_ret (then_ret (then_ret (S.retTmp rfl ((S.e 0 rfl).trans (iv_eq (by first | (exfalso;omega) | (unfold surdsF;first | rw [if_pos (by omega),if_pos (by omega)] | rw [if_pos (by omega),if_neg (by omega)] | rw [if_neg (by omega)])))))))
    ·
     have hp17:=of_decide_eq_false hc15
     refine wp_skip ?_
     refine hK _ _ ?_;clear hK K
     refine wp_reg fun K hK=>?_
     refine S.s (OpR.mv S.ok rfl (S.g 3 rfl)) rfl fun a w G S=>?_
     replace S:=S.d5
     refine S.s (OpR.asn S.ok rfl (S.g 0 rfl)) rfl fun a w G S=>?_
     refine wpList_nil (hK _ _ ?_);clear hK K
     replace S:=S.d1
     exact wp_ret (then_ret (S.retTmp rfl ((S.e 0 rfl).trans (iv_eq (by first | (exfalso;omega) | (unfold surdsF;first | rw [if_pos (by omega),if_pos (by omega)] | rw [if_pos (by omega),if_neg (by omega)] | rw [if_neg (by omega)]))))))
   ·
    have hp18:=of_decide_eq_false hc13
    refine wp_skip ?_
    refine hK _ _ ?_;clear hK K
    refine wp_seq_k fun K hK=>?_
    refine S.drawn [⟨39,.g (QV n0 x),[]⟩,⟨40,.g (QV n0 x),[]⟩,⟨41,.g (QC (n0 + n0) (x * x)),[0,1]⟩,⟨42,.g (QV n1 y),[]⟩,⟨43,.g (QV n1 y),[]⟩,⟨44,.g (QC (n1 + n1) (y * y)),[3,4]⟩,⟨45,.g (QV n2 d),[]⟩,⟨46,.g (QC ((n1 + n1) + n2) ((y * y) * d)),[5,6]⟩,⟨47,.g (QC ((n0 + n0) + ((n1 + n1) + n2) + 1) ((x * x) + ((y * y) * d))),[2,7]⟩,⟨13,.al mkP 24 (some 3) (MT.ex (.agg #[.bool false,.slice none 0 0,.slice none 0 0])),[]⟩] mixedOrders (by kernel_rfl)
     ⟨fun a w G S=>.of rfl (OpR.ldBox S.ok rfl (S.e 8 rfl) (S.box 4 rfl) tS_24),
      fun a w G S=>.of rfl (OpR.ldBox S.ok rfl (S.e 8 rfl) (S.box 4 rfl) tS_24),
      fun a w G S=>.of rfl (OpR.call2 rfl c_34 (gMul_ok S.ok (S.g 0 rfl) (S.g 1 rfl) (by omega))),
      fun a w G S=>.of rfl (OpR.ldBox S.ok rfl (S.e 7 rfl) (S.box 3 rfl) tS_24),
      fun a w G S=>.of rfl (OpR.ldBox S.ok rfl (S.e 7 rfl) (S.box 3 rfl) tS_24),
      fun a w G S=>.of rfl (OpR.call2 rfl c_34 (gMul_ok S.ok (S.g 0 rfl) (S.g 1 rfl) (by omega))),
      fun a w G S=>.of rfl (OpR.ldBox S.ok rfl (S.e 6 rfl) (S.box 2 rfl) tS_24),
      fun a w G S=>.of rfl (OpR.call2 rfl c_34 (gMul_ok S.ok (QC.toQV (S.g 0 rfl)) (S.g 1 rfl) (by omega))),
      fun a w G S=>.of rfl (OpR.call2 rfl c_32 (gAdd_ok S.ok (QC.toQV (S.g 0 rfl)) (QC.toQV (S.g 1 rfl)) (by omega))),
      ⟨fun _=>rfl,rfl,fun a w G S=>OpB.alloc S.ok rfl z_24 zs_24⟩,trivial⟩ fun β a w G S=>?_
    replace S : St W0 G0 65 [(13,PB (β 9)),(47,QC ((n0 + n0) + ((n1 + n1) + n2) + 1) ((x * x) + ((y * y) * d))),(46,QC ((n1 + n1) + n2) ((y * y) * d)),(45,QV n2 d),(44,QC (n1 + n1) (y * y)),(43,QV n1 y),(42,QV n1 y),(41,QC (n0 + n0) (x * x)),(40,QV n0 x),(39,QV n0 x),(34,BT (decide ((surdF x y d) = (z.num.sign * e.num.sign)))),(12,IT (z.num.sign * e.num.sign)),(11,IT (surdF x y d)),(10,NT 0),(9,PB b9),(8,PB b8),(7,PB b7),(6,PB b6),(5,PB b5)] [⟨(β 9),24,some 3,MT.ex ((.agg #[.bool false,.slice none 0 0,.slice none 0 0] : Value))⟩,⟨b9,24,some 3,QV n4 e⟩,⟨b8,24,some 3,QV n3 z⟩,⟨b7,24,some 3,QV n2 d⟩,⟨b6,24,some 3,QV n1 y⟩,⟨b5,24,some 3,QV n0 x⟩] a _ _:=S
    generalize β 9 = b13 at S
    refine S.store (τ:=QC ((n0 + n0) + ((n1 + n1) + n2) + 1) ((x * x) + ((y * y) * d))) 0 rfl rfl rfl rfl (S.e 0 rfl) tS_24 (S.g 1 rfl) (sh (τ:=QC ((n0 + n0) + ((n1 + n1) + n2) + 1) ((x * x) + ((y * y) * d))) (S.g 1 rfl)) fun w S=>?_
    replace S:=S.n0
    refine wpList_nil (hK _ _ ?_);clear hK K
    replace S:=S.d9.d8.d7.d6.d5.d4.d3.d2.d1
    refine wp_seq_k fun K hK=>?_
    refine S.drawn [⟨48,.g (QC 64 2),[]⟩,⟨49,.g (QV n0 x),[]⟩,⟨50,.g (QV n1 y),[]⟩,⟨51,.g (QC (n0 + n1) (x * y)),[1,2]⟩,⟨52,.g (QC (64 + (n0 + n1)) (2 * (x * y))),[0,3]⟩,⟨14,.al mkP 24 (some 3) (MT.ex (.agg #[.bool false,.slice none 0 0,.slice none 0 0])),[]⟩] mixedOrders (by kernel_rfl)
     ⟨fun a w G S=>.of rfl (OpR.conv' (OpR.call1 rfl c_21 (gOf_ok S.ok ((rfl : _ = nv .i64 2).trans (iv_eq (by first | rfl | omega | (simp only [Nat.zero_add,Nat.add_zero];done) | (simp;done) | (push_cast;omega)))) (by omega))) fun _ _ h=>(QC.eq h (by rfl))),
      fun a w G S=>.of rfl (OpR.ldBox S.ok rfl (S.e 9 rfl) (S.box 5 rfl) tS_24),
      fun a w G S=>.of rfl (OpR.ldBox S.ok rfl (S.e 8 rfl) (S.box 4 rfl) tS_24),
      fun a w G S=>.of rfl (OpR.call2 rfl c_34 (gMul_ok S.ok (S.g 0 rfl) (S.g 1 rfl) (by omega))),
      fun a w G S=>.of rfl (OpR.call2 rfl c_34 (gMul_ok S.ok (QC.toQV (S.g 0 rfl)) (QC.toQV (S.g 1 rfl)) (by omega))),
      ⟨fun _=>rfl,rfl,fun a w G S=>OpB.alloc S.ok rfl z_24 zs_24⟩,trivial⟩ fun β a w G S=>?_
    replace S : St W0 G0 65 [(14,PB (β 5)),(52,QC (64 + (n0 + n1)) (2 * (x * y))),(51,QC (n0 + n1) (x * y)),(50,QV n1 y),(49,QV n0 x),(48,QC 64 2),(13,PB b13),(34,BT (decide ((surdF x y d) = (z.num.sign * e.num.sign)))),(12,IT (z.num.sign * e.num.sign)),(11,IT (surdF x y d)),(10,NT 0),(9,PB b9),(8,PB b8),(7,PB b7),(6,PB b6),(5,PB b5)] [⟨(β 5),24,some 3,MT.ex ((.agg #[.bool false,.slice none 0 0,.slice none 0 0] : Value))⟩,⟨b13,24,some 3,QC ((n0 + n0) + ((n1 + n1) + n2) + 1) ((x * x) + ((y * y) * d))⟩,⟨b9,24,some 3,QV n4 e⟩,⟨b8,24,some 3,QV n3 z⟩,⟨b7,24,some 3,QV n2 d⟩,⟨b6,24,some 3,QV n1 y⟩,⟨b5,24,some 3,QV n0 x⟩] a _ _:=S
    generalize β 5 = b14 at S
    refine S.store (τ:=QC (64 + (n0 + n1)) (2 * (x * y))) 0 rfl rfl rfl rfl (S.e 0 rfl) tS_24 (S.g 1 rfl) (sh (τ:=QC (64 + (n0 + n1)) (2 * (x * y))) (S.g 1 rfl)) fun w S=>?_
    replace S:=S.n0
    refine wpList_nil (hK _ _ ?_);clear hK K
    replace S:=S.d5.d4.d3.d2.d1
    refine wp_seq_k fun K hK=>?_
    replace S:=S.d5
    refine S.drawn [⟨53,.g (IT (surdF x y d)),[]⟩,⟨54,.g (QC ((n0 + n0) + ((n1 + n1) + n2) + 1) ((x * x) + ((y * y) * d))),[]⟩,⟨55,.g (QV n3 z),[]⟩,⟨56,.g (QV n3 z),[]⟩,⟨57,.g (QC (n3 + n3) (z * z)),[2,3]⟩,⟨58,.g (QV n4 e),[]⟩,⟨59,.g (QC ((n3 + n3) + n4) ((z * z) * e)),[4,5]⟩,⟨60,.g (QC (((n0 + n0) + ((n1 + n1) + n2) + 1) + ((n3 + n3) + n4) + 1) (((x * x) + ((y * y) * d)) - ((z * z) * e))),[1,6]⟩,⟨61,.g (QC (64 + (n0 + n1)) (2 * (x * y))),[]⟩,⟨62,.g (QV n2 d),[]⟩,⟨63,.g (IT (surdF (((x * x) + ((y * y) * d)) - ((z * z) * e)) (2 * (x * y)) d)),[7,8,9]⟩,⟨64,.g (IT (surdF x y d * surdF (x * x + y * y * d - z * z * e) (2 * (x * y)) d)),[0,10]⟩,⟨10,.g (IT (surdF x y d * surdF (x * x + y * y * d - z * z * e) (2 * (x * y)) d)),[11]⟩] mixedOrders (by kernel_rfl)
     ⟨fun a w G S=>.of rfl (OpR.mv S.ok rfl (S.g 4 rfl)),
      fun a w G S=>.of rfl (OpR.ldBox S.ok rfl (S.e 1 rfl) (S.box 1 rfl) tS_24),
      fun a w G S=>.of rfl (OpR.ldBox S.ok rfl (S.e 6 rfl) (S.box 3 rfl) tS_24),
      fun a w G S=>.of rfl (OpR.ldBox S.ok rfl (S.e 6 rfl) (S.box 3 rfl) tS_24),
      fun a w G S=>.of rfl (OpR.call2 rfl c_34 (gMul_ok S.ok (S.g 0 rfl) (S.g 1 rfl) (by omega))),
      fun a w G S=>.of rfl (OpR.ldBox S.ok rfl (S.e 5 rfl) (S.box 2 rfl) tS_24),
      fun a w G S=>.of rfl (OpR.call2 rfl c_34 (gMul_ok S.ok (QC.toQV (S.g 0 rfl)) (S.g 1 rfl) (by omega))),
      fun a w G S=>.of rfl (OpR.call2 rfl c_31 (gSub_ok S.ok (QC.toQV (S.g 0 rfl)) (QC.toQV (S.g 1 rfl)) (by omega))),
      fun a w G S=>.of rfl (OpR.ldBox S.ok rfl (S.e 0 rfl) (S.box 0 rfl) tS_24),
      fun a w G S=>.of rfl (OpR.ldBox S.ok rfl (S.e 7 rfl) (S.box 4 rfl) tS_24),
      fun a w G S=>.of rfl (OpR.call3 rfl c_57 (rSurd_ok S.ok (QC.toQV (S.g 0 rfl)) (QC.toQV (S.g 1 rfl)) (S.g 2 rfl) (by omega))),
      fun a w G S=>.of rfl (OpR.imul S.ok rfl (S.e 0 rfl) (S.e 1 rfl) (iw_i64 rfl (surd_mul_bd _ _ _ _ _ _))),
      fun a w G S=>.of rfl (OpR.asn S.ok rfl (S.g 0 rfl)),trivial⟩ fun β a w G S=>?_
    replace S : St W0 G0 65 [(10,IT (surdF x y d * surdF (x * x + y * y * d - z * z * e) (2 * (x * y)) d)),(64,IT (surdF x y d * surdF (x * x + y * y * d - z * z * e) (2 * (x * y)) d)),(63,IT (surdF (((x * x) + ((y * y) * d)) - ((z * z) * e)) (2 * (x * y)) d)),(62,QV n2 d),(61,QC (64 + (n0 + n1)) (2 * (x * y))),(60,QC (((n0 + n0) + ((n1 + n1) + n2) + 1) + ((n3 + n3) + n4) + 1) (((x * x) + ((y * y) * d)) - ((z * z) * e))),(59,QC ((n3 + n3) + n4) ((z * z) * e)),(58,QV n4 e),(57,QC (n3 + n3) (z * z)),(56,QV n3 z),(55,QV n3 z),(54,QC ((n0 + n0) + ((n1 + n1) + n2) + 1) ((x * x) + ((y * y) * d))),(53,IT (surdF x y d)),(14,PB b14),(13,PB b13),(34,BT (decide ((surdF x y d) = (z.num.sign * e.num.sign)))),(12,IT (z.num.sign * e.num.sign)),(11,IT (surdF x y d)),(9,PB b9),(8,PB b8),(7,PB b7),(6,PB b6),(5,PB b5)] [⟨b14,24,some 3,QC (64 + (n0 + n1)) (2 * (x * y))⟩,⟨b13,24,some 3,QC ((n0 + n0) + ((n1 + n1) + n2) + 1) ((x * x) + ((y * y) * d))⟩,⟨b9,24,some 3,QV n4 e⟩,⟨b8,24,some 3,QV n3 z⟩,⟨b7,24,some 3,QV n2 d⟩,⟨b6,24,some 3,QV n1 y⟩,⟨b5,24,some 3,QV n0 x⟩] a _ _:=S
    refine wpList_nil (hK _ _ ?_);clear hK K
    replace S:=S.d12.d11.d10.d9.d8.d7.d6.d5.d4.d3.d2.d1
    exact wp_ret (S.retTmp rfl ((S.e 0 rfl).trans (iv_eq (by first | (exfalso;omega) | (unfold surdsF;first | rw [if_pos (by omega),if_pos (by omega)] | rw [if_pos (by omega),if_neg (by omega)] | rw [if_neg (by omega)])))))
theorem rsums_ok {n0 n1 n2 n3 : Nat} {x y d z : Rat} {v1 v2 v3 v4 : Value} {W0 : World} {G0 : Gh} (hok : Gok W0 G0) (h1 : (QV n0 x).t v1 G0) (h2 : (QV n1 y).t v2 G0) (h3 : (QV n2 d).t v3 G0) (h4 : (QV n3 z).t v4 G0) (hn : 20 * n0 + 20 * n1 + 20 * n2 + 20 * n3 + 5000 ≤ BIG) : Calls Tryz.prog 38 #[v1,v2,v3,v4] W0 (Ret W0 G0 (IT (sumsF x y d z))):=by
 refine St.enter (N:=30) (L:=[(3,QV n3 z),(2,QV n2 d),(1,QV n1 y),(0,QV n0 x)]) (args:=[v1,v2,v3,v4]) Tryz.func38 rfl rfl rfl hok (enter4 h1 h2 h3 h4) fun a S=>?_
 refine wp_reg fun K hK=>?_
 refine S.boxop (x:=.tmp 0) (τ:=QV n0 x) (S.g 3 rfl) (sh (τ:=QV n0 x) (S.g 3 rfl)) rfl rfl rfl rfl rfl fun b4 a w G S=>?_
 refine S.boxop (x:=.tmp 1) (τ:=QV n1 y) (S.g 3 rfl) (sh (τ:=QV n1 y) (S.g 3 rfl)) rfl rfl rfl rfl rfl fun b5 a w G S=>?_
 refine S.boxop (x:=.tmp 2) (τ:=QV n2 d) (S.g 3 rfl) (sh (τ:=QV n2 d) (S.g 3 rfl)) rfl rfl rfl rfl rfl fun b6 a w G S=>?_
 refine S.boxop (x:=.tmp 3) (τ:=QV n3 z) (S.g 3 rfl) (sh (τ:=QV n3 z) (S.g 3 rfl)) rfl rfl rfl rfl rfl fun b7 a w G S=>?_
 refine S.s (τ:=NT 0) (OpR.asn S.ok rfl (rfl : _ = nv .i64 0)) rfl fun a w G S=>?_
 refine wpList_nil (hK _ _ ?_);clear hK K
 replace S:=S.d8.d7.d6.d5
 refine wp_reg fun K hK=>?_
 refine S.s (τ:=QC 64 2) (OpR.conv' (OpR.call1 rfl c_21 (gOf_ok S.ok ((rfl : _ = nv .i64 2).trans (iv_eq (by first | rfl | omega | (simp only [Nat.zero_add,Nat.add_zero];done) | (simp;done) | (push_cast;omega)))) (by omega))) fun _ _ h=>(QC.eq h (by rfl))) rfl fun a w G S=>?_
 refine S.alloc rfl rfl rfl z_24 zs_24 rfl rfl fun b9 a w G S=>?_
 refine S.store (τ:=QC 64 2) 0 rfl rfl rfl rfl (S.e 0 rfl) tS_24 (S.g 1 rfl) (sh (τ:=QC 64 2) (S.g 1 rfl)) fun w S=>?_
 replace S:=S.n0
 refine wpList_nil (hK _ _ ?_);clear hK K
 replace S:=S.d1
 refine wp_seq_k fun K hK=>?_
 refine S.drawn [⟨12,.g (QV n0 x),[]⟩,⟨13,.g (QV n1 y),[]⟩,⟨14,.g (QC (n0 + n1 + 1) (x + y)),[0,1]⟩,⟨15,.g (QV n2 d),[]⟩,⟨16,.g (QV n3 z),[]⟩,⟨17,.g (QC (n2 + n3 + 1) (d + z)),[3,4]⟩,⟨18,.g (QC ((n0 + n1 + 1) + (n2 + n3 + 1) + 1) ((x + y) - (d + z))),[2,5]⟩,⟨10,.al mkP 24 (some 3) (MT.ex (.agg #[.bool false,.slice none 0 0,.slice none 0 0])),[]⟩] mixedOrders (by kernel_rfl)
  ⟨fun a w G S=>.of rfl (OpR.ldBox S.ok rfl (S.e 5 rfl) (S.box 4 rfl) tS_24),
   fun a w G S=>.of rfl (OpR.ldBox S.ok rfl (S.e 4 rfl) (S.box 3 rfl) tS_24),
   fun a w G S=>.of rfl (OpR.call2 rfl c_32 (gAdd_ok S.ok (S.g 0 rfl) (S.g 1 rfl) (by omega))),
   fun a w G S=>.of rfl (OpR.ldBox S.ok rfl (S.e 3 rfl) (S.box 2 rfl) tS_24),
   fun a w G S=>.of rfl (OpR.ldBox S.ok rfl (S.e 2 rfl) (S.box 1 rfl) tS_24),
   fun a w G S=>.of rfl (OpR.call2 rfl c_32 (gAdd_ok S.ok (S.g 0 rfl) (S.g 1 rfl) (by omega))),
   fun a w G S=>.of rfl (OpR.call2 rfl c_31 (gSub_ok S.ok (QC.toQV (S.g 0 rfl)) (QC.toQV (S.g 1 rfl)) (by omega))),
   ⟨fun _=>rfl,rfl,fun a w G S=>OpB.alloc S.ok rfl z_24 zs_24⟩,trivial⟩ fun β a w G S=>?_
 replace S : St W0 G0 30 [(10,PB (β 7)),(18,QC ((n0 + n1 + 1) + (n2 + n3 + 1) + 1) ((x + y) - (d + z))),(17,QC (n2 + n3 + 1) (d + z)),(16,QV n3 z),(15,QV n2 d),(14,QC (n0 + n1 + 1) (x + y)),(13,QV n1 y),(12,QV n0 x),(9,PB b9),(8,NT 0),(7,PB b7),(6,PB b6),(5,PB b5),(4,PB b4)] [⟨(β 7),24,some 3,MT.ex ((.agg #[.bool false,.slice none 0 0,.slice none 0 0] : Value))⟩,⟨b9,24,some 3,QC 64 2⟩,⟨b7,24,some 3,QV n3 z⟩,⟨b6,24,some 3,QV n2 d⟩,⟨b5,24,some 3,QV n1 y⟩,⟨b4,24,some 3,QV n0 x⟩] a _ _:=S
 generalize β 7 = b10 at S
 refine S.store (τ:=QC ((n0 + n1 + 1) + (n2 + n3 + 1) + 1) ((x + y) - (d + z))) 0 rfl rfl rfl rfl (S.e 0 rfl) tS_24 (S.g 1 rfl) (sh (τ:=QC ((n0 + n1 + 1) + (n2 + n3 + 1) + 1) ((x + y) - (d + z))) (S.g 1 rfl)) fun w S=>?_
 replace S:=S.n0
 refine wpList_nil (hK _ _ ?_);clear hK K
 replace S:=S.d7.d6.d5.d4.d3.d2.d1
 refine wp_seq_k fun K hK=>?_
 replace S:=S.d2
 refine S.drawn [⟨19,.g (QC ((n0 + n1 + 1) + (n2 + n3 + 1) + 1) ((x + y) - (d + z))),[]⟩,⟨20,.g (QC 64 2),[]⟩,⟨21,.g (QV n0 x),[]⟩,⟨22,.g (QV n1 y),[]⟩,⟨23,.g (QC (n0 + n1) (x * y)),[2,3]⟩,⟨24,.g (QC 64 2),[]⟩,⟨25,.g (QC 64 (-2)),[5]⟩,⟨26,.g (QV n2 d),[]⟩,⟨27,.g (QV n3 z),[]⟩,⟨28,.g (QC (n2 + n3) (d * z)),[7,8]⟩,⟨29,.g (IT (surdsF ((x + y) - (d + z)) 2 (x * y) (-2) (d * z))),[0,1,4,6,9]⟩,⟨8,.g (IT (surdsF ((x + y) - (d + z)) 2 (x * y) (-2) (d * z))),[10]⟩] mixedOrders (by kernel_rfl)
  ⟨fun a w G S=>.of rfl (OpR.ldBox S.ok rfl (S.e 0 rfl) (S.box 0 rfl) tS_24),
   fun a w G S=>.of rfl (OpR.ldBox S.ok rfl (S.e 1 rfl) (S.box 1 rfl) tS_24),
   fun a w G S=>.of rfl (OpR.ldBox S.ok rfl (S.e 5 rfl) (S.box 5 rfl) tS_24),
   fun a w G S=>.of rfl (OpR.ldBox S.ok rfl (S.e 4 rfl) (S.box 4 rfl) tS_24),
   fun a w G S=>.of rfl (OpR.call2 rfl c_34 (gMul_ok S.ok (S.g 0 rfl) (S.g 1 rfl) (by omega))),
   fun a w G S=>.of rfl (OpR.ldBox S.ok rfl (S.e 1 rfl) (S.box 1 rfl) tS_24),
   fun a w G S=>.of rfl (OpR.call1 rfl c_54 (gNeg_ok S.ok (QC.toQV (S.g 0 rfl)) (by omega))),
   fun a w G S=>.of rfl (OpR.ldBox S.ok rfl (S.e 3 rfl) (S.box 3 rfl) tS_24),
   fun a w G S=>.of rfl (OpR.ldBox S.ok rfl (S.e 2 rfl) (S.box 2 rfl) tS_24),
   fun a w G S=>.of rfl (OpR.call2 rfl c_34 (gMul_ok S.ok (S.g 0 rfl) (S.g 1 rfl) (by omega))),
   fun a w G S=>.of rfl (OpR.call5 rfl c_33 (rSurds_ok S.ok (QC.toQV (S.g 0 rfl)) (QC.toQV (S.g 1 rfl)) (QC.toQV (S.g 2 rfl)) (QC.toQV (S.g 3 rfl)) (QC.toQV (S.g 4 rfl)) (by omega))),
   fun a w G S=>.of rfl (OpR.asn S.ok rfl (S.g 0 rfl)),trivial⟩ fun β a w G S=>?_
 replace S : St W0 G0 30 [(8,IT (surdsF ((x + y) - (d + z)) 2 (x * y) (-2) (d * z))),(29,IT (surdsF ((x + y) - (d + z)) 2 (x * y) (-2) (d * z))),(28,QC (n2 + n3) (d * z)),(27,QV n3 z),(26,QV n2 d),(25,QC 64 (-2)),(24,QC 64 2),(23,QC (n0 + n1) (x * y)),(22,QV n1 y),(21,QV n0 x),(20,QC 64 2),(19,QC ((n0 + n1 + 1) + (n2 + n3 + 1) + 1) ((x + y) - (d + z))),(10,PB b10),(9,PB b9),(7,PB b7),(6,PB b6),(5,PB b5),(4,PB b4)] [⟨b10,24,some 3,QC ((n0 + n1 + 1) + (n2 + n3 + 1) + 1) ((x + y) - (d + z))⟩,⟨b9,24,some 3,QC 64 2⟩,⟨b7,24,some 3,QV n3 z⟩,⟨b6,24,some 3,QV n2 d⟩,⟨b5,24,some 3,QV n1 y⟩,⟨b4,24,some 3,QV n0 x⟩] a _ _:=S
 refine wpList_nil (hK _ _ ?_);clear hK K
 replace S:=S.d11.d10.d9.d8.d7.d6.d5.d4.d3.d2.d1
 exact wp_ret (S.retTmp rfl ((S.e 0 rfl).trans (iv_eq rfl)))
end Go.Proofs.YtdeihehaheelmaaGreat
namespace Go.Proofs.YtdeihehaheelmaaGreat
set_option maxHeartbeats 1000000
set_option maxRecDepth 100000
open Go.RowKit (Below)
private theorem ap_57 : ∀ {u0 : Value} {u1 : Value} {u2 : Value} {u3 : Value} (h0 : ∃ z,u0 = Value.int .i64 z) (h1 : ∃ z,u1 = Value.int .i64 z) (h2 : ∃ z,u2 = Value.int .i64 z) (h3 : ∃ z,u3 = Value.int .i64 z),Tryz.prog.built 57 [(0,u0),(1,u1),(2,u2),(3,u3)] = some (flat [u0,u1,u2,u3]).toArray:=by
 intro u0 u1 u2 u3 h0 h1 h2 h3
 obtain ⟨z0,rfl⟩:=h0
 obtain ⟨z1,rfl⟩:=h1
 obtain ⟨z2,rfl⟩:=h2
 obtain ⟨z3,rfl⟩:=h3
 kernel_rfl
private theorem c_12 : callable Tryz.prog 12 = true:=by kernel_rfl
private theorem c_28 : callable Tryz.prog 28 = true:=by kernel_rfl
private theorem c_30 : callable Tryz.prog 30 = true:=by kernel_rfl
private theorem c_38 : callable Tryz.prog 38 = true:=by kernel_rfl
private theorem tS_3 : tyS Tryz.prog 3 (none) = true:=by kernel_rfl
private theorem tS_57 : tyS Tryz.prog 57 (some 4) = true:=by kernel_rfl
private theorem z_57 : (Tryz.prog.info? 57).bind (·.zero) = some (.agg #[.int .i64 0,.int .i64 0,.int .i64 0,.int .i64 0]):=by kernel_rfl
private theorem zs_57 : Shaped (some 4) (.agg #[.int .i64 0,.int .i64 0,.int .i64 0,.int .i64 0]):=⟨_,rfl,rfl,by simp [Value.oneCell']⟩
theorem rSorted_ok {n : Nat} {rg ra rb rc : FR} {v1 : Value} {W0 : World} {G0 : Gh} (hok : Gok W0 G0) (h1 : (PTS [(some 3,FX n rg),(some 3,FX n ra),(some 3,FX n rb),(some 3,FX n rc)]).t v1 G0) (hn : 1000 * n + 10000 ≤ BIG) (hn1 : 1 ≤ n) : Calls Tryz.prog 30 #[v1] W0 (Ret W0 G0 (ARN (none) ((orderF ([rg,ra,rb,rc].map FR.val)).map NT))):=by
 refine St.enter (N:=42) (L:=[(0,PTS [(some 3,FX n rg),(some 3,FX n ra),(some 3,FX n rb),(some 3,FX n rc)])]) (args:=[v1]) Tryz.func30 rfl rfl rfl hok (enter1 h1) fun a S=>?_
 refine wp_reg fun K hK=>?_
 refine S.boxop (x:=.tmp 0) (τ:=PTS [(some 3,FX n rg),(some 3,FX n ra),(some 3,FX n rb),(some 3,FX n rc)]) (S.g 0 rfl) (sh (τ:=PTS [(some 3,FX n rg),(some 3,FX n ra),(some 3,FX n rb),(some 3,FX n rc)]) (S.g 0 rfl)) rfl rfl rfl rfl rfl fun b1 a w G S=>?_
 refine S.alloc rfl rfl rfl z_57 zs_57 rfl rfl fun b2 a w G S=>?_
 refine wpList_nil (hK _ _ ?_);clear hK K
 replace S:=S.d2
 refine wp_reg fun K hK=>?_
 refine S.s (OpR.ldBox S.ok rfl (S.e 1 rfl) (S.box 1 rfl) tS_26) rfl fun a w G S=>?_
 refine S.s (τ:=ARN (some 3) (([rg,ra,rb,rc]).map (FX n))) (OpR.call1 rfl c_23 (rSquares_ok S.ok (S.g 0 rfl))) rfl fun a w G S=>?_
 refine S.s (τ:=ARN (none) (([0,1,2,3]).map NT)) (OpR.conv' (OpR.bldP (us:=[Value.int .i64 (0),Value.int .i64 (1),Value.int .i64 (2),Value.int .i64 (3)]) (fs:=(List.map NT [0,1,2,3]).map fun τ=>(none,τ)) S.ok rfl (by simp only [List.map_toArray,List.map_cons,List.map_nil];exact ap_57 (u0:=Value.int .i64 (0)) (u1:=Value.int .i64 (1)) (u2:=Value.int .i64 (2)) (u3:=Value.int .i64 (3)) ⟨_,(rfl : _ = nv .i64 0)⟩ ⟨_,(rfl : _ = nv .i64 1)⟩ ⟨_,(rfl : _ = nv .i64 2)⟩ ⟨_,(rfl : _ = nv .i64 3)⟩) rfl (pts_cons (sh (τ:=NT 0) (G:=fun _=>none) (rfl : _ = nv .i64 0)) (rfl : _ = nv .i64 0) (pts_cons (sh (τ:=NT 1) (G:=fun _=>none) (rfl : _ = nv .i64 1)) (rfl : _ = nv .i64 1) (pts_cons (sh (τ:=NT 2) (G:=fun _=>none) (rfl : _ = nv .i64 2)) (rfl : _ = nv .i64 2) (pts_cons (sh (τ:=NT 3) (G:=fun _=>none) (rfl : _ = nv .i64 3)) (rfl : _ = nv .i64 3) pts_nil))))) fun _ _ h=>PTS.arn h) rfl fun a w G S=>?_
 refine S.alloc rfl rfl rfl z_49 zs_49 rfl rfl fun b3 a w G S=>?_
 refine S.alloc rfl rfl rfl z_57 zs_57 rfl rfl fun b4 a w G S=>?_
 refine S.store (τ:=ARN (some 3) (([rg,ra,rb,rc]).map (FX n))) 1 rfl rfl rfl rfl (S.e 1 rfl) tS_49 (S.g 3 rfl) (sh (τ:=ARN (some 3) (([rg,ra,rb,rc]).map (FX n))) (S.g 3 rfl)) fun w S=>?_
 replace S:=S.n1
 replace S:=(S.castBox (τ':=ROWS (some 3) (([rg,ra,rb,rc]).map (FX n))) 1 rfl fun _ h _=>ARN.rows h).n1
 refine S.store (τ:=ARN (none) (([0,1,2,3]).map NT)) 0 rfl rfl rfl rfl (S.e 0 rfl) tS_57 (S.g 2 rfl) (sh (τ:=ARN (none) (([0,1,2,3]).map NT)) (S.g 2 rfl)) fun w S=>?_
 replace S:=S.n0
 replace S:=(S.castBox (τ':=ROWS (none) (([0,1,2,3]).map NT)) 0 rfl fun _ h _=>ARN.rows h).n0
 refine wpList_nil (hK _ _ ?_);clear hK K
 replace S:=S.d6.d4.d3.d2
 refine wp_seq_k fun K hK=>?_
 refine wp_reg fun K hK=>?_
 refine S.s (τ:=NT 0) (OpR.mv S.ok rfl (rfl : _ = nv .i64 0)) rfl fun a w G S=>?_
 refine wpList_nil (hK _ _ ?_);clear hK K
 refine wp_block ?_
 replace S:=S.castBox (τ':=ROWS (none) ((bub ([rg,ra,rb,rc].map FR.val) 0).map NT)) 0 rfl fun _ h _=>(ROWS.eqM h rfl)
 replace S:=S.n0
 refine wp_loopJ (fun μ a w=>∃ (p : Nat) (G : Gh),μ = 4 - p ∧ (p ≤ 4) ∧  St W0 G0 42 [(9,NT p),(4,PB b4),(3,PB b3),(2,PB b2)] [⟨b4,57,some 4,ROWS (none) ((bub ([rg,ra,rb,rc].map FR.val) p).map NT)⟩,⟨b3,49,some 12,ROWS (some 3) (([rg,ra,rb,rc]).map (FX n))⟩,⟨b2,57,some 4,MT.ex ((.agg #[.int .i64 0,.int .i64 0,.int .i64 0,.int .i64 0] : Value))⟩,⟨b1,26,some 12,PTS [(some 3,FX n rg),(some 3,FX n ra),(some 3,FX n rb),(some 3,FX n rc)]⟩] a w G) (4 - 0) ⟨0,_,rfl,(by omega),(S.keep [0,1,2,3]).keepB [0,1,2,3] (by decide)⟩ ?_
 clear S
 intro μ a w ⟨p,G,hm,hp,S⟩
 refine wp_reg fun K hK=>?_
 refine S.s (OpR.nlss S.ok rfl (S.e 0 rfl) (rfl : _ = nv .i64 4) MT.self) rfl fun a w G S=>?_
 refine wpList_nil (hK _ _ ?_);clear hK K
 refine wp_seq_k fun K hK=>?_
 refine S.cond 0 rfl (fun hc1=>?_) (fun hc1=>?_)
 ·
  have hp2:=of_decide_eq_true hc1
  refine wp_skip ?_
  refine hK _ _ ?_;clear hK K
  refine wp_seq_k fun K hK=>?_
  refine wp_block ?_
  refine wp_reg fun K hK=>?_
  refine S.s (τ:=NT 0) (OpR.mv S.ok rfl (rfl : _ = nv .i64 0)) rfl fun a w G S=>?_
  refine wpList_nil (hK _ _ ?_);clear hK K
  refine wp_block ?_
  replace S:=S.castBox (τ':=ROWS (none) ((bubP ([rg,ra,rb,rc].map FR.val) (bub ([rg,ra,rb,rc].map FR.val) p) 0).map NT)) 0 rfl fun _ h _=>(ROWS.eqM h rfl)
  replace S:=S.n0
  refine wp_loopJ (fun μ a w=>∃ (j : Nat) (G : Gh),μ = 3 - j ∧ (j ≤ 3) ∧  St W0 G0 42 [(11,NT j),(10,BT (decide (p < 4))),(9,NT p),(4,PB b4),(3,PB b3),(2,PB b2)] [⟨b4,57,some 4,ROWS (none) ((bubP ([rg,ra,rb,rc].map FR.val) (bub ([rg,ra,rb,rc].map FR.val) p) j).map NT)⟩,⟨b3,49,some 12,ROWS (some 3) (([rg,ra,rb,rc]).map (FX n))⟩,⟨b2,57,some 4,MT.ex ((.agg #[.int .i64 0,.int .i64 0,.int .i64 0,.int .i64 0] : Value))⟩,⟨b1,26,some 12,PTS [(some 3,FX n rg),(some 3,FX n ra),(some 3,FX n rb),(some 3,FX n rc)]⟩] a w G) (3 - 0) ⟨0,_,rfl,(by omega),(S.keep [0,1,2,3,4,5]).keepB [0,1,2,3] (by decide)⟩ ?_
  clear S
  intro μ a w ⟨j,G,hm,hj,S⟩
  have hql : (bubP ([rg,ra,rb,rc].map FR.val) (bub ([rg,ra,rb,rc].map FR.val) p) j).length = 4:=bubP_len (bub_len p) j
  have hq1 : (bubP ([rg,ra,rb,rc].map FR.val) (bub ([rg,ra,rb,rc].map FR.val) p) j).getD j default < 4:=getD_lt (bubP_lt (bub_len p) (bub_lt p) j hj) (by decide)
  have hq2 : (bubP ([rg,ra,rb,rc].map FR.val) (bub ([rg,ra,rb,rc].map FR.val) p) j).getD (j + 1) default < 4:=getD_lt (bubP_lt (bub_len p) (bub_lt p) j hj) (by decide)
  refine wp_reg fun K hK=>?_
  refine S.s (OpR.nlss S.ok rfl (S.e 0 rfl) (rfl : _ = nv .i64 3) MT.self) rfl fun a w G S=>?_
  refine wpList_nil (hK _ _ ?_);clear hK K
  refine wp_seq_k fun K hK=>?_
  refine S.cond 0 rfl (fun hc3=>?_) (fun hc3=>?_)
  ·
   have hp4:=of_decide_eq_true hc3
   refine wp_skip ?_
   refine hK _ _ ?_;clear hK K
   refine wp_seq_k fun K hK=>?_
   refine wp_block ?_
   refine wp_reg fun K hK=>?_
   refine S.s (OpR.mv S.ok rfl (S.g 1 rfl)) rfl fun a w G S=>?_
   refine S.s (OpR.asn S.ok rfl (S.g 0 rfl)) rfl fun a w G S=>?_
   refine wpList_nil (hK _ _ ?_);clear hK K
   replace S:=S.d1
   refine wp_seq_k fun K hK=>?_
   refine S.drawn [⟨14,.g (NT j),[]⟩,⟨15,.g (MT.ex (Value.pointer (some ⟨b4,(j) * (none : Option Nat).getD 1,none⟩))),[0]⟩,⟨16,.g (NT ((bubP ([rg,ra,rb,rc].map FR.val) (bub ([rg,ra,rb,rc].map FR.val) p) j).getD j default)),[1]⟩,⟨17,.g (MT.ex (Value.pointer (some ⟨b3,((bubP ([rg,ra,rb,rc].map FR.val) (bub ([rg,ra,rb,rc].map FR.val) p) j).getD j default) * (some 3 : Option Nat).getD 1,none⟩))),[2]⟩,⟨18,.g (FX n (([rg,ra,rb,rc]).getD ((bubP ([rg,ra,rb,rc].map FR.val) (bub ([rg,ra,rb,rc].map FR.val) p) j).getD j default) default)),[3]⟩,⟨19,.g (NT j),[]⟩,⟨20,.g (NT (j + 1)),[5]⟩,⟨21,.g (MT.ex (Value.pointer (some ⟨b4,(j + 1) * (none : Option Nat).getD 1,none⟩))),[6]⟩,⟨22,.g (NT ((bubP ([rg,ra,rb,rc].map FR.val) (bub ([rg,ra,rb,rc].map FR.val) p) j).getD (j + 1) default)),[7]⟩,⟨23,.g (MT.ex (Value.pointer (some ⟨b3,((bubP ([rg,ra,rb,rc].map FR.val) (bub ([rg,ra,rb,rc].map FR.val) p) j).getD (j + 1) default) * (some 3 : Option Nat).getD 1,none⟩))),[8]⟩,⟨24,.g (FX n (([rg,ra,rb,rc]).getD ((bubP ([rg,ra,rb,rc].map FR.val) (bub ([rg,ra,rb,rc].map FR.val) p) j).getD (j + 1) default) default)),[9]⟩,⟨25,.g (IT (cmpQ ((([rg,ra,rb,rc]).getD ((bubP ([rg,ra,rb,rc].map FR.val) (bub ([rg,ra,rb,rc].map FR.val) p) j).getD j default) default).val) ((([rg,ra,rb,rc]).getD ((bubP ([rg,ra,rb,rc].map FR.val) (bub ([rg,ra,rb,rc].map FR.val) p) j).getD (j + 1) default) default).val))),[4,10]⟩,⟨26,.g (BT (decide (cmpQ (([rg,ra,rb,rc].map FR.val).getD ((bubP ([rg,ra,rb,rc].map FR.val) (bub ([rg,ra,rb,rc].map FR.val) p) j).getD j default) default) (([rg,ra,rb,rc].map FR.val).getD ((bubP ([rg,ra,rb,rc].map FR.val) (bub ([rg,ra,rb,rc].map FR.val) p) j).getD (j + 1) default) default) > 0))),[11]⟩] mixedOrders (by kernel_rfl)
    ⟨fun a w G S=>.of rfl (OpR.mv S.ok rfl (S.g 0 rfl)),
     fun a w G S=>.of rfl (OpR.ixAr (i:=j) S.ok rfl Tryz.underlying57 tS_3 (S.e 6 rfl) (S.e 0 rfl) rfl (by first | omega | (rw [hql];omega) | (simp only [List.length_set,hql];omega)) rfl),
     fun a w G S=>.of rfl (OpR.ldSM (k:=none) (T:=NT) (xs:=bubP ([rg,ra,rb,rc].map FR.val) (bub ([rg,ra,rb,rc].map FR.val) p) j) (i:=j) S.ok rfl (S.e 0 rfl) (S.box 0 rfl) tS_3 (by first | omega | (rw [hql];omega) | (simp only [List.length_set,hql];omega))),
     fun a w G S=>.of rfl (OpR.ixAr (i:=(bubP ([rg,ra,rb,rc].map FR.val) (bub ([rg,ra,rb,rc].map FR.val) p) j).getD j default) S.ok rfl Tryz.underlying49 tS_24 (S.e 7 rfl) (S.e 0 rfl) rfl (by first | omega | (rw [hql];omega) | (simp only [List.length_set,hql];omega)) rfl),
     fun a w G S=>.of rfl (OpR.ldSM (k:=some 3) (T:=(FX n)) (xs:=[rg,ra,rb,rc]) (i:=(bubP ([rg,ra,rb,rc].map FR.val) (bub ([rg,ra,rb,rc].map FR.val) p) j).getD j default) S.ok rfl (S.e 0 rfl) (S.box 1 rfl) tS_24 (by first | omega | (rw [hql];omega) | (simp only [List.length_set,hql];omega))),
     fun a w G S=>.of rfl (OpR.mv S.ok rfl (S.g 0 rfl)),
     fun a w G S=>.of rfl (OpR.nadd S.ok rfl (S.e 0 rfl) (rfl : _ = nv .i64 1) (wr_i64 (by omega)) MT.self),
     fun a w G S=>.of rfl (OpR.ixAr (i:=j + 1) S.ok rfl Tryz.underlying57 tS_3 (S.e 6 rfl) (S.e 0 rfl) rfl (by first | omega | (rw [hql];omega) | (simp only [List.length_set,hql];omega)) rfl),
     fun a w G S=>.of rfl (OpR.ldSM (k:=none) (T:=NT) (xs:=bubP ([rg,ra,rb,rc].map FR.val) (bub ([rg,ra,rb,rc].map FR.val) p) j) (i:=j + 1) S.ok rfl (S.e 0 rfl) (S.box 0 rfl) tS_3 (by first | omega | (rw [hql];omega) | (simp only [List.length_set,hql];omega))),
     fun a w G S=>.of rfl (OpR.ixAr (i:=(bubP ([rg,ra,rb,rc].map FR.val) (bub ([rg,ra,rb,rc].map FR.val) p) j).getD (j + 1) default) S.ok rfl Tryz.underlying49 tS_24 (S.e 7 rfl) (S.e 0 rfl) rfl (by first | omega | (rw [hql];omega) | (simp only [List.length_set,hql];omega)) rfl),
     fun a w G S=>.of rfl (OpR.ldSM (k:=some 3) (T:=(FX n)) (xs:=[rg,ra,rb,rc]) (i:=(bubP ([rg,ra,rb,rc].map FR.val) (bub ([rg,ra,rb,rc].map FR.val) p) j).getD (j + 1) default) S.ok rfl (S.e 0 rfl) (S.box 1 rfl) tS_24 (by first | omega | (rw [hql];omega) | (simp only [List.length_set,hql];omega))),
     fun a w G S=>.of rfl (OpR.call2 rfl c_44 (gCmp_ok S.ok (FX.toQV (S.g 0 rfl)) (FX.toQV (S.g 1 rfl)) (by omega))),
     fun a w G S=>.of rfl (OpR.igtr S.ok rfl (S.e 0 rfl) (rfl : _ = nv .i64 0) (bv_eq (by rw [vgetD,vgetD];rfl))),trivial⟩ fun β a w G S=>?_
   replace S : St W0 G0 42 [(26,BT (decide (cmpQ (([rg,ra,rb,rc].map FR.val).getD ((bubP ([rg,ra,rb,rc].map FR.val) (bub ([rg,ra,rb,rc].map FR.val) p) j).getD j default) default) (([rg,ra,rb,rc].map FR.val).getD ((bubP ([rg,ra,rb,rc].map FR.val) (bub ([rg,ra,rb,rc].map FR.val) p) j).getD (j + 1) default) default) > 0))),(25,IT (cmpQ ((([rg,ra,rb,rc]).getD ((bubP ([rg,ra,rb,rc].map FR.val) (bub ([rg,ra,rb,rc].map FR.val) p) j).getD j default) default).val) ((([rg,ra,rb,rc]).getD ((bubP ([rg,ra,rb,rc].map FR.val) (bub ([rg,ra,rb,rc].map FR.val) p) j).getD (j + 1) default) default).val))),(24,FX n (([rg,ra,rb,rc]).getD ((bubP ([rg,ra,rb,rc].map FR.val) (bub ([rg,ra,rb,rc].map FR.val) p) j).getD (j + 1) default) default)),(23,MT.ex (Value.pointer (some ⟨b3,((bubP ([rg,ra,rb,rc].map FR.val) (bub ([rg,ra,rb,rc].map FR.val) p) j).getD (j + 1) default) * (some 3 : Option Nat).getD 1,none⟩))),(22,NT ((bubP ([rg,ra,rb,rc].map FR.val) (bub ([rg,ra,rb,rc].map FR.val) p) j).getD (j + 1) default)),(21,MT.ex (Value.pointer (some ⟨b4,(j + 1) * (none : Option Nat).getD 1,none⟩))),(20,NT (j + 1)),(19,NT j),(18,FX n (([rg,ra,rb,rc]).getD ((bubP ([rg,ra,rb,rc].map FR.val) (bub ([rg,ra,rb,rc].map FR.val) p) j).getD j default) default)),(17,MT.ex (Value.pointer (some ⟨b3,((bubP ([rg,ra,rb,rc].map FR.val) (bub ([rg,ra,rb,rc].map FR.val) p) j).getD j default) * (some 3 : Option Nat).getD 1,none⟩))),(16,NT ((bubP ([rg,ra,rb,rc].map FR.val) (bub ([rg,ra,rb,rc].map FR.val) p) j).getD j default)),(15,MT.ex (Value.pointer (some ⟨b4,(j) * (none : Option Nat).getD 1,none⟩))),(14,NT j),(5,NT j),(12,BT (decide (j < 3))),(11,NT j),(10,BT (decide (p < 4))),(9,NT p),(4,PB b4),(3,PB b3),(2,PB b2)] [⟨b4,57,some 4,ROWS (none) ((bubP ([rg,ra,rb,rc].map FR.val) (bub ([rg,ra,rb,rc].map FR.val) p) j).map NT)⟩,⟨b3,49,some 12,ROWS (some 3) (([rg,ra,rb,rc]).map (FX n))⟩,⟨b2,57,some 4,MT.ex ((.agg #[.int .i64 0,.int .i64 0,.int .i64 0,.int .i64 0] : Value))⟩,⟨b1,26,some 12,PTS [(some 3,FX n rg),(some 3,FX n ra),(some 3,FX n rb),(some 3,FX n rc)]⟩] a _ _:=S
   refine wpList_nil (hK _ _ ?_);clear hK K
   replace S:=S.d12.d11.d10.d9.d8.d7.d6.d5.d4.d3.d2.d1
   refine S.cond 0 rfl (fun hc5=>?_) (fun hc5=>?_)
   ·
    have hp6:=of_decide_eq_true hc5
    refine S.drawnS [⟨27,.g (NT j),[]⟩,⟨28,.g (NT j),[]⟩,⟨29,.g (NT (j + 1)),[1]⟩,⟨30,.g (NT j),[]⟩,⟨31,.g (NT (j + 1)),[3]⟩,⟨32,.g (MT.ex (Value.pointer (some ⟨b4,(j + 1) * (none : Option Nat).getD 1,none⟩))),[4]⟩,⟨33,.g (NT ((bubP ([rg,ra,rb,rc].map FR.val) (bub ([rg,ra,rb,rc].map FR.val) p) j).getD (j + 1) default)),[5]⟩,⟨34,.g (NT j),[]⟩,⟨35,.g (MT.ex (Value.pointer (some ⟨b4,(j) * (none : Option Nat).getD 1,none⟩))),[7]⟩,⟨36,.g (NT ((bubP ([rg,ra,rb,rc].map FR.val) (bub ([rg,ra,rb,rc].map FR.val) p) j).getD j default)),[8]⟩,⟨37,.g (MT.ex (Value.pointer (some ⟨b4,(j) * (none : Option Nat).getD 1,none⟩))),[0]⟩,⟨9998,.st 0 (ROWS (none) (((bubP ([rg,ra,rb,rc].map FR.val) (bub ([rg,ra,rb,rc].map FR.val) p) j).set (j) ((bubP ([rg,ra,rb,rc].map FR.val) (bub ([rg,ra,rb,rc].map FR.val) p) j).getD (j + 1) default)).map NT)),[10,6]⟩,⟨38,.g (MT.ex (Value.pointer (some ⟨b4,(j + 1) * (none : Option Nat).getD 1,none⟩))),[2]⟩] mixedOrders (by kernel_rfl)
     ⟨⟨rfl,fun a w G S=>.of rfl (OpR.mv S.ok rfl (S.g 1 rfl))⟩,
      ⟨rfl,fun a w G S=>.of rfl (OpR.mv S.ok rfl (S.g 1 rfl))⟩,
      ⟨rfl,fun a w G S=>.of rfl (OpR.nadd S.ok rfl (S.e 0 rfl) (rfl : _ = nv .i64 1) (wr_i64 (by omega)) MT.self)⟩,
      ⟨rfl,fun a w G S=>.of rfl (OpR.mv S.ok rfl (S.g 1 rfl))⟩,
      ⟨rfl,fun a w G S=>.of rfl (OpR.nadd S.ok rfl (S.e 0 rfl) (rfl : _ = nv .i64 1) (wr_i64 (by omega)) MT.self)⟩,
      ⟨rfl,fun a w G S=>.of rfl (OpR.ixAr (i:=j + 1) S.ok rfl Tryz.underlying57 tS_3 (S.e 7 rfl) (S.e 0 rfl) rfl (by first | omega | (rw [hql];omega) | (simp only [List.length_set,hql];omega)) rfl)⟩,
      ⟨rfl,fun a w G S=>have S:=S.boxes (B':=[⟨b4,57,some 4,ROWS (none) ((bubP ([rg,ra,rb,rc].map FR.val) (bub ([rg,ra,rb,rc].map FR.val) p) j).map NT)⟩,⟨b3,49,some 12,ROWS (some 3) (([rg,ra,rb,rc]).map (FX n))⟩,⟨b2,57,some 4,MT.ex ((.agg #[.int .i64 0,.int .i64 0,.int .i64 0,.int .i64 0] : Value))⟩,⟨b1,26,some 12,PTS [(some 3,FX n rg),(some 3,FX n ra),(some 3,FX n rb),(some 3,FX n rc)]⟩]) (by kernel_rfl);OpG.of rfl (OpR.ldSM (k:=none) (T:=NT) (xs:=bubP ([rg,ra,rb,rc].map FR.val) (bub ([rg,ra,rb,rc].map FR.val) p) j) (i:=j + 1) S.ok rfl (S.e 0 rfl) (S.box 0 rfl) tS_3 (by first | omega | (rw [hql];omega) | (simp only [List.length_set,hql];omega)))⟩,
      ⟨rfl,fun a w G S=>.of rfl (OpR.mv S.ok rfl (S.g 1 rfl))⟩,
      ⟨rfl,fun a w G S=>.of rfl (OpR.ixAr (i:=j) S.ok rfl Tryz.underlying57 tS_3 (S.e 7 rfl) (S.e 0 rfl) rfl (by first | omega | (rw [hql];omega) | (simp only [List.length_set,hql];omega)) rfl)⟩,
      ⟨rfl,fun a w G S=>have S:=S.boxes (B':=[⟨b4,57,some 4,ROWS (none) ((bubP ([rg,ra,rb,rc].map FR.val) (bub ([rg,ra,rb,rc].map FR.val) p) j).map NT)⟩,⟨b3,49,some 12,ROWS (some 3) (([rg,ra,rb,rc]).map (FX n))⟩,⟨b2,57,some 4,MT.ex ((.agg #[.int .i64 0,.int .i64 0,.int .i64 0,.int .i64 0] : Value))⟩,⟨b1,26,some 12,PTS [(some 3,FX n rg),(some 3,FX n ra),(some 3,FX n rb),(some 3,FX n rc)]⟩]) (by kernel_rfl);OpG.of rfl (OpR.ldSM (k:=none) (T:=NT) (xs:=bubP ([rg,ra,rb,rc].map FR.val) (bub ([rg,ra,rb,rc].map FR.val) p) j) (i:=j) S.ok rfl (S.e 0 rfl) (S.box 0 rfl) tS_3 (by first | omega | (rw [hql];omega) | (simp only [List.length_set,hql];omega)))⟩,
      ⟨rfl,fun a w G S=>.of rfl (OpR.ixAr (i:=j) S.ok rfl Tryz.underlying57 tS_3 (S.e 7 rfl) (S.e 0 rfl) rfl (by first | omega | (rw [hql];omega) | (simp only [List.length_set,hql];omega)) rfl)⟩,
      ⟨rfl,rfl,rfl,.inr ⟨by simp only [List.length_cons,List.length_nil];omega,_,rfl,fun a w G v0 S hv hs h0=>elem_storeS (k:=none) (T:=NT) (z:=(bubP ([rg,ra,rb,rc].map FR.val) (bub ([rg,ra,rb,rc].map FR.val) p) j).getD (j + 1) default) (i:=j) rfl rfl (S.e 0 rfl) tS_3 (S.g 1 rfl) (sh (τ:=NT ((bubP ([rg,ra,rb,rc].map FR.val) (bub ([rg,ra,rb,rc].map FR.val) p) j).getD (j + 1) default)) (S.g 1 rfl)) (by first | omega | (rw [hql];omega) | (simp only [List.length_set,hql];omega)) hv hs h0⟩⟩,
      ⟨rfl,fun a w G S=>.of rfl (OpR.ixAr (i:=j + 1) S.ok rfl Tryz.underlying57 tS_3 (S.e 7 rfl) (S.e 0 rfl) rfl (by first | omega | (rw [hql];omega) | (simp only [List.length_set,hql];omega)) rfl)⟩,trivial⟩ fun β a w G S=>?_
    replace S : St W0 G0 42 [(38,MT.ex (Value.pointer (some ⟨b4,(j + 1) * (none : Option Nat).getD 1,none⟩))),(37,MT.ex (Value.pointer (some ⟨b4,(j) * (none : Option Nat).getD 1,none⟩))),(36,NT ((bubP ([rg,ra,rb,rc].map FR.val) (bub ([rg,ra,rb,rc].map FR.val) p) j).getD j default)),(35,MT.ex (Value.pointer (some ⟨b4,(j) * (none : Option Nat).getD 1,none⟩))),(34,NT j),(33,NT ((bubP ([rg,ra,rb,rc].map FR.val) (bub ([rg,ra,rb,rc].map FR.val) p) j).getD (j + 1) default)),(32,MT.ex (Value.pointer (some ⟨b4,(j + 1) * (none : Option Nat).getD 1,none⟩))),(31,NT (j + 1)),(30,NT j),(29,NT (j + 1)),(28,NT j),(27,NT j),(26,BT (decide (cmpQ (([rg,ra,rb,rc].map FR.val).getD ((bubP ([rg,ra,rb,rc].map FR.val) (bub ([rg,ra,rb,rc].map FR.val) p) j).getD j default) default) (([rg,ra,rb,rc].map FR.val).getD ((bubP ([rg,ra,rb,rc].map FR.val) (bub ([rg,ra,rb,rc].map FR.val) p) j).getD (j + 1) default) default) > 0))),(5,NT j),(12,BT (decide (j < 3))),(11,NT j),(10,BT (decide (p < 4))),(9,NT p),(4,PB b4),(3,PB b3),(2,PB b2)] [⟨b4,57,some 4,ROWS (none) (((bubP ([rg,ra,rb,rc].map FR.val) (bub ([rg,ra,rb,rc].map FR.val) p) j).set (j) ((bubP ([rg,ra,rb,rc].map FR.val) (bub ([rg,ra,rb,rc].map FR.val) p) j).getD (j + 1) default)).map NT)⟩,⟨b3,49,some 12,ROWS (some 3) (([rg,ra,rb,rc]).map (FX n))⟩,⟨b2,57,some 4,MT.ex ((.agg #[.int .i64 0,.int .i64 0,.int .i64 0,.int .i64 0] : Value))⟩,⟨b1,26,some 12,PTS [(some 3,FX n rg),(some 3,FX n ra),(some 3,FX n rb),(some 3,FX n rc)]⟩] a _ _:=S
    refine S.setSM (k:=none) (T:=NT) (z:=(bubP ([rg,ra,rb,rc].map FR.val) (bub ([rg,ra,rb,rc].map FR.val) p) j).getD j default) (i:=j + 1) 0 rfl rfl rfl rfl (S.e 0 rfl) tS_3 (S.g 2 rfl) (sh (τ:=NT ((bubP ([rg,ra,rb,rc].map FR.val) (bub ([rg,ra,rb,rc].map FR.val) p) j).getD j default)) (S.g 2 rfl)) (by first | omega | (rw [hql];omega) | (simp only [List.length_set,hql];omega)) fun w S=>?_
    replace S:=S.n0
    refine wpList_nil ?_
    replace S:=S.d11.d10.d9.d8.d7.d6.d5.d4.d3.d2.d1.d0
    refine hK _ _ ?_;clear hK K
    refine wp_region_lit ?_
    refine S.s (OpR.nadd S.ok rfl (S.e 3 rfl) (rfl : _ = nv .i64 1) (wr_i64 (by omega)) MT.self) rfl fun a w G S=>?_
    replace S:=S.d4
    refine S.s (OpR.mv S.ok rfl (S.g 0 rfl)) rfl fun a w G S=>?_
    refine wpList_nil ?_
    replace S:=S.d1
    replace S:=S.castBox (τ':=ROWS (none) ((bubP ([rg,ra,rb,rc].map FR.val) (bub ([rg,ra,rb,rc].map FR.val) p) (j + 1)).map NT)) 0 rfl fun _ h _=>(ROWS.eqM h (by first | exact bub_t ‹_› | exact bub_f ‹_›))
    replace S:=S.n0
    exact ⟨3 - (j + 1),(by omega),j + 1,_,rfl,(by omega),(S.keep [0,4,5,6,7,8]).keepB [0,1,2,3] (by decide)⟩
   ·
    have hp7:=of_decide_eq_false hc5
    refine wp_skip ?_
    refine hK _ _ ?_;clear hK K
    refine wp_region_lit ?_
    refine S.s (OpR.nadd S.ok rfl (S.e 3 rfl) (rfl : _ = nv .i64 1) (wr_i64 (by omega)) MT.self) rfl fun a w G S=>?_
    replace S:=S.d4
    refine S.s (OpR.mv S.ok rfl (S.g 0 rfl)) rfl fun a w G S=>?_
    refine wpList_nil ?_
    replace S:=S.d1
    replace S:=S.castBox (τ':=ROWS (none) ((bubP ([rg,ra,rb,rc].map FR.val) (bub ([rg,ra,rb,rc].map FR.val) p) (j + 1)).map NT)) 0 rfl fun _ h _=>(ROWS.eqM h (by first | exact bub_t ‹_› | exact bub_f ‹_›))
    replace S:=S.n0
    exact ⟨3 - (j + 1),(by omega),j + 1,_,rfl,(by omega),(S.keep [0,4,5,6,7,8]).keepB [0,1,2,3] (by decide)⟩
  ·
   have hp8:=of_decide_eq_false hc3
   refine wp_exit (then_exit (then_exit (exit_same ?_)))
   clear hK K
   refine hK _ _ ?_;clear hK K
   refine wp_region_lit ?_
   refine S.s (OpR.nadd S.ok rfl (S.e 3 rfl) (rfl : _ = nv .i64 1) (wr_i64 (by omega)) MT.self) rfl fun a w G S=>?_
   replace S:=S.d4
   refine S.s (OpR.mv S.ok rfl (S.g 0 rfl)) rfl fun a w G S=>?_
   refine wpList_nil ?_
   replace S:=S.d1
   replace S:=S.castBox (τ':=ROWS (none) ((bub ([rg,ra,rb,rc].map FR.val) (p + 1)).map NT)) 0 rfl fun _ h _=>(ROWS.eqM h (bubP_n ‹_› hj p))
   replace S:=S.n0
   exact ⟨4 - (p + 1),(by omega),p + 1,_,rfl,(by omega),(S.keep [0,4,5,6]).keepB [0,1,2,3] (by decide)⟩
 ·
  have hp9:=of_decide_eq_false hc1
  refine wp_exit (then_exit (then_exit (exit_same ?_)))
  clear hK K
  refine hK _ _ ?_;clear hK K
  refine wp_reg fun K hK=>?_
  refine S.s (OpR.ldArr S.ok rfl (S.e 2 rfl) (S.box 0 rfl) tS_57 (by simp only [List.length_map,bub_len,orderF_len];rfl)) rfl fun a w G S=>?_
  refine S.store (τ:=ARN (none) ((bub ([rg,ra,rb,rc].map FR.val) p).map NT)) 2 rfl rfl rfl rfl (S.e 5 rfl) tS_57 (S.g 0 rfl) (ARN.shN (S.g 0 rfl) (by simp only [List.length_map,bub_len,orderF_len];rfl)) fun w S=>?_
  replace S:=S.n2
  replace S:=(S.castBox (τ':=ROWS (none) ((bub ([rg,ra,rb,rc].map FR.val) p).map NT)) 2 rfl fun _ h _=>ARN.rows h).n2
  refine wpList_nil (hK _ _ ?_);clear hK K
  replace S:=S.d0
  replace S:=(S.castBox (τ':=ARN (none) ((bub ([rg,ra,rb,rc].map FR.val) p).map NT)) 2 rfl fun _ h hs=>ROWS.arn h hs (by simp only [List.length_map,bub_len,orderF_len];rfl)).n2
  exact wp_ret (S.retCell (i:=2) rfl (S.e 4 rfl) rfl tS_57 (fun _ h=>(ARN.eqM h (by rw [show p = 4 by omega];exact bub_ok _))))
theorem rCheck_ok {n : Nat} {rg ra rb rc : FR} {v1 : Value} {W0 : World} {G0 : Gh} (hok : Gok W0 G0) (h1 : (PTS [(some 3,FX n rg),(some 3,FX n ra),(some 3,FX n rb),(some 3,FX n rc)]).t v1 G0) (hn : 1000 * n + 10000 ≤ BIG) (hn1 : 1 ≤ n) : Calls Tryz.prog 9 #[v1] W0 (Ret W0 G0 (IT (chkF [rg,ra,rb,rc]))):=by
 refine St.enter (N:=65) (L:=[(0,PTS [(some 3,FX n rg),(some 3,FX n ra),(some 3,FX n rb),(some 3,FX n rc)])]) (args:=[v1]) Tryz.func9 rfl rfl rfl hok (enter1 h1) fun a S=>?_
 refine wp_reg fun K hK=>?_
 refine S.boxop (x:=.tmp 0) (τ:=PTS [(some 3,FX n rg),(some 3,FX n ra),(some 3,FX n rb),(some 3,FX n rc)]) (S.g 0 rfl) (sh (τ:=PTS [(some 3,FX n rg),(some 3,FX n ra),(some 3,FX n rb),(some 3,FX n rc)]) (S.g 0 rfl)) rfl rfl rfl rfl rfl fun b1 a w G S=>?_
 refine S.s (τ:=NT 0) (OpR.asn S.ok rfl (rfl : _ = nv .i64 0)) rfl fun a w G S=>?_
 refine wpList_nil (hK _ _ ?_);clear hK K
 replace S:=S.d2
 refine wp_reg fun K hK=>?_
 refine S.s (OpR.ldBox S.ok rfl (S.e 1 rfl) (S.box 0 rfl) tS_26) rfl fun a w G S=>?_
 refine S.s (τ:=ARN (some 3) (([rg,ra,rb,rc]).map (FX n))) (OpR.call1 rfl c_23 (rSquares_ok S.ok (S.g 0 rfl))) rfl fun a w G S=>?_
 refine S.alloc rfl rfl rfl z_49 zs_49 rfl rfl fun b3 a w G S=>?_
 refine S.store (τ:=ARN (some 3) (([rg,ra,rb,rc]).map (FX n))) 0 rfl rfl rfl rfl (S.e 0 rfl) tS_49 (S.g 1 rfl) (sh (τ:=ARN (some 3) (([rg,ra,rb,rc]).map (FX n))) (S.g 1 rfl)) fun w S=>?_
 replace S:=S.n0
 replace S:=(S.castBox (τ':=ROWS (some 3) (([rg,ra,rb,rc]).map (FX n))) 0 rfl fun _ h _=>ARN.rows h).n0
 refine wpList_nil (hK _ _ ?_);clear hK K
 replace S:=S.d2.d1
 refine wp_seq_k fun K hK=>?_
 refine wp_reg fun K hK=>?_
 refine S.s (OpR.ldArr S.ok rfl (S.e 0 rfl) (S.box 0 rfl) tS_49 (by simp only [List.length_map,bub_len,orderF_len];rfl)) rfl fun a w G S=>?_
 refine S.s (τ:=NT 0) (OpR.mv S.ok rfl (rfl : _ = nv .i64 0)) rfl fun a w G S=>?_
 refine wpList_nil (hK _ _ ?_);clear hK K
 refine wp_block ?_
 refine wp_loopJ (fun μ a w=>∃ (i : Nat) (G : Gh),μ = 4 - i ∧ (i ≤ 4) ∧ (([rg,ra,rb,rc].take i).all posR = true) ∧  St W0 G0 65 [(16,NT i),(15,ARN (some 3) (([rg,ra,rb,rc]).map (FX n))),(3,PB b3),(2,NT 0),(1,PB b1)] [⟨b3,49,some 12,ROWS (some 3) (([rg,ra,rb,rc]).map (FX n))⟩,⟨b1,26,some 12,PTS [(some 3,FX n rg),(some 3,FX n ra),(some 3,FX n rb),(some 3,FX n rc)]⟩] a w G) (4 - 0) ⟨0,_,rfl,(by omega),rfl,(S.keep [0,1,2,3,4]).keepB [0,1] (by decide)⟩ ?_
 clear S
 intro μ a w ⟨i,G,hm,hi,hg,S⟩
 refine wp_reg fun K hK=>?_
 refine S.s (OpR.nlss S.ok rfl (S.e 0 rfl) (rfl : _ = nv .i64 4) MT.self) rfl fun a w G S=>?_
 refine wpList_nil (hK _ _ ?_);clear hK K
 refine wp_seq_k fun K hK=>?_
 refine S.cond 0 rfl (fun hc1=>?_) (fun hc1=>?_)
 ·
  have hp2:=of_decide_eq_true hc1
  refine wp_skip ?_
  refine hK _ _ ?_;clear hK K
  refine wp_seq_k fun K hK=>?_
  refine wp_block ?_
  refine wp_reg fun K hK=>?_
  refine S.s (τ:=FX n (([rg,ra,rb,rc]).getD i default)) (OpR.ixV (T:=(FX n)) (xs:=[rg,ra,rb,rc]) (i:=i) S.ok rfl Tryz.underlying49 tS_24 (S.g 2 rfl) (S.e 1 rfl) rfl rfl (by first | omega | (simp only [List.length_set,List.length_take,List.length_drop,List.length_append,List.length_map,List.length_replicate];omega))) rfl fun a w G S=>?_
  refine S.alloc rfl rfl rfl z_24 zs_24 rfl rfl fun b5 a w G S=>?_
  refine S.store (τ:=FX n (([rg,ra,rb,rc]).getD i default)) 0 rfl rfl rfl rfl (S.e 0 rfl) tS_24 (S.g 1 rfl) (sh (τ:=FX n (([rg,ra,rb,rc]).getD i default)) (S.g 1 rfl)) fun w S=>?_
  replace S:=S.n0
  refine wpList_nil (hK _ _ ?_);clear hK K
  replace S:=S.d1
  refine wp_reg fun K hK=>?_
  refine S.s (OpR.ldBox S.ok rfl (S.e 0 rfl) (S.box 0 rfl) tS_24) rfl fun a w G S=>?_
  refine S.s (τ:=BT ((([rg,ra,rb,rc]).getD i default).ok)) (OpR.call1 rfl c_28 (gValidX_ok S.ok (S.g 0 rfl) (by omega))) rfl fun a w G S=>?_
  refine S.s (OpR.bnot S.ok rfl (S.e 0 rfl) MT.self) rfl fun a w G S=>?_
  refine S.s (OpR.mv S.ok rfl (S.g 0 rfl)) rfl fun a w G S=>?_
  rcases Bool.eq_false_or_eq_true (!((([rg,ra,rb,rc]).getD i default).ok)) with hc3 | hc3
  ·
   replace S:=S.boolIs 0 rfl hc3
   refine S.skipG 0 rfl rfl rfl rfl rfl rfl fun a w G S=>?_
   refine S.skipG 1 rfl rfl rfl rfl rfl rfl fun a w G S=>?_
   refine S.skipG 2 rfl rfl rfl rfl rfl rfl fun a w G S=>?_
   refine S.s (τ:=BT true) (OpR.pick S.ok rfl (S.e 3 rfl) rfl) rfl fun a w G S=>?_
   refine wpList_nil (hK _ _ ?_);clear hK K
   replace S:=S.d8.d7.d6.d5.d4.d3.d2.d1
   refine wp_cond_true (S.e 0 rfl) ?_
   refine wp_reg fun K hK=>?_
   replace S:=S.d6
   refine S.s (τ:=NT 3) (OpR.asn S.ok rfl (rfl : _ = nv .i64 3)) rfl fun a w G S=>?_
   refine wpList_nil (hK _ _ ?_);clear hK K
   exact wp_ret (block_ret (then_ret (then_ret (block_ret (then_ret (S.retTmp rfl ((S.e 0 rfl).trans (iv_eq (by first | exact rchk16 (all_end (show ¬ i < 4 by omega) hg) ‹_› | exact rchk0 (all_end (show ¬ i < 4 by omega) hg) ‹_› | exact (chk3 (all_not (show i < 4 by omega) (by first | exact posR_not1 (not_true_of ‹_›) | exact posR_not2 ‹_›))).symm)))))))))
  ·
   replace S:=S.boolIs 0 rfl hc3
   refine S.stepG 0 (OpR.ldBox S.ok rfl (S.e 5 rfl) (S.box 0 rfl) tS_24) rfl rfl rfl rfl rfl rfl fun a w G S=>?_
   refine S.stepG (τ:=IT (((([rg,ra,rb,rc]).getD i default).val).num.sign)) 1 (OpR.call1 rfl c_29 (gSign_ok S.ok (FX.toQV (S.g 0 rfl)) (by omega))) rfl rfl rfl rfl rfl rfl fun a w G S=>?_
   refine S.stepG 2 (OpR.ileq S.ok rfl (S.e 0 rfl) (rfl : _ = nv .i64 0) MT.self) rfl rfl rfl rfl rfl rfl fun a w G S=>?_
   refine S.s (τ:=BT (decide ((((([rg,ra,rb,rc]).getD i default).val).num.sign) ≤ 0))) (OpR.pick S.ok rfl (S.e 3 rfl) (S.g 0 rfl)) rfl fun a w G S=>?_
   refine wpList_nil (hK _ _ ?_);clear hK K
   replace S:=S.d8.d7.d6.d5.d4.d3.d2.d1
   refine S.cond 0 rfl (fun hc6=>?_) (fun hc6=>?_)
   ·
    have hp7:=of_decide_eq_true hc6
    refine wp_reg fun K hK=>?_
    replace S:=S.d6
    refine S.s (τ:=NT 3) (OpR.asn S.ok rfl (rfl : _ = nv .i64 3)) rfl fun a w G S=>?_
    refine wpList_nil (hK _ _ ?_);clear hK K
    exact wp_ret (block_ret (then_ret (then_ret (block_ret (then_ret (S.retTmp rfl ((S.e 0 rfl).trans (iv_eq (by first | exact rchk16 (all_end (show ¬ i < 4 by omega) hg) ‹_› | exact rchk0 (all_end (show ¬ i < 4 by omega) hg) ‹_› | exact (chk3 (all_not (show i < 4 by omega) (by first | exact posR_not1 (not_true_of ‹_›) | exact posR_not2 ‹_›))).symm)))))))))
   ·
    have hp8:=of_decide_eq_false hc6
    refine wp_skip ?_
    refine hK _ _ ?_;clear hK K
    refine wp_region_lit ?_
    refine S.s (OpR.nadd S.ok rfl (S.e 3 rfl) (rfl : _ = nv .i64 1) (wr_i64 (by omega)) MT.self) rfl fun a w G S=>?_
    replace S:=S.d4
    refine S.s (OpR.mv S.ok rfl (S.g 0 rfl)) rfl fun a w G S=>?_
    refine wpList_nil ?_
    replace S:=S.d1
    exact ⟨4 - (i + 1),(by omega),i + 1,_,rfl,(by omega),(all_snoc (show i < 4 by omega) hg (posR_of (not_false_of ‹_›) ‹_›)),(S.keep [0,4,5,6,7]).keepB [1,2] (by decide)⟩
 ·
  have hp9:=of_decide_eq_false hc1
  refine wp_exit (then_exit (then_exit (exit_same ?_)))
  clear hK K
  refine hK _ _ ?_;clear hK K
  refine wp_reg fun K hK=>?_
  refine S.s (OpR.ldBox S.ok rfl (S.e 5 rfl) (S.box 1 rfl) tS_26) rfl fun a w G S=>?_
  refine S.s (τ:=ARN (none) ((orderF ([rg,ra,rb,rc].map FR.val)).map NT)) (OpR.call1 rfl c_30 (rSorted_ok S.ok (S.g 0 rfl) (by omega) (by omega))) rfl fun a w G S=>?_
  refine S.alloc rfl rfl rfl z_57 zs_57 rfl rfl fun b6 a w G S=>?_
  refine S.store (τ:=ARN (none) ((orderF ([rg,ra,rb,rc].map FR.val)).map NT)) 0 rfl rfl rfl rfl (S.e 0 rfl) tS_57 (S.g 1 rfl) (ARN.shN (S.g 1 rfl) (by simp only [List.length_map,bub_len,orderF_len];rfl)) fun w S=>?_
  replace S:=S.n0
  replace S:=(S.castBox (τ':=ROWS (none) ((orderF ([rg,ra,rb,rc].map FR.val)).map NT)) 0 rfl fun _ h _=>ARN.rows h).n0
  refine wpList_nil (hK _ _ ?_);clear hK K
  replace S:=S.d2.d1
  refine wp_seq_k fun K hK=>?_
  have ho0:=orderF_lt ([rg,ra,rb,rc].map FR.val) 0
  have ho1:=orderF_lt ([rg,ra,rb,rc].map FR.val) 1
  have ho2:=orderF_lt ([rg,ra,rb,rc].map FR.val) 2
  have ho3:=orderF_lt ([rg,ra,rb,rc].map FR.val) 3
  have hol:=orderF_len ([rg,ra,rb,rc].map FR.val)
  refine S.drawnS [⟨30,.g (MT.ex (Value.pointer (some ⟨b6,(0) * (none : Option Nat).getD 1,none⟩))),[]⟩,⟨31,.g (NT ((orderF ([rg,ra,rb,rc].map FR.val)).getD 0 default)),[0]⟩,⟨32,.g (MT.ex (Value.pointer (some ⟨b3,((orderF ([rg,ra,rb,rc].map FR.val)).getD 0 default) * (some 3 : Option Nat).getD 1,none⟩))),[1]⟩,⟨33,.g (FX n (([rg,ra,rb,rc]).getD ((orderF ([rg,ra,rb,rc].map FR.val)).getD 0 default) default)),[2]⟩,⟨34,.g (MT.ex (Value.pointer (some ⟨b6,(1) * (none : Option Nat).getD 1,none⟩))),[]⟩,⟨35,.g (NT ((orderF ([rg,ra,rb,rc].map FR.val)).getD 1 default)),[4]⟩,⟨36,.g (MT.ex (Value.pointer (some ⟨b3,((orderF ([rg,ra,rb,rc].map FR.val)).getD 1 default) * (some 3 : Option Nat).getD 1,none⟩))),[5]⟩,⟨37,.g (FX n (([rg,ra,rb,rc]).getD ((orderF ([rg,ra,rb,rc].map FR.val)).getD 1 default) default)),[6]⟩,⟨38,.g (MT.ex (Value.pointer (some ⟨b6,(2) * (none : Option Nat).getD 1,none⟩))),[]⟩,⟨39,.g (NT ((orderF ([rg,ra,rb,rc].map FR.val)).getD 2 default)),[8]⟩,⟨40,.g (MT.ex (Value.pointer (some ⟨b3,((orderF ([rg,ra,rb,rc].map FR.val)).getD 2 default) * (some 3 : Option Nat).getD 1,none⟩))),[9]⟩,⟨41,.g (FX n (([rg,ra,rb,rc]).getD ((orderF ([rg,ra,rb,rc].map FR.val)).getD 2 default) default)),[10]⟩,⟨42,.g (MT.ex (Value.pointer (some ⟨b6,(3) * (none : Option Nat).getD 1,none⟩))),[]⟩,⟨43,.g (NT ((orderF ([rg,ra,rb,rc].map FR.val)).getD 3 default)),[12]⟩,⟨44,.g (MT.ex (Value.pointer (some ⟨b3,((orderF ([rg,ra,rb,rc].map FR.val)).getD 3 default) * (some 3 : Option Nat).getD 1,none⟩))),[13]⟩,⟨45,.g (FX n (([rg,ra,rb,rc]).getD ((orderF ([rg,ra,rb,rc].map FR.val)).getD 3 default) default)),[14]⟩,⟨7,.al mkP 24 (some 3) (MT.ex (.agg #[.bool false,.slice none 0 0,.slice none 0 0])),[]⟩,⟨8,.al mkP 24 (some 3) (MT.ex (.agg #[.bool false,.slice none 0 0,.slice none 0 0])),[]⟩,⟨9,.al mkP 24 (some 3) (MT.ex (.agg #[.bool false,.slice none 0 0,.slice none 0 0])),[]⟩,⟨10,.al mkP 24 (some 3) (MT.ex (.agg #[.bool false,.slice none 0 0,.slice none 0 0])),[]⟩,⟨9998,.st 19 (FX n (([rg,ra,rb,rc]).getD ((orderF ([rg,ra,rb,rc].map FR.val)).getD 0 default) default)),[16,3]⟩,⟨9998,.st 20 (FX n (([rg,ra,rb,rc]).getD ((orderF ([rg,ra,rb,rc].map FR.val)).getD 1 default) default)),[17,7]⟩,⟨9998,.st 21 (FX n (([rg,ra,rb,rc]).getD ((orderF ([rg,ra,rb,rc].map FR.val)).getD 2 default) default)),[18,11]⟩,⟨9998,.st 22 (FX n (([rg,ra,rb,rc]).getD ((orderF ([rg,ra,rb,rc].map FR.val)).getD 3 default) default)),[19,15]⟩] mixedOrders (by kernel_rfl)
   ⟨⟨rfl,fun a w G S=>.of rfl (OpR.ixAr (i:=0) S.ok rfl Tryz.underlying57 tS_3 (S.e 0 rfl) (rfl : _ = nv .i64 0) rfl (by first | omega | (rw [hol];decide) | (show _ < 4;omega)) rfl)⟩,
    ⟨rfl,fun a w G S=>have S:=S.boxes (B':=[⟨b6,57,some 4,ROWS (none) ((orderF ([rg,ra,rb,rc].map FR.val)).map NT)⟩,⟨b3,49,some 12,ROWS (some 3) (([rg,ra,rb,rc]).map (FX n))⟩,⟨b1,26,some 12,PTS [(some 3,FX n rg),(some 3,FX n ra),(some 3,FX n rb),(some 3,FX n rc)]⟩]) (by kernel_rfl);OpG.of rfl (OpR.ldSM (k:=none) (T:=NT) (xs:=orderF ([rg,ra,rb,rc].map FR.val)) (i:=0) S.ok rfl (S.e 0 rfl) (S.box 0 rfl) tS_3 (by first | omega | (rw [hol];decide) | (show _ < 4;omega)))⟩,
    ⟨rfl,fun a w G S=>.of rfl (OpR.ixAr (i:=(orderF ([rg,ra,rb,rc].map FR.val)).getD 0 default) S.ok rfl Tryz.underlying49 tS_24 (S.e 5 rfl) (S.e 0 rfl) rfl (by first | omega | (rw [hol];decide) | (show _ < 4;omega)) rfl)⟩,
    ⟨rfl,fun a w G S=>have S:=S.boxes (B':=[⟨b6,57,some 4,ROWS (none) ((orderF ([rg,ra,rb,rc].map FR.val)).map NT)⟩,⟨b3,49,some 12,ROWS (some 3) (([rg,ra,rb,rc]).map (FX n))⟩,⟨b1,26,some 12,PTS [(some 3,FX n rg),(some 3,FX n ra),(some 3,FX n rb),(some 3,FX n rc)]⟩]) (by kernel_rfl);OpG.of rfl (OpR.ldSM (k:=some 3) (T:=(FX n)) (xs:=[rg,ra,rb,rc]) (i:=(orderF ([rg,ra,rb,rc].map FR.val)).getD 0 default) S.ok rfl (S.e 0 rfl) (S.box 1 rfl) tS_24 (by first | omega | (rw [hol];decide) | (show _ < 4;omega)))⟩,
    ⟨rfl,fun a w G S=>.of rfl (OpR.ixAr (i:=1) S.ok rfl Tryz.underlying57 tS_3 (S.e 0 rfl) (rfl : _ = nv .i64 1) rfl (by first | omega | (rw [hol];decide) | (show _ < 4;omega)) rfl)⟩,
    ⟨rfl,fun a w G S=>have S:=S.boxes (B':=[⟨b6,57,some 4,ROWS (none) ((orderF ([rg,ra,rb,rc].map FR.val)).map NT)⟩,⟨b3,49,some 12,ROWS (some 3) (([rg,ra,rb,rc]).map (FX n))⟩,⟨b1,26,some 12,PTS [(some 3,FX n rg),(some 3,FX n ra),(some 3,FX n rb),(some 3,FX n rc)]⟩]) (by kernel_rfl);OpG.of rfl (OpR.ldSM (k:=none) (T:=NT) (xs:=orderF ([rg,ra,rb,rc].map FR.val)) (i:=1) S.ok rfl (S.e 0 rfl) (S.box 0 rfl) tS_3 (by first | omega | (rw [hol];decide) | (show _ < 4;omega)))⟩,
    ⟨rfl,fun a w G S=>.of rfl (OpR.ixAr (i:=(orderF ([rg,ra,rb,rc].map FR.val)).getD 1 default) S.ok rfl Tryz.underlying49 tS_24 (S.e 5 rfl) (S.e 0 rfl) rfl (by first | omega | (rw [hol];decide) | (show _ < 4;omega)) rfl)⟩,
    ⟨rfl,fun a w G S=>have S:=S.boxes (B':=[⟨b6,57,some 4,ROWS (none) ((orderF ([rg,ra,rb,rc].map FR.val)).map NT)⟩,⟨b3,49,some 12,ROWS (some 3) (([rg,ra,rb,rc]).map (FX n))⟩,⟨b1,26,some 12,PTS [(some 3,FX n rg),(some 3,FX n ra),(some 3,FX n rb),(some 3,FX n rc)]⟩]) (by kernel_rfl);OpG.of rfl (OpR.ldSM (k:=some 3) (T:=(FX n)) (xs:=[rg,ra,rb,rc]) (i:=(orderF ([rg,ra,rb,rc].map FR.val)).getD 1 default) S.ok rfl (S.e 0 rfl) (S.box 1 rfl) tS_24 (by first | omega | (rw [hol];decide) | (show _ < 4;omega)))⟩,
    ⟨rfl,fun a w G S=>.of rfl (OpR.ixAr (i:=2) S.ok rfl Tryz.underlying57 tS_3 (S.e 0 rfl) (rfl : _ = nv .i64 2) rfl (by first | omega | (rw [hol];decide) | (show _ < 4;omega)) rfl)⟩,
    ⟨rfl,fun a w G S=>have S:=S.boxes (B':=[⟨b6,57,some 4,ROWS (none) ((orderF ([rg,ra,rb,rc].map FR.val)).map NT)⟩,⟨b3,49,some 12,ROWS (some 3) (([rg,ra,rb,rc]).map (FX n))⟩,⟨b1,26,some 12,PTS [(some 3,FX n rg),(some 3,FX n ra),(some 3,FX n rb),(some 3,FX n rc)]⟩]) (by kernel_rfl);OpG.of rfl (OpR.ldSM (k:=none) (T:=NT) (xs:=orderF ([rg,ra,rb,rc].map FR.val)) (i:=2) S.ok rfl (S.e 0 rfl) (S.box 0 rfl) tS_3 (by first | omega | (rw [hol];decide) | (show _ < 4;omega)))⟩,
    ⟨rfl,fun a w G S=>.of rfl (OpR.ixAr (i:=(orderF ([rg,ra,rb,rc].map FR.val)).getD 2 default) S.ok rfl Tryz.underlying49 tS_24 (S.e 5 rfl) (S.e 0 rfl) rfl (by first | omega | (rw [hol];decide) | (show _ < 4;omega)) rfl)⟩,
    ⟨rfl,fun a w G S=>have S:=S.boxes (B':=[⟨b6,57,some 4,ROWS (none) ((orderF ([rg,ra,rb,rc].map FR.val)).map NT)⟩,⟨b3,49,some 12,ROWS (some 3) (([rg,ra,rb,rc]).map (FX n))⟩,⟨b1,26,some 12,PTS [(some 3,FX n rg),(some 3,FX n ra),(some 3,FX n rb),(some 3,FX n rc)]⟩]) (by kernel_rfl);OpG.of rfl (OpR.ldSM (k:=some 3) (T:=(FX n)) (xs:=[rg,ra,rb,rc]) (i:=(orderF ([rg,ra,rb,rc].map FR.val)).getD 2 default) S.ok rfl (S.e 0 rfl) (S.box 1 rfl) tS_24 (by first | omega | (rw [hol];decide) | (show _ < 4;omega)))⟩,
    ⟨rfl,fun a w G S=>.of rfl (OpR.ixAr (i:=3) S.ok rfl Tryz.underlying57 tS_3 (S.e 0 rfl) (rfl : _ = nv .i64 3) rfl (by first | omega | (rw [hol];decide) | (show _ < 4;omega)) rfl)⟩,
    ⟨rfl,fun a w G S=>have S:=S.boxes (B':=[⟨b6,57,some 4,ROWS (none) ((orderF ([rg,ra,rb,rc].map FR.val)).map NT)⟩,⟨b3,49,some 12,ROWS (some 3) (([rg,ra,rb,rc]).map (FX n))⟩,⟨b1,26,some 12,PTS [(some 3,FX n rg),(some 3,FX n ra),(some 3,FX n rb),(some 3,FX n rc)]⟩]) (by kernel_rfl);OpG.of rfl (OpR.ldSM (k:=none) (T:=NT) (xs:=orderF ([rg,ra,rb,rc].map FR.val)) (i:=3) S.ok rfl (S.e 0 rfl) (S.box 0 rfl) tS_3 (by first | omega | (rw [hol];decide) | (show _ < 4;omega)))⟩,
    ⟨rfl,fun a w G S=>.of rfl (OpR.ixAr (i:=(orderF ([rg,ra,rb,rc].map FR.val)).getD 3 default) S.ok rfl Tryz.underlying49 tS_24 (S.e 5 rfl) (S.e 0 rfl) rfl (by first | omega | (rw [hol];decide) | (show _ < 4;omega)) rfl)⟩,
    ⟨rfl,fun a w G S=>have S:=S.boxes (B':=[⟨b6,57,some 4,ROWS (none) ((orderF ([rg,ra,rb,rc].map FR.val)).map NT)⟩,⟨b3,49,some 12,ROWS (some 3) (([rg,ra,rb,rc]).map (FX n))⟩,⟨b1,26,some 12,PTS [(some 3,FX n rg),(some 3,FX n ra),(some 3,FX n rb),(some 3,FX n rc)]⟩]) (by kernel_rfl);OpG.of rfl (OpR.ldSM (k:=some 3) (T:=(FX n)) (xs:=[rg,ra,rb,rc]) (i:=(orderF ([rg,ra,rb,rc].map FR.val)).getD 3 default) S.ok rfl (S.e 0 rfl) (S.box 1 rfl) tS_24 (by first | omega | (rw [hol];decide) | (show _ < 4;omega)))⟩,
    ⟨rfl,fun _=>rfl,rfl,fun a w G S=>OpB.alloc S.ok rfl z_24 zs_24⟩,
    ⟨rfl,fun _=>rfl,rfl,fun a w G S=>OpB.alloc S.ok rfl z_24 zs_24⟩,
    ⟨rfl,fun _=>rfl,rfl,fun a w G S=>OpB.alloc S.ok rfl z_24 zs_24⟩,
    ⟨rfl,fun _=>rfl,rfl,fun a w G S=>OpB.alloc S.ok rfl z_24 zs_24⟩,
    ⟨rfl,rfl,rfl,.inl ⟨_,_,_,_,rfl,tS_24,fun a w G S=>⟨(S.g 0 rfl),sh (τ:=FX n (([rg,ra,rb,rc]).getD ((orderF ([rg,ra,rb,rc].map FR.val)).getD 0 default) default)) (S.g 0 rfl)⟩,by rw [if_neg (by simp only [List.length_cons,List.length_nil];omega)];exact ⟨_,_,_,rfl,rfl,rfl,rfl⟩⟩⟩,
    ⟨rfl,rfl,rfl,.inl ⟨_,_,_,_,rfl,tS_24,fun a w G S=>⟨(S.g 0 rfl),sh (τ:=FX n (([rg,ra,rb,rc]).getD ((orderF ([rg,ra,rb,rc].map FR.val)).getD 1 default) default)) (S.g 0 rfl)⟩,by rw [if_neg (by simp only [List.length_cons,List.length_nil];omega)];exact ⟨_,_,_,rfl,rfl,rfl,rfl⟩⟩⟩,
    ⟨rfl,rfl,rfl,.inl ⟨_,_,_,_,rfl,tS_24,fun a w G S=>⟨(S.g 0 rfl),sh (τ:=FX n (([rg,ra,rb,rc]).getD ((orderF ([rg,ra,rb,rc].map FR.val)).getD 2 default) default)) (S.g 0 rfl)⟩,by rw [if_neg (by simp only [List.length_cons,List.length_nil];omega)];exact ⟨_,_,_,rfl,rfl,rfl,rfl⟩⟩⟩,
    ⟨rfl,rfl,rfl,.inl ⟨_,_,_,_,rfl,tS_24,fun a w G S=>⟨(S.g 0 rfl),sh (τ:=FX n (([rg,ra,rb,rc]).getD ((orderF ([rg,ra,rb,rc].map FR.val)).getD 3 default) default)) (S.g 0 rfl)⟩,by rw [if_neg (by simp only [List.length_cons,List.length_nil];omega)];exact ⟨_,_,_,rfl,rfl,rfl,rfl⟩⟩⟩,trivial⟩ fun β a w G S=>?_
  replace S : St W0 G0 65 [(10,PB (β 19)),(9,PB (β 18)),(8,PB (β 17)),(7,PB (β 16)),(45,FX n (([rg,ra,rb,rc]).getD ((orderF ([rg,ra,rb,rc].map FR.val)).getD 3 default) default)),(44,MT.ex (Value.pointer (some ⟨b3,((orderF ([rg,ra,rb,rc].map FR.val)).getD 3 default) * (some 3 : Option Nat).getD 1,none⟩))),(43,NT ((orderF ([rg,ra,rb,rc].map FR.val)).getD 3 default)),(42,MT.ex (Value.pointer (some ⟨b6,(3) * (none : Option Nat).getD 1,none⟩))),(41,FX n (([rg,ra,rb,rc]).getD ((orderF ([rg,ra,rb,rc].map FR.val)).getD 2 default) default)),(40,MT.ex (Value.pointer (some ⟨b3,((orderF ([rg,ra,rb,rc].map FR.val)).getD 2 default) * (some 3 : Option Nat).getD 1,none⟩))),(39,NT ((orderF ([rg,ra,rb,rc].map FR.val)).getD 2 default)),(38,MT.ex (Value.pointer (some ⟨b6,(2) * (none : Option Nat).getD 1,none⟩))),(37,FX n (([rg,ra,rb,rc]).getD ((orderF ([rg,ra,rb,rc].map FR.val)).getD 1 default) default)),(36,MT.ex (Value.pointer (some ⟨b3,((orderF ([rg,ra,rb,rc].map FR.val)).getD 1 default) * (some 3 : Option Nat).getD 1,none⟩))),(35,NT ((orderF ([rg,ra,rb,rc].map FR.val)).getD 1 default)),(34,MT.ex (Value.pointer (some ⟨b6,(1) * (none : Option Nat).getD 1,none⟩))),(33,FX n (([rg,ra,rb,rc]).getD ((orderF ([rg,ra,rb,rc].map FR.val)).getD 0 default) default)),(32,MT.ex (Value.pointer (some ⟨b3,((orderF ([rg,ra,rb,rc].map FR.val)).getD 0 default) * (some 3 : Option Nat).getD 1,none⟩))),(31,NT ((orderF ([rg,ra,rb,rc].map FR.val)).getD 0 default)),(30,MT.ex (Value.pointer (some ⟨b6,(0) * (none : Option Nat).getD 1,none⟩))),(6,PB b6),(17,BT (decide (i < 4))),(16,NT i),(15,ARN (some 3) (([rg,ra,rb,rc]).map (FX n))),(3,PB b3),(2,NT 0),(1,PB b1)] [⟨(β 19),24,some 3,FX n (([rg,ra,rb,rc]).getD ((orderF ([rg,ra,rb,rc].map FR.val)).getD 3 default) default)⟩,⟨(β 18),24,some 3,FX n (([rg,ra,rb,rc]).getD ((orderF ([rg,ra,rb,rc].map FR.val)).getD 2 default) default)⟩,⟨(β 17),24,some 3,FX n (([rg,ra,rb,rc]).getD ((orderF ([rg,ra,rb,rc].map FR.val)).getD 1 default) default)⟩,⟨(β 16),24,some 3,FX n (([rg,ra,rb,rc]).getD ((orderF ([rg,ra,rb,rc].map FR.val)).getD 0 default) default)⟩,⟨b6,57,some 4,ROWS (none) ((orderF ([rg,ra,rb,rc].map FR.val)).map NT)⟩,⟨b3,49,some 12,ROWS (some 3) (([rg,ra,rb,rc]).map (FX n))⟩,⟨b1,26,some 12,PTS [(some 3,FX n rg),(some 3,FX n ra),(some 3,FX n rb),(some 3,FX n rc)]⟩] a _ _:=S
  generalize β 16 = b7 at S
  generalize β 17 = b8 at S
  generalize β 18 = b9 at S
  generalize β 19 = b10 at S
  refine wpList_nil (hK _ _ ?_);clear hK K
  replace S:=S.d19.d18.d17.d16.d15.d14.d13.d12.d11.d10.d9.d8.d7.d6.d5.d4
  refine wp_reg fun K hK=>?_
  refine S.s (τ:=QC 64 (-2)) (OpR.conv' (OpR.call1 rfl c_21 (gOf_ok S.ok (rfl : _ = Value.int .i64 (-2)) (by omega))) fun _ _ h=>(QC.eq h (by rfl))) rfl fun a w G S=>?_
  refine S.alloc rfl rfl rfl z_24 zs_24 rfl rfl fun b11 a w G S=>?_
  refine S.store (τ:=QC 64 (-2)) 0 rfl rfl rfl rfl (S.e 0 rfl) tS_24 (S.g 1 rfl) (sh (τ:=QC 64 (-2)) (S.g 1 rfl)) fun w S=>?_
  replace S:=S.n0
  refine wpList_nil (hK _ _ ?_);clear hK K
  replace S:=S.d1
  refine wp_seq_k fun K hK=>?_
  refine S.drawn [⟨47,.g (FX n (([rg,ra,rb,rc]).getD ((orderF ([rg,ra,rb,rc].map FR.val)).getD 3 default) default)),[]⟩,⟨48,.g (FX n (([rg,ra,rb,rc]).getD ((orderF ([rg,ra,rb,rc].map FR.val)).getD 0 default) default)),[]⟩,⟨49,.g (QC (n + n + 1) (((([rg,ra,rb,rc]).getD ((orderF ([rg,ra,rb,rc].map FR.val)).getD 3 default) default).val) + ((([rg,ra,rb,rc]).getD ((orderF ([rg,ra,rb,rc].map FR.val)).getD 0 default) default).val))),[0,1]⟩,⟨50,.g (FX n (([rg,ra,rb,rc]).getD ((orderF ([rg,ra,rb,rc].map FR.val)).getD 1 default) default)),[]⟩,⟨51,.g (FX n (([rg,ra,rb,rc]).getD ((orderF ([rg,ra,rb,rc].map FR.val)).getD 2 default) default)),[]⟩,⟨52,.g (QC (n + n + 1) (((([rg,ra,rb,rc]).getD ((orderF ([rg,ra,rb,rc].map FR.val)).getD 1 default) default).val) + ((([rg,ra,rb,rc]).getD ((orderF ([rg,ra,rb,rc].map FR.val)).getD 2 default) default).val))),[3,4]⟩,⟨53,.g (QC ((n + n + 1) + (n + n + 1) + 1) ((((([rg,ra,rb,rc]).getD ((orderF ([rg,ra,rb,rc].map FR.val)).getD 3 default) default).val) + ((([rg,ra,rb,rc]).getD ((orderF ([rg,ra,rb,rc].map FR.val)).getD 0 default) default).val)) - (((([rg,ra,rb,rc]).getD ((orderF ([rg,ra,rb,rc].map FR.val)).getD 1 default) default).val) + ((([rg,ra,rb,rc]).getD ((orderF ([rg,ra,rb,rc].map FR.val)).getD 2 default) default).val)))),[2,5]⟩,⟨12,.al mkP 24 (some 3) (MT.ex (.agg #[.bool false,.slice none 0 0,.slice none 0 0])),[]⟩] mixedOrders (by kernel_rfl)
   ⟨fun a w G S=>.of rfl (OpR.ldBox S.ok rfl (S.e 1 rfl) (S.box 1 rfl) tS_24),
    fun a w G S=>.of rfl (OpR.ldBox S.ok rfl (S.e 4 rfl) (S.box 4 rfl) tS_24),
    fun a w G S=>.of rfl (OpR.call2 rfl c_32 (gAdd_ok S.ok (FX.toQV (S.g 0 rfl)) (FX.toQV (S.g 1 rfl)) (by omega))),
    fun a w G S=>.of rfl (OpR.ldBox S.ok rfl (S.e 3 rfl) (S.box 3 rfl) tS_24),
    fun a w G S=>.of rfl (OpR.ldBox S.ok rfl (S.e 2 rfl) (S.box 2 rfl) tS_24),
    fun a w G S=>.of rfl (OpR.call2 rfl c_32 (gAdd_ok S.ok (FX.toQV (S.g 0 rfl)) (FX.toQV (S.g 1 rfl)) (by omega))),
    fun a w G S=>.of rfl (OpR.call2 rfl c_31 (gSub_ok S.ok (QC.toQV (S.g 0 rfl)) (QC.toQV (S.g 1 rfl)) (by omega))),
    ⟨fun _=>rfl,rfl,fun a w G S=>OpB.alloc S.ok rfl z_24 zs_24⟩,trivial⟩ fun β a w G S=>?_
  replace S : St W0 G0 65 [(12,PB (β 7)),(53,QC ((n + n + 1) + (n + n + 1) + 1) ((((([rg,ra,rb,rc]).getD ((orderF ([rg,ra,rb,rc].map FR.val)).getD 3 default) default).val) + ((([rg,ra,rb,rc]).getD ((orderF ([rg,ra,rb,rc].map FR.val)).getD 0 default) default).val)) - (((([rg,ra,rb,rc]).getD ((orderF ([rg,ra,rb,rc].map FR.val)).getD 1 default) default).val) + ((([rg,ra,rb,rc]).getD ((orderF ([rg,ra,rb,rc].map FR.val)).getD 2 default) default).val)))),(52,QC (n + n + 1) (((([rg,ra,rb,rc]).getD ((orderF ([rg,ra,rb,rc].map FR.val)).getD 1 default) default).val) + ((([rg,ra,rb,rc]).getD ((orderF ([rg,ra,rb,rc].map FR.val)).getD 2 default) default).val))),(51,FX n (([rg,ra,rb,rc]).getD ((orderF ([rg,ra,rb,rc].map FR.val)).getD 2 default) default)),(50,FX n (([rg,ra,rb,rc]).getD ((orderF ([rg,ra,rb,rc].map FR.val)).getD 1 default) default)),(49,QC (n + n + 1) (((([rg,ra,rb,rc]).getD ((orderF ([rg,ra,rb,rc].map FR.val)).getD 3 default) default).val) + ((([rg,ra,rb,rc]).getD ((orderF ([rg,ra,rb,rc].map FR.val)).getD 0 default) default).val))),(48,FX n (([rg,ra,rb,rc]).getD ((orderF ([rg,ra,rb,rc].map FR.val)).getD 0 default) default)),(47,FX n (([rg,ra,rb,rc]).getD ((orderF ([rg,ra,rb,rc].map FR.val)).getD 3 default) default)),(11,PB b11),(10,PB b10),(9,PB b9),(8,PB b8),(7,PB b7),(6,PB b6),(17,BT (decide (i < 4))),(16,NT i),(15,ARN (some 3) (([rg,ra,rb,rc]).map (FX n))),(3,PB b3),(2,NT 0),(1,PB b1)] [⟨(β 7),24,some 3,MT.ex ((.agg #[.bool false,.slice none 0 0,.slice none 0 0] : Value))⟩,⟨b11,24,some 3,QC 64 (-2)⟩,⟨b10,24,some 3,FX n (([rg,ra,rb,rc]).getD ((orderF ([rg,ra,rb,rc].map FR.val)).getD 3 default) default)⟩,⟨b9,24,some 3,FX n (([rg,ra,rb,rc]).getD ((orderF ([rg,ra,rb,rc].map FR.val)).getD 2 default) default)⟩,⟨b8,24,some 3,FX n (([rg,ra,rb,rc]).getD ((orderF ([rg,ra,rb,rc].map FR.val)).getD 1 default) default)⟩,⟨b7,24,some 3,FX n (([rg,ra,rb,rc]).getD ((orderF ([rg,ra,rb,rc].map FR.val)).getD 0 default) default)⟩,⟨b6,57,some 4,ROWS (none) ((orderF ([rg,ra,rb,rc].map FR.val)).map NT)⟩,⟨b3,49,some 12,ROWS (some 3) (([rg,ra,rb,rc]).map (FX n))⟩,⟨b1,26,some 12,PTS [(some 3,FX n rg),(some 3,FX n ra),(some 3,FX n rb),(some 3,FX n rc)]⟩] a _ _:=S
  generalize β 7 = b12 at S
  refine S.store (τ:=QC ((n + n + 1) + (n + n + 1) + 1) ((((([rg,ra,rb,rc]).getD ((orderF ([rg,ra,rb,rc].map FR.val)).getD 3 default) default).val) + ((([rg,ra,rb,rc]).getD ((orderF ([rg,ra,rb,rc].map FR.val)).getD 0 default) default).val)) - (((([rg,ra,rb,rc]).getD ((orderF ([rg,ra,rb,rc].map FR.val)).getD 1 default) default).val) + ((([rg,ra,rb,rc]).getD ((orderF ([rg,ra,rb,rc].map FR.val)).getD 2 default) default).val)))) 0 rfl rfl rfl rfl (S.e 0 rfl) tS_24 (S.g 1 rfl) (sh (τ:=QC ((n + n + 1) + (n + n + 1) + 1) ((((([rg,ra,rb,rc]).getD ((orderF ([rg,ra,rb,rc].map FR.val)).getD 3 default) default).val) + ((([rg,ra,rb,rc]).getD ((orderF ([rg,ra,rb,rc].map FR.val)).getD 0 default) default).val)) - (((([rg,ra,rb,rc]).getD ((orderF ([rg,ra,rb,rc].map FR.val)).getD 1 default) default).val) + ((([rg,ra,rb,rc]).getD ((orderF ([rg,ra,rb,rc].map FR.val)).getD 2 default) default).val)))) (S.g 1 rfl)) fun w S=>?_
  replace S:=S.n0
  refine wpList_nil (hK _ _ ?_);clear hK K
  replace S:=S.d7.d6.d5.d4.d3.d2.d1
  refine wp_seq_k fun K hK=>?_
  refine wp_seq_k fun K hK=>?_
  refine S.drawn [⟨54,.g (QC ((n + n + 1) + (n + n + 1) + 1) ((((([rg,ra,rb,rc]).getD ((orderF ([rg,ra,rb,rc].map FR.val)).getD 3 default) default).val) + ((([rg,ra,rb,rc]).getD ((orderF ([rg,ra,rb,rc].map FR.val)).getD 0 default) default).val)) - (((([rg,ra,rb,rc]).getD ((orderF ([rg,ra,rb,rc].map FR.val)).getD 1 default) default).val) + ((([rg,ra,rb,rc]).getD ((orderF ([rg,ra,rb,rc].map FR.val)).getD 2 default) default).val)))),[]⟩,⟨55,.g (QC 64 (-2)),[]⟩,⟨56,.g (FX n (([rg,ra,rb,rc]).getD ((orderF ([rg,ra,rb,rc].map FR.val)).getD 3 default) default)),[]⟩,⟨57,.g (FX n (([rg,ra,rb,rc]).getD ((orderF ([rg,ra,rb,rc].map FR.val)).getD 0 default) default)),[]⟩,⟨58,.g (QC (n + n) (((([rg,ra,rb,rc]).getD ((orderF ([rg,ra,rb,rc].map FR.val)).getD 3 default) default).val) * ((([rg,ra,rb,rc]).getD ((orderF ([rg,ra,rb,rc].map FR.val)).getD 0 default) default).val))),[2,3]⟩,⟨59,.g (QC 64 (-2)),[]⟩,⟨60,.g (FX n (([rg,ra,rb,rc]).getD ((orderF ([rg,ra,rb,rc].map FR.val)).getD 1 default) default)),[]⟩,⟨61,.g (FX n (([rg,ra,rb,rc]).getD ((orderF ([rg,ra,rb,rc].map FR.val)).getD 2 default) default)),[]⟩,⟨62,.g (QC (n + n) (((([rg,ra,rb,rc]).getD ((orderF ([rg,ra,rb,rc].map FR.val)).getD 1 default) default).val) * ((([rg,ra,rb,rc]).getD ((orderF ([rg,ra,rb,rc].map FR.val)).getD 2 default) default).val))),[6,7]⟩,⟨63,.g (IT (surdsF ((((([rg,ra,rb,rc]).getD ((orderF ([rg,ra,rb,rc].map FR.val)).getD 3 default) default).val) + ((([rg,ra,rb,rc]).getD ((orderF ([rg,ra,rb,rc].map FR.val)).getD 0 default) default).val)) - (((([rg,ra,rb,rc]).getD ((orderF ([rg,ra,rb,rc].map FR.val)).getD 1 default) default).val) + ((([rg,ra,rb,rc]).getD ((orderF ([rg,ra,rb,rc].map FR.val)).getD 2 default) default).val))) ((-2)) (((([rg,ra,rb,rc]).getD ((orderF ([rg,ra,rb,rc].map FR.val)).getD 3 default) default).val) * ((([rg,ra,rb,rc]).getD ((orderF ([rg,ra,rb,rc].map FR.val)).getD 0 default) default).val)) ((-2)) (((([rg,ra,rb,rc]).getD ((orderF ([rg,ra,rb,rc].map FR.val)).getD 1 default) default).val) * ((([rg,ra,rb,rc]).getD ((orderF ([rg,ra,rb,rc].map FR.val)).getD 2 default) default).val)))),[0,1,4,5,8]⟩,⟨64,.g (BT (decide (rcloseF [rg,ra,rb,rc] > 0))),[9]⟩] mixedOrders (by kernel_rfl)
   ⟨fun a w G S=>.of rfl (OpR.ldBox S.ok rfl (S.e 0 rfl) (S.box 0 rfl) tS_24),
    fun a w G S=>.of rfl (OpR.ldBox S.ok rfl (S.e 1 rfl) (S.box 1 rfl) tS_24),
    fun a w G S=>.of rfl (OpR.ldBox S.ok rfl (S.e 2 rfl) (S.box 2 rfl) tS_24),
    fun a w G S=>.of rfl (OpR.ldBox S.ok rfl (S.e 5 rfl) (S.box 5 rfl) tS_24),
    fun a w G S=>.of rfl (OpR.call2 rfl c_34 (gMul_ok S.ok (FX.toQV (S.g 0 rfl)) (FX.toQV (S.g 1 rfl)) (by omega))),
    fun a w G S=>.of rfl (OpR.ldBox S.ok rfl (S.e 1 rfl) (S.box 1 rfl) tS_24),
    fun a w G S=>.of rfl (OpR.ldBox S.ok rfl (S.e 4 rfl) (S.box 4 rfl) tS_24),
    fun a w G S=>.of rfl (OpR.ldBox S.ok rfl (S.e 3 rfl) (S.box 3 rfl) tS_24),
    fun a w G S=>.of rfl (OpR.call2 rfl c_34 (gMul_ok S.ok (FX.toQV (S.g 0 rfl)) (FX.toQV (S.g 1 rfl)) (by omega))),
    fun a w G S=>.of rfl (OpR.call5 rfl c_33 (rSurds_ok S.ok (QC.toQV (S.g 0 rfl)) (QC.toQV (S.g 1 rfl)) (QC.toQV (S.g 2 rfl)) (QC.toQV (S.g 3 rfl)) (QC.toQV (S.g 4 rfl)) (by omega))),
    fun a w G S=>.of rfl (OpR.igtr S.ok rfl (S.e 0 rfl) (rfl : _ = nv .i64 0) (bv_eq rfl)),trivial⟩ fun β a w G S=>?_
  replace S : St W0 G0 65 [(64,BT (decide (rcloseF [rg,ra,rb,rc] > 0))),(63,IT (surdsF ((((([rg,ra,rb,rc]).getD ((orderF ([rg,ra,rb,rc].map FR.val)).getD 3 default) default).val) + ((([rg,ra,rb,rc]).getD ((orderF ([rg,ra,rb,rc].map FR.val)).getD 0 default) default).val)) - (((([rg,ra,rb,rc]).getD ((orderF ([rg,ra,rb,rc].map FR.val)).getD 1 default) default).val) + ((([rg,ra,rb,rc]).getD ((orderF ([rg,ra,rb,rc].map FR.val)).getD 2 default) default).val))) ((-2)) (((([rg,ra,rb,rc]).getD ((orderF ([rg,ra,rb,rc].map FR.val)).getD 3 default) default).val) * ((([rg,ra,rb,rc]).getD ((orderF ([rg,ra,rb,rc].map FR.val)).getD 0 default) default).val)) ((-2)) (((([rg,ra,rb,rc]).getD ((orderF ([rg,ra,rb,rc].map FR.val)).getD 1 default) default).val) * ((([rg,ra,rb,rc]).getD ((orderF ([rg,ra,rb,rc].map FR.val)).getD 2 default) default).val)))),(62,QC (n + n) (((([rg,ra,rb,rc]).getD ((orderF ([rg,ra,rb,rc].map FR.val)).getD 1 default) default).val) * ((([rg,ra,rb,rc]).getD ((orderF ([rg,ra,rb,rc].map FR.val)).getD 2 default) default).val))),(61,FX n (([rg,ra,rb,rc]).getD ((orderF ([rg,ra,rb,rc].map FR.val)).getD 2 default) default)),(60,FX n (([rg,ra,rb,rc]).getD ((orderF ([rg,ra,rb,rc].map FR.val)).getD 1 default) default)),(59,QC 64 (-2)),(58,QC (n + n) (((([rg,ra,rb,rc]).getD ((orderF ([rg,ra,rb,rc].map FR.val)).getD 3 default) default).val) * ((([rg,ra,rb,rc]).getD ((orderF ([rg,ra,rb,rc].map FR.val)).getD 0 default) default).val))),(57,FX n (([rg,ra,rb,rc]).getD ((orderF ([rg,ra,rb,rc].map FR.val)).getD 0 default) default)),(56,FX n (([rg,ra,rb,rc]).getD ((orderF ([rg,ra,rb,rc].map FR.val)).getD 3 default) default)),(55,QC 64 (-2)),(54,QC ((n + n + 1) + (n + n + 1) + 1) ((((([rg,ra,rb,rc]).getD ((orderF ([rg,ra,rb,rc].map FR.val)).getD 3 default) default).val) + ((([rg,ra,rb,rc]).getD ((orderF ([rg,ra,rb,rc].map FR.val)).getD 0 default) default).val)) - (((([rg,ra,rb,rc]).getD ((orderF ([rg,ra,rb,rc].map FR.val)).getD 1 default) default).val) + ((([rg,ra,rb,rc]).getD ((orderF ([rg,ra,rb,rc].map FR.val)).getD 2 default) default).val)))),(12,PB b12),(11,PB b11),(10,PB b10),(9,PB b9),(8,PB b8),(7,PB b7),(6,PB b6),(17,BT (decide (i < 4))),(16,NT i),(15,ARN (some 3) (([rg,ra,rb,rc]).map (FX n))),(3,PB b3),(2,NT 0),(1,PB b1)] [⟨b12,24,some 3,QC ((n + n + 1) + (n + n + 1) + 1) ((((([rg,ra,rb,rc]).getD ((orderF ([rg,ra,rb,rc].map FR.val)).getD 3 default) default).val) + ((([rg,ra,rb,rc]).getD ((orderF ([rg,ra,rb,rc].map FR.val)).getD 0 default) default).val)) - (((([rg,ra,rb,rc]).getD ((orderF ([rg,ra,rb,rc].map FR.val)).getD 1 default) default).val) + ((([rg,ra,rb,rc]).getD ((orderF ([rg,ra,rb,rc].map FR.val)).getD 2 default) default).val)))⟩,⟨b11,24,some 3,QC 64 (-2)⟩,⟨b10,24,some 3,FX n (([rg,ra,rb,rc]).getD ((orderF ([rg,ra,rb,rc].map FR.val)).getD 3 default) default)⟩,⟨b9,24,some 3,FX n (([rg,ra,rb,rc]).getD ((orderF ([rg,ra,rb,rc].map FR.val)).getD 2 default) default)⟩,⟨b8,24,some 3,FX n (([rg,ra,rb,rc]).getD ((orderF ([rg,ra,rb,rc].map FR.val)).getD 1 default) default)⟩,⟨b7,24,some 3,FX n (([rg,ra,rb,rc]).getD ((orderF ([rg,ra,rb,rc].map FR.val)).getD 0 default) default)⟩,⟨b6,57,some 4,ROWS (none) ((orderF ([rg,ra,rb,rc].map FR.val)).map NT)⟩,⟨b3,49,some 12,ROWS (some 3) (([rg,ra,rb,rc]).map (FX n))⟩,⟨b1,26,some 12,PTS [(some 3,FX n rg),(some 3,FX n ra),(some 3,FX n rb),(some 3,FX n rc)]⟩] a _ _:=S
  refine wpList_nil (hK _ _ ?_);clear hK K
  replace S:=S.d10.d9.d8.d7.d6.d5.d4.d3.d2.d1
  refine S.cond 0 rfl (fun hc10=>?_) (fun hc10=>?_)
  ·
   have hp11:=of_decide_eq_true hc10
   refine wp_reg fun K hK=>?_
   replace S:=S.d12
   refine S.s (τ:=NT 16) (OpR.asn S.ok rfl (rfl : _ = nv .i64 16)) rfl fun a w G S=>?_
   refine wpList_nil (hK _ _ ?_);clear hK K
   exact wp_ret (then_ret (S.retTmp rfl ((S.e 0 rfl).trans (iv_eq (by first | exact rchk16 (all_end (show ¬ i < 4 by omega) hg) ‹_› | exact rchk0 (all_end (show ¬ i < 4 by omega) hg) ‹_› | exact (chk3 (all_not (show i < 4 by omega) (by first | exact posR_not1 (not_true_of ‹_›) | exact posR_not2 ‹_›))).symm)))))
  ·
   have hp12:=of_decide_eq_false hc10
   refine wp_skip ?_
   refine hK _ _ ?_;clear hK K
   refine wp_reg fun K hK=>?_
   replace S:=S.d12
   refine S.s (τ:=NT 0) (OpR.asn S.ok rfl (rfl : _ = nv .i64 0)) rfl fun a w G S=>?_
   refine wpList_nil (hK _ _ ?_);clear hK K
   exact wp_ret (S.retTmp rfl ((S.e 0 rfl).trans (iv_eq (by first | exact rchk16 (all_end (show ¬ i < 4 by omega) hg) ‹_› | exact rchk0 (all_end (show ¬ i < 4 by omega) hg) ‹_› | exact (chk3 (all_not (show i < 4 by omega) (by first | exact posR_not1 (not_true_of ‹_›) | exact posR_not2 ‹_›))).symm))))
theorem rExcess_ok {n : Nat} {rg ra rb rc : FR} {v1 : Value} {W0 : World} {G0 : Gh} (hok : Gok W0 G0) (h1 : (PTS [(some 3,FX n rg),(some 3,FX n ra),(some 3,FX n rb),(some 3,FX n rc)]).t v1 G0) (hn : 1000 * n + 10000 ≤ BIG) (hn1 : 1 ≤ n) : Calls Tryz.prog 12 #[v1] W0 (Ret W0 G0 (IT (rexcF [rg,ra,rb,rc]))):=by
 refine St.enter (N:=26) (L:=[(0,PTS [(some 3,FX n rg),(some 3,FX n ra),(some 3,FX n rb),(some 3,FX n rc)])]) (args:=[v1]) Tryz.func12 rfl rfl rfl hok (enter1 h1) fun a S=>?_
 refine wp_reg fun K hK=>?_
 refine S.boxop (x:=.tmp 0) (τ:=PTS [(some 3,FX n rg),(some 3,FX n ra),(some 3,FX n rb),(some 3,FX n rc)]) (S.g 0 rfl) (sh (τ:=PTS [(some 3,FX n rg),(some 3,FX n ra),(some 3,FX n rb),(some 3,FX n rc)]) (S.g 0 rfl)) rfl rfl rfl rfl rfl fun b1 a w G S=>?_
 refine S.s (τ:=NT 0) (OpR.asn S.ok rfl (rfl : _ = nv .i64 0)) rfl fun a w G S=>?_
 refine wpList_nil (hK _ _ ?_);clear hK K
 replace S:=S.d2
 refine wp_seq_k fun K hK=>?_
 refine S.drawn [⟨5,.g (PTS [(some 3,FX n rg),(some 3,FX n ra),(some 3,FX n rb),(some 3,FX n rc)]),[]⟩,⟨6,.g (ARN (some 3) (([rg,ra,rb,rc]).map (FX n))),[0]⟩,⟨7,.g (PTS [(some 3,FX n rg),(some 3,FX n ra),(some 3,FX n rb),(some 3,FX n rc)]),[]⟩,⟨8,.g (ARN (none) ((orderF ([rg,ra,rb,rc].map FR.val)).map NT)),[2]⟩,⟨3,.al mkP 49 (some 12) (MT.ex (.agg #[.bool false,.slice none 0 0,.slice none 0 0,.bool false,.slice none 0 0,.slice none 0 0,.bool false,.slice none 0 0,.slice none 0 0,.bool false,.slice none 0 0,.slice none 0 0])),[]⟩,⟨4,.al mkP 57 (some 4) (MT.ex (.agg #[.int .i64 0,.int .i64 0,.int .i64 0,.int .i64 0])),[]⟩] mixedOrders (by kernel_rfl)
  ⟨fun a w G S=>.of rfl (OpR.ldBox S.ok rfl (S.e 1 rfl) (S.box 0 rfl) tS_26),
   fun a w G S=>.of rfl (OpR.call1 rfl c_23 (rSquares_ok S.ok (S.g 0 rfl))),
   fun a w G S=>.of rfl (OpR.ldBox S.ok rfl (S.e 1 rfl) (S.box 0 rfl) tS_26),
   fun a w G S=>.of rfl (OpR.call1 rfl c_30 (rSorted_ok S.ok (S.g 0 rfl) (by omega) (by omega))),
   ⟨fun _=>rfl,rfl,fun a w G S=>OpB.alloc S.ok rfl z_49 zs_49⟩,
   ⟨fun _=>rfl,rfl,fun a w G S=>OpB.alloc S.ok rfl z_57 zs_57⟩,trivial⟩ fun β a w G S=>?_
 replace S : St W0 G0 26 [(4,PB (β 5)),(3,PB (β 4)),(8,ARN (none) ((orderF ([rg,ra,rb,rc].map FR.val)).map NT)),(7,PTS [(some 3,FX n rg),(some 3,FX n ra),(some 3,FX n rb),(some 3,FX n rc)]),(6,ARN (some 3) (([rg,ra,rb,rc]).map (FX n))),(5,PTS [(some 3,FX n rg),(some 3,FX n ra),(some 3,FX n rb),(some 3,FX n rc)]),(2,NT 0),(1,PB b1)] [⟨(β 5),57,some 4,MT.ex ((.agg #[.int .i64 0,.int .i64 0,.int .i64 0,.int .i64 0] : Value))⟩,⟨(β 4),49,some 12,MT.ex ((.agg #[.bool false,.slice none 0 0,.slice none 0 0,.bool false,.slice none 0 0,.slice none 0 0,.bool false,.slice none 0 0,.slice none 0 0,.bool false,.slice none 0 0,.slice none 0 0] : Value))⟩,⟨b1,26,some 12,PTS [(some 3,FX n rg),(some 3,FX n ra),(some 3,FX n rb),(some 3,FX n rc)]⟩] a _ _:=S
 generalize β 4 = b3 at S
 generalize β 5 = b4 at S
 refine S.store (τ:=ARN (some 3) (([rg,ra,rb,rc]).map (FX n))) 1 rfl rfl rfl rfl (S.e 1 rfl) tS_49 (S.g 4 rfl) (sh (τ:=ARN (some 3) (([rg,ra,rb,rc]).map (FX n))) (S.g 4 rfl)) fun w S=>?_
 replace S:=S.n1
 replace S:=(S.castBox (τ':=ROWS (some 3) (([rg,ra,rb,rc]).map (FX n))) 1 rfl fun _ h _=>ARN.rows h).n1
 refine S.store (τ:=ARN (none) ((orderF ([rg,ra,rb,rc].map FR.val)).map NT)) 0 rfl rfl rfl rfl (S.e 0 rfl) tS_57 (S.g 2 rfl) (ARN.shN (S.g 2 rfl) (by simp only [List.length_map,bub_len,orderF_len];rfl)) fun w S=>?_
 replace S:=S.n0
 replace S:=(S.castBox (τ':=ROWS (none) ((orderF ([rg,ra,rb,rc].map FR.val)).map NT)) 0 rfl fun _ h _=>ARN.rows h).n0
 refine wpList_nil (hK _ _ ?_);clear hK K
 replace S:=S.d7.d5.d4.d3.d2
 refine wp_seq_k fun K hK=>?_
 have ho0:=orderF_lt ([rg,ra,rb,rc].map FR.val) 0
 have ho1:=orderF_lt ([rg,ra,rb,rc].map FR.val) 1
 have ho2:=orderF_lt ([rg,ra,rb,rc].map FR.val) 2
 have ho3:=orderF_lt ([rg,ra,rb,rc].map FR.val) 3
 have hol:=orderF_len ([rg,ra,rb,rc].map FR.val)
 replace S:=S.d2
 refine S.drawn [⟨9,.g (MT.ex (Value.pointer (some ⟨b4,(0) * (none : Option Nat).getD 1,none⟩))),[]⟩,⟨10,.g (NT ((orderF ([rg,ra,rb,rc].map FR.val)).getD 0 default)),[0]⟩,⟨11,.g (MT.ex (Value.pointer (some ⟨b3,((orderF ([rg,ra,rb,rc].map FR.val)).getD 0 default) * (some 3 : Option Nat).getD 1,none⟩))),[1]⟩,⟨12,.g (FX n (([rg,ra,rb,rc]).getD ((orderF ([rg,ra,rb,rc].map FR.val)).getD 0 default) default)),[2]⟩,⟨13,.g (MT.ex (Value.pointer (some ⟨b4,(3) * (none : Option Nat).getD 1,none⟩))),[]⟩,⟨14,.g (NT ((orderF ([rg,ra,rb,rc].map FR.val)).getD 3 default)),[4]⟩,⟨15,.g (MT.ex (Value.pointer (some ⟨b3,((orderF ([rg,ra,rb,rc].map FR.val)).getD 3 default) * (some 3 : Option Nat).getD 1,none⟩))),[5]⟩,⟨16,.g (FX n (([rg,ra,rb,rc]).getD ((orderF ([rg,ra,rb,rc].map FR.val)).getD 3 default) default)),[6]⟩,⟨17,.g (MT.ex (Value.pointer (some ⟨b4,(1) * (none : Option Nat).getD 1,none⟩))),[]⟩,⟨18,.g (NT ((orderF ([rg,ra,rb,rc].map FR.val)).getD 1 default)),[8]⟩,⟨19,.g (MT.ex (Value.pointer (some ⟨b3,((orderF ([rg,ra,rb,rc].map FR.val)).getD 1 default) * (some 3 : Option Nat).getD 1,none⟩))),[9]⟩,⟨20,.g (FX n (([rg,ra,rb,rc]).getD ((orderF ([rg,ra,rb,rc].map FR.val)).getD 1 default) default)),[10]⟩,⟨21,.g (MT.ex (Value.pointer (some ⟨b4,(2) * (none : Option Nat).getD 1,none⟩))),[]⟩,⟨22,.g (NT ((orderF ([rg,ra,rb,rc].map FR.val)).getD 2 default)),[12]⟩,⟨23,.g (MT.ex (Value.pointer (some ⟨b3,((orderF ([rg,ra,rb,rc].map FR.val)).getD 2 default) * (some 3 : Option Nat).getD 1,none⟩))),[13]⟩,⟨24,.g (FX n (([rg,ra,rb,rc]).getD ((orderF ([rg,ra,rb,rc].map FR.val)).getD 2 default) default)),[14]⟩,⟨25,.g (IT (sumsF ((([rg,ra,rb,rc]).getD ((orderF ([rg,ra,rb,rc].map FR.val)).getD 0 default) default).val) ((([rg,ra,rb,rc]).getD ((orderF ([rg,ra,rb,rc].map FR.val)).getD 3 default) default).val) ((([rg,ra,rb,rc]).getD ((orderF ([rg,ra,rb,rc].map FR.val)).getD 1 default) default).val) ((([rg,ra,rb,rc]).getD ((orderF ([rg,ra,rb,rc].map FR.val)).getD 2 default) default).val))),[3,7,11,15]⟩,⟨2,.g (IT (sumsF ((([rg,ra,rb,rc]).getD ((orderF ([rg,ra,rb,rc].map FR.val)).getD 0 default) default).val) ((([rg,ra,rb,rc]).getD ((orderF ([rg,ra,rb,rc].map FR.val)).getD 3 default) default).val) ((([rg,ra,rb,rc]).getD ((orderF ([rg,ra,rb,rc].map FR.val)).getD 1 default) default).val) ((([rg,ra,rb,rc]).getD ((orderF ([rg,ra,rb,rc].map FR.val)).getD 2 default) default).val))),[16]⟩] mixedOrders (by kernel_rfl)
  ⟨fun a w G S=>.of rfl (OpR.ixAr (i:=0) S.ok rfl Tryz.underlying57 tS_3 (S.e 0 rfl) (rfl : _ = nv .i64 0) rfl (by first | omega | (rw [hol];decide) | (show _ < 4;omega)) rfl),
   fun a w G S=>.of rfl (OpR.ldSM (k:=none) (T:=NT) (xs:=orderF ([rg,ra,rb,rc].map FR.val)) (i:=0) S.ok rfl (S.e 0 rfl) (S.box 0 rfl) tS_3 (by first | omega | (rw [hol];decide) | (show _ < 4;omega))),
   fun a w G S=>.of rfl (OpR.ixAr (i:=(orderF ([rg,ra,rb,rc].map FR.val)).getD 0 default) S.ok rfl Tryz.underlying49 tS_24 (S.e 2 rfl) (S.e 0 rfl) rfl (by first | omega | (rw [hol];decide) | (show _ < 4;omega)) rfl),
   fun a w G S=>.of rfl (OpR.ldSM (k:=some 3) (T:=(FX n)) (xs:=[rg,ra,rb,rc]) (i:=(orderF ([rg,ra,rb,rc].map FR.val)).getD 0 default) S.ok rfl (S.e 0 rfl) (S.box 1 rfl) tS_24 (by first | omega | (rw [hol];decide) | (show _ < 4;omega))),
   fun a w G S=>.of rfl (OpR.ixAr (i:=3) S.ok rfl Tryz.underlying57 tS_3 (S.e 0 rfl) (rfl : _ = nv .i64 3) rfl (by first | omega | (rw [hol];decide) | (show _ < 4;omega)) rfl),
   fun a w G S=>.of rfl (OpR.ldSM (k:=none) (T:=NT) (xs:=orderF ([rg,ra,rb,rc].map FR.val)) (i:=3) S.ok rfl (S.e 0 rfl) (S.box 0 rfl) tS_3 (by first | omega | (rw [hol];decide) | (show _ < 4;omega))),
   fun a w G S=>.of rfl (OpR.ixAr (i:=(orderF ([rg,ra,rb,rc].map FR.val)).getD 3 default) S.ok rfl Tryz.underlying49 tS_24 (S.e 2 rfl) (S.e 0 rfl) rfl (by first | omega | (rw [hol];decide) | (show _ < 4;omega)) rfl),
   fun a w G S=>.of rfl (OpR.ldSM (k:=some 3) (T:=(FX n)) (xs:=[rg,ra,rb,rc]) (i:=(orderF ([rg,ra,rb,rc].map FR.val)).getD 3 default) S.ok rfl (S.e 0 rfl) (S.box 1 rfl) tS_24 (by first | omega | (rw [hol];decide) | (show _ < 4;omega))),
   fun a w G S=>.of rfl (OpR.ixAr (i:=1) S.ok rfl Tryz.underlying57 tS_3 (S.e 0 rfl) (rfl : _ = nv .i64 1) rfl (by first | omega | (rw [hol];decide) | (show _ < 4;omega)) rfl),
   fun a w G S=>.of rfl (OpR.ldSM (k:=none) (T:=NT) (xs:=orderF ([rg,ra,rb,rc].map FR.val)) (i:=1) S.ok rfl (S.e 0 rfl) (S.box 0 rfl) tS_3 (by first | omega | (rw [hol];decide) | (show _ < 4;omega))),
   fun a w G S=>.of rfl (OpR.ixAr (i:=(orderF ([rg,ra,rb,rc].map FR.val)).getD 1 default) S.ok rfl Tryz.underlying49 tS_24 (S.e 2 rfl) (S.e 0 rfl) rfl (by first | omega | (rw [hol];decide) | (show _ < 4;omega)) rfl),
   fun a w G S=>.of rfl (OpR.ldSM (k:=some 3) (T:=(FX n)) (xs:=[rg,ra,rb,rc]) (i:=(orderF ([rg,ra,rb,rc].map FR.val)).getD 1 default) S.ok rfl (S.e 0 rfl) (S.box 1 rfl) tS_24 (by first | omega | (rw [hol];decide) | (show _ < 4;omega))),
   fun a w G S=>.of rfl (OpR.ixAr (i:=2) S.ok rfl Tryz.underlying57 tS_3 (S.e 0 rfl) (rfl : _ = nv .i64 2) rfl (by first | omega | (rw [hol];decide) | (show _ < 4;omega)) rfl),
   fun a w G S=>.of rfl (OpR.ldSM (k:=none) (T:=NT) (xs:=orderF ([rg,ra,rb,rc].map FR.val)) (i:=2) S.ok rfl (S.e 0 rfl) (S.box 0 rfl) tS_3 (by first | omega | (rw [hol];decide) | (show _ < 4;omega))),
   fun a w G S=>.of rfl (OpR.ixAr (i:=(orderF ([rg,ra,rb,rc].map FR.val)).getD 2 default) S.ok rfl Tryz.underlying49 tS_24 (S.e 2 rfl) (S.e 0 rfl) rfl (by first | omega | (rw [hol];decide) | (show _ < 4;omega)) rfl),
   fun a w G S=>.of rfl (OpR.ldSM (k:=some 3) (T:=(FX n)) (xs:=[rg,ra,rb,rc]) (i:=(orderF ([rg,ra,rb,rc].map FR.val)).getD 2 default) S.ok rfl (S.e 0 rfl) (S.box 1 rfl) tS_24 (by first | omega | (rw [hol];decide) | (show _ < 4;omega))),
   fun a w G S=>.of rfl (OpR.call4 rfl c_38 (rsums_ok S.ok (FX.toQV (S.g 0 rfl)) (FX.toQV (S.g 1 rfl)) (FX.toQV (S.g 2 rfl)) (FX.toQV (S.g 3 rfl)) (by omega))),
   fun a w G S=>.of rfl (OpR.asn S.ok rfl (S.g 0 rfl)),trivial⟩ fun β a w G S=>?_
 replace S : St W0 G0 26 [(2,IT (sumsF ((([rg,ra,rb,rc]).getD ((orderF ([rg,ra,rb,rc].map FR.val)).getD 0 default) default).val) ((([rg,ra,rb,rc]).getD ((orderF ([rg,ra,rb,rc].map FR.val)).getD 3 default) default).val) ((([rg,ra,rb,rc]).getD ((orderF ([rg,ra,rb,rc].map FR.val)).getD 1 default) default).val) ((([rg,ra,rb,rc]).getD ((orderF ([rg,ra,rb,rc].map FR.val)).getD 2 default) default).val))),(25,IT (sumsF ((([rg,ra,rb,rc]).getD ((orderF ([rg,ra,rb,rc].map FR.val)).getD 0 default) default).val) ((([rg,ra,rb,rc]).getD ((orderF ([rg,ra,rb,rc].map FR.val)).getD 3 default) default).val) ((([rg,ra,rb,rc]).getD ((orderF ([rg,ra,rb,rc].map FR.val)).getD 1 default) default).val) ((([rg,ra,rb,rc]).getD ((orderF ([rg,ra,rb,rc].map FR.val)).getD 2 default) default).val))),(24,FX n (([rg,ra,rb,rc]).getD ((orderF ([rg,ra,rb,rc].map FR.val)).getD 2 default) default)),(23,MT.ex (Value.pointer (some ⟨b3,((orderF ([rg,ra,rb,rc].map FR.val)).getD 2 default) * (some 3 : Option Nat).getD 1,none⟩))),(22,NT ((orderF ([rg,ra,rb,rc].map FR.val)).getD 2 default)),(21,MT.ex (Value.pointer (some ⟨b4,(2) * (none : Option Nat).getD 1,none⟩))),(20,FX n (([rg,ra,rb,rc]).getD ((orderF ([rg,ra,rb,rc].map FR.val)).getD 1 default) default)),(19,MT.ex (Value.pointer (some ⟨b3,((orderF ([rg,ra,rb,rc].map FR.val)).getD 1 default) * (some 3 : Option Nat).getD 1,none⟩))),(18,NT ((orderF ([rg,ra,rb,rc].map FR.val)).getD 1 default)),(17,MT.ex (Value.pointer (some ⟨b4,(1) * (none : Option Nat).getD 1,none⟩))),(16,FX n (([rg,ra,rb,rc]).getD ((orderF ([rg,ra,rb,rc].map FR.val)).getD 3 default) default)),(15,MT.ex (Value.pointer (some ⟨b3,((orderF ([rg,ra,rb,rc].map FR.val)).getD 3 default) * (some 3 : Option Nat).getD 1,none⟩))),(14,NT ((orderF ([rg,ra,rb,rc].map FR.val)).getD 3 default)),(13,MT.ex (Value.pointer (some ⟨b4,(3) * (none : Option Nat).getD 1,none⟩))),(12,FX n (([rg,ra,rb,rc]).getD ((orderF ([rg,ra,rb,rc].map FR.val)).getD 0 default) default)),(11,MT.ex (Value.pointer (some ⟨b3,((orderF ([rg,ra,rb,rc].map FR.val)).getD 0 default) * (some 3 : Option Nat).getD 1,none⟩))),(10,NT ((orderF ([rg,ra,rb,rc].map FR.val)).getD 0 default)),(9,MT.ex (Value.pointer (some ⟨b4,(0) * (none : Option Nat).getD 1,none⟩))),(4,PB b4),(3,PB b3)] [⟨b4,57,some 4,ROWS (none) ((orderF ([rg,ra,rb,rc].map FR.val)).map NT)⟩,⟨b3,49,some 12,ROWS (some 3) (([rg,ra,rb,rc]).map (FX n))⟩,⟨b1,26,some 12,PTS [(some 3,FX n rg),(some 3,FX n ra),(some 3,FX n rb),(some 3,FX n rc)]⟩] a _ _:=S
 refine wpList_nil (hK _ _ ?_);clear hK K
 replace S:=S.d17.d16.d15.d14.d13.d12.d11.d10.d9.d8.d7.d6.d5.d4.d3.d2.d1
 exact wp_ret (S.retTmp rfl ((S.e 0 rfl).trans (iv_eq rfl)))
theorem rClass_ok {n : Nat} {rg ra rb rc : FR} {v1 : Value} {W0 : World} {G0 : Gh} (hok : Gok W0 G0) (h1 : (PTS [(some 3,FX n rg),(some 3,FX n ra),(some 3,FX n rb),(some 3,FX n rc)]).t v1 G0) (hn : 1000 * n + 10000 ≤ BIG) (hn1 : 1 ≤ n) : Calls Tryz.prog 13 #[v1] W0 (Ret W0 G0 (IT (rclsF [rg,ra,rb,rc]))):=by
 refine St.enter (N:=14) (L:=[(0,PTS [(some 3,FX n rg),(some 3,FX n ra),(some 3,FX n rb),(some 3,FX n rc)])]) (args:=[v1]) Tryz.func13 rfl rfl rfl hok (enter1 h1) fun a S=>?_
 refine wp_reg fun K hK=>?_
 refine S.boxop (x:=.tmp 0) (τ:=PTS [(some 3,FX n rg),(some 3,FX n ra),(some 3,FX n rb),(some 3,FX n rc)]) (S.g 0 rfl) (sh (τ:=PTS [(some 3,FX n rg),(some 3,FX n ra),(some 3,FX n rb),(some 3,FX n rc)]) (S.g 0 rfl)) rfl rfl rfl rfl rfl fun b1 a w G S=>?_
 refine S.s (τ:=NT 0) (OpR.asn S.ok rfl (rfl : _ = nv .i64 0)) rfl fun a w G S=>?_
 refine wpList_nil (hK _ _ ?_);clear hK K
 replace S:=S.d2
 refine wp_seq_k fun K hK=>?_
 refine wp_reg fun K hK=>?_
 refine S.s (OpR.ldBox S.ok rfl (S.e 1 rfl) (S.box 0 rfl) tS_26) rfl fun a w G S=>?_
 refine S.s (τ:=IT (rexcF [rg,ra,rb,rc])) (OpR.call1 rfl c_12 (rExcess_ok S.ok (S.g 0 rfl) (by omega) (by omega))) rfl fun a w G S=>?_
 refine wpList_nil (hK _ _ ?_);clear hK K
 replace S:=S.d1
 refine wp_block ?_
 refine wp_reg fun K hK=>?_
 refine S.s (OpR.zeql S.ok rfl (S.e 0 rfl) (rfl : _ = nv .i64 1) MT.self) rfl fun a w G S=>?_
 refine S.s (OpR.asn S.ok rfl (S.g 0 rfl)) rfl fun a w G S=>?_
 refine wpList_nil (hK _ _ ?_);clear hK K
 replace S:=S.d1
 refine S.cond 0 rfl (fun hc1=>?_) (fun hc1=>?_)
 ·
  have hp2:=of_decide_eq_true hc1
  refine wp_reg fun K hK=>?_
  replace S:=S.d2
  refine S.s (τ:=NT 4) (OpR.asn S.ok rfl (rfl : _ = nv .i64 4)) rfl fun a w G S=>?_
  refine wpList_nil (hK _ _ ?_);clear hK K
  exact wp_ret (block_ret (then_ret (S.retTmp rfl ((S.e 0 rfl).trans (iv_eq (by unfold rclsF;first | rw [if_pos ‹_›];rfl | (rw [if_neg (by omega),if_pos (by omega)];rfl) | (rw [if_neg (by omega),if_neg (by omega)])))))))
 ·
  have hp3:=of_decide_eq_false hc1
  refine wp_reg fun K hK=>?_
  refine S.s (OpR.zeql S.ok rfl (S.e 1 rfl) (rfl : _ = nv .i64 0) MT.self) rfl fun a w G S=>?_
  refine S.s (OpR.asn S.ok rfl (S.g 0 rfl)) rfl fun a w G S=>?_
  refine wpList_nil (hK _ _ ?_);clear hK K
  replace S:=S.d1
  refine S.cond 0 rfl (fun hc4=>?_) (fun hc4=>?_)
  ·
   have hp5:=of_decide_eq_true hc4
   refine wp_reg fun K hK=>?_
   replace S:=S.d3
   refine S.s (τ:=NT 5) (OpR.asn S.ok rfl (rfl : _ = nv .i64 5)) rfl fun a w G S=>?_
   refine wpList_nil (hK _ _ ?_);clear hK K
   exact wp_ret (block_ret (then_ret (S.retTmp rfl ((S.e 0 rfl).trans (iv_eq (by unfold rclsF;first | rw [if_pos ‹_›];rfl | (rw [if_neg (by omega),if_pos (by omega)];rfl) | (rw [if_neg (by omega),if_neg (by omega)])))))))
  ·
   have hp6:=of_decide_eq_false hc4
   refine wp_skip ?_
   refine hK _ _ ?_;clear hK K
   refine wp_reg fun K hK=>?_
   have ho0:=orderF_lt ([rg,ra,rb,rc].map FR.val) 0
   have ho1:=orderF_lt ([rg,ra,rb,rc].map FR.val) 1
   have ho2:=orderF_lt ([rg,ra,rb,rc].map FR.val) 2
   have ho3:=orderF_lt ([rg,ra,rb,rc].map FR.val) 3
   have hol:=orderF_len ([rg,ra,rb,rc].map FR.val)
   refine S.s (τ:=ARN (none) (([1,0,2,3]).map NT)) (OpR.conv' (OpR.bldP (us:=[Value.int .i64 (1),Value.int .i64 (0),Value.int .i64 (2),Value.int .i64 (3)]) (fs:=(List.map NT [1,0,2,3]).map fun τ=>(none,τ)) S.ok rfl (by simp only [List.map_toArray,List.map_cons,List.map_nil];exact ap_57 (u0:=Value.int .i64 (1)) (u1:=Value.int .i64 (0)) (u2:=Value.int .i64 (2)) (u3:=Value.int .i64 (3)) ⟨_,(rfl : _ = nv .i64 1)⟩ ⟨_,(rfl : _ = nv .i64 0)⟩ ⟨_,(rfl : _ = nv .i64 2)⟩ ⟨_,(rfl : _ = nv .i64 3)⟩) rfl (pts_cons (sh (τ:=NT 1) (G:=fun _=>none) (rfl : _ = nv .i64 1)) (rfl : _ = nv .i64 1) (pts_cons (sh (τ:=NT 0) (G:=fun _=>none) (rfl : _ = nv .i64 0)) (rfl : _ = nv .i64 0) (pts_cons (sh (τ:=NT 2) (G:=fun _=>none) (rfl : _ = nv .i64 2)) (rfl : _ = nv .i64 2) (pts_cons (sh (τ:=NT 3) (G:=fun _=>none) (rfl : _ = nv .i64 3)) (rfl : _ = nv .i64 3) pts_nil))))) fun _ _ h=>PTS.arn h) rfl fun a w G S=>?_
   refine S.s (OpR.ldBox S.ok rfl (S.e 5 rfl) (S.box 0 rfl) tS_26) rfl fun a w G S=>?_
   refine S.s (τ:=ARN (none) ((orderF ([rg,ra,rb,rc].map FR.val)).map NT)) (OpR.call1 rfl c_30 (rSorted_ok S.ok (S.g 0 rfl) (by omega) (by omega))) rfl fun a w G S=>?_
   refine S.s (τ:=NT ((orderF ([rg,ra,rb,rc].map FR.val)).getD 0 default)) (OpR.ixV (T:=NT) (xs:=orderF ([rg,ra,rb,rc].map FR.val)) (i:=0) S.ok rfl Tryz.underlying57 tS_3 (S.g 0 rfl) (rfl : _ = nv .i64 0) rfl (orderF_len _).symm (by decide)) rfl fun a w G S=>?_
   refine S.s (τ:=NT (([1,0,2,3]).getD ((orderF ([rg,ra,rb,rc].map FR.val)).getD 0 default) default)) (OpR.ixV (T:=NT) (xs:=[1,0,2,3]) (i:=(orderF ([rg,ra,rb,rc].map FR.val)).getD 0 default) S.ok rfl Tryz.underlying57 tS_3 (S.g 3 rfl) (S.e 0 rfl) rfl rfl (show _ < 4 by omega)) rfl fun a w G S=>?_
   replace S:=S.d8
   refine S.s (OpR.asn S.ok rfl (S.g 0 rfl)) rfl fun a w G S=>?_
   refine wpList_nil (hK _ _ ?_);clear hK K
   replace S:=S.d5.d4.d3.d2.d1
   exact wp_ret (S.retTmp rfl ((S.e 0 rfl).trans (iv_eq (by unfold rclsF;first | rw [if_pos ‹_›];rfl | (rw [if_neg (by omega),if_pos (by omega)];rfl) | (rw [if_neg (by omega),if_neg (by omega)])))))
end Go.Proofs.YtdeihehaheelmaaGreat
namespace Go.Proofs.YtdeihehaheelmaaGreat
set_option maxHeartbeats 1000000
set_option maxRecDepth 100000
open Go.RowKit (Below)
private theorem c_10 : callable Tryz.prog 10 = true:=by kernel_rfl
private theorem c_11 : callable Tryz.prog 11 = true:=by kernel_rfl
private theorem c_13 : callable Tryz.prog 13 = true:=by kernel_rfl
private theorem c_5 : callable Tryz.prog 5 = true:=by kernel_rfl
private theorem c_6 : callable Tryz.prog 6 = true:=by kernel_rfl
private theorem c_7 : callable Tryz.prog 7 = true:=by kernel_rfl
private theorem c_8 : callable Tryz.prog 8 = true:=by kernel_rfl
private theorem c_9 : callable Tryz.prog 9 = true:=by kernel_rfl
private theorem if_30 : ifaceT Tryz.prog 30:=by unfold ifaceT;kernel_rfl
theorem lClasses_ok {rg ra rb rc : FR} {v1 : Value} {W0 : World} {G0 : Gh} (hok : Gok W0 G0) (h1 : (PTS [(some 3,RX rg),(some 3,RX ra),(some 3,RX rb),(some 3,RX rc)]).t v1 G0)  : Calls Tryz.prog 3 #[v1] W0 (Ret W0 G0 (BT true)):=by
 refine St.enter (N:=71) (L:=[(0,PTS [(some 3,RX rg),(some 3,RX ra),(some 3,RX rb),(some 3,RX rc)])]) (args:=[v1]) Tryz.func3 rfl rfl rfl hok (enter1 h1) fun a S=>?_
 refine wp_reg fun K hK=>?_
 refine S.boxop (x:=.tmp 0) (τ:=PTS [(some 3,RX rg),(some 3,RX ra),(some 3,RX rb),(some 3,RX rc)]) (S.g 0 rfl) (sh (τ:=PTS [(some 3,RX rg),(some 3,RX ra),(some 3,RX rb),(some 3,RX rc)]) (S.g 0 rfl)) rfl rfl rfl rfl rfl fun b1 a w G S=>?_
 refine S.s (τ:=BT false) (OpR.asn S.ok rfl rfl) rfl fun a w G S=>?_
 refine wpList_nil (hK _ _ ?_);clear hK K
 replace S:=S.d2
 refine wp_seq_k fun K hK=>?_
 refine wp_reg fun K hK=>?_
 refine S.s (τ:=BT true) (OpR.call0 rfl c_5 (lawake_ok S.ok )) rfl fun a w G S=>?_
 refine S.s (τ:=BT false) (OpR.bnot S.ok rfl (S.e 0 rfl) rfl) rfl fun a w G S=>?_
 refine S.s (OpR.mv S.ok rfl (S.g 0 rfl)) rfl fun a w G S=>?_
 refine S.stepG 0 (OpR.ldBox S.ok rfl (S.e 4 rfl) (S.box 0 rfl) tS_26) rfl rfl rfl rfl rfl rfl fun a w G S=>?_
 refine S.stepG (τ:=BT (shortF [rg,ra,rb,rc])) 1 (OpR.call1 rfl c_6 (lshort_ok S.ok (S.g 0 rfl))) rfl rfl rfl rfl rfl rfl fun a w G S=>?_
 refine S.stepG 2 (OpR.bnot S.ok rfl (S.e 0 rfl) MT.self) rfl rfl rfl rfl rfl rfl fun a w G S=>?_
 refine S.s (τ:=BT (!(shortF [rg,ra,rb,rc]))) (OpR.pick S.ok rfl (S.e 3 rfl) (S.g 0 rfl)) rfl fun a w G S=>?_
 refine wpList_nil (hK _ _ ?_);clear hK K
 replace S:=S.d6.d5.d4.d3.d2.d1
 refine S.cond 0 rfl (fun hc1=>?_) (fun hc1=>?_)
 ·
  refine wp_reg fun K hK=>?_
  refine S.s (τ:=BT true) (OpR.call0 rfl c_5 (lawake_ok S.ok )) rfl fun a w G S=>?_
  replace S:=S.d2
  refine S.s (OpR.asn S.ok rfl (S.g 0 rfl)) rfl fun a w G S=>?_
  refine wpList_nil (hK _ _ ?_);clear hK K
  replace S:=S.d1
  exact wp_ret (then_ret (S.retTmp rfl (S.g 0 rfl)))
 ·
  have hs1:=not_false_of hc1
  refine wp_skip ?_
  refine hK _ _ ?_;clear hK K
  refine wp_reg fun K hK=>?_
  replace S:=(S.castBox (τ':=PTS [(some 3,FX 64 rg),(some 3,FX 64 ra),(some 3,FX 64 rb),(some 3,FX 64 rc)]) 0 rfl fun _ h _=>quad_toFX h hs1).n0
  refine S.s (OpR.ldBox S.ok rfl (S.e 2 rfl) (S.box 0 rfl) tS_26) rfl fun a w G S=>?_
  refine S.s (τ:=MT.tup2 (IT (excRes [rg,ra,rb,rc])) (MT.ex (errV 43 (chkF [rg,ra,rb,rc])))) (OpR.call1 rfl c_7 (xExcess_ok S.ok (S.g 0 rfl) (by decide) (by decide))) rfl fun a w G S=>?_
  refine S.s (OpR.mv S.ok rfl (S.g 0 rfl)) rfl fun a w G S=>?_
  refine S.s (OpR.ext2a S.ok rfl (S.g 0 rfl)) rfl fun a w G S=>?_
  refine S.s (OpR.ext2b S.ok rfl (S.g 1 rfl)) rfl fun a w G S=>?_
  refine S.s (OpR.asn S.ok rfl (S.g 1 rfl)) rfl fun a w G S=>?_
  refine S.s (OpR.asn S.ok rfl (S.g 1 rfl)) rfl fun a w G S=>?_
  refine wpList_nil (hK _ _ ?_);clear hK K
  replace S:=S.d6.d5.d4.d3.d2
  refine wp_reg fun K hK=>?_
  refine S.s (OpR.ldBox S.ok rfl (S.e 4 rfl) (S.box 0 rfl) tS_26) rfl fun a w G S=>?_
  refine S.s (τ:=MT.tup2 (IT (clsF [rg,ra,rb,rc])) (MT.ex (errV 43 (chkF [rg,ra,rb,rc])))) (OpR.call1 rfl c_8 (xClass_ok S.ok (S.g 0 rfl) (by decide) (by decide))) rfl fun a w G S=>?_
  refine S.s (OpR.mv S.ok rfl (S.g 0 rfl)) rfl fun a w G S=>?_
  refine S.s (OpR.ext2a S.ok rfl (S.g 0 rfl)) rfl fun a w G S=>?_
  refine S.s (OpR.ext2b S.ok rfl (S.g 1 rfl)) rfl fun a w G S=>?_
  refine S.s (OpR.asn S.ok rfl (S.g 1 rfl)) rfl fun a w G S=>?_
  refine S.s (OpR.asn S.ok rfl (S.g 1 rfl)) rfl fun a w G S=>?_
  refine wpList_nil (hK _ _ ?_);clear hK K
  replace S:=S.d6.d5.d4.d3.d2
  refine wp_reg fun K hK=>?_
  refine S.s (OpR.ldBox S.ok rfl (S.e 6 rfl) (S.box 0 rfl) tS_26) rfl fun a w G S=>?_
  refine S.s (τ:=IT (chkF [rg,ra,rb,rc])) (OpR.call1 rfl c_9 (rCheck_ok S.ok (S.g 0 rfl) (by decide) (by decide))) rfl fun a w G S=>?_
  refine S.s (OpR.asn S.ok rfl (S.g 0 rfl)) rfl fun a w G S=>?_
  refine wpList_nil (hK _ _ ?_);clear hK K
  replace S:=S.d2.d1
  refine wp_seq_k fun K hK=>?_
  refine wp_reg fun K hK=>?_
  refine S.s (OpR.ldBox S.ok rfl (S.e 7 rfl) (S.box 0 rfl) tS_26) rfl fun a w G S=>?_
  refine S.s (τ:=MT.ex (errV 43 (chkF [rg,ra,rb,rc]))) (OpR.call1 rfl c_11 (xCheck_ok S.ok (S.g 0 rfl) (by decide) (by decide))) rfl fun a w G S=>?_
  refine S.s (τ:=IT (?z)) (OpR.call1 rfl c_10 (bNum_ok S.ok ((S.e 0 rfl).trans (by first | rfl | omega | (simp only [Nat.zero_add,Nat.add_zero];done) | (simp;done) | (push_cast;omega))))) rfl fun a w G S=>?_
  refine S.s (OpR.mv S.ok rfl (S.g 3 rfl)) rfl fun a w G S=>?_
  refine S.s (τ:=BT false) (OpR.zneq S.ok rfl (S.e 1 rfl) (S.e 0 rfl) (bv_eq (by simp))) rfl fun a w G S=>?_
  refine wpList_nil (hK _ _ ?_);clear hK K
  replace S:=S.d4.d3.d2.d1
  refine wp_cond_false (S.e 0 rfl) ?_
  refine wp_skip ?_
  refine hK _ _ ?_;clear hK K
  refine wp_seq_k fun K hK=>?_
  refine wp_reg fun K hK=>?_
  refine S.s (OpR.mv S.ok rfl (S.g 1 rfl)) rfl fun a w G S=>?_
  refine S.s (OpR.zneq S.ok rfl (S.e 0 rfl) (rfl : _ = nv .i64 0) MT.self) rfl fun a w G S=>?_
  refine wpList_nil (hK _ _ ?_);clear hK K
  replace S:=S.d1
  refine S.cond 0 rfl (fun hc4=>?_) (fun hc4=>?_)
  ·
   have hp5:=of_decide_eq_true hc4
   have hck:=hp5
   refine wp_reg fun K hK=>?_
   refine S.s (OpR.mv S.ok rfl (S.g 6 rfl)) rfl fun a w G S=>?_
   refine S.s (τ:=BT true) (OpR.zeql S.ok rfl (S.e 0 rfl) (rfl : _ = nv .i64 0) (bv_eq (decide_eq_true (excRes0 hck)))) rfl fun a w G S=>?_
   refine S.s (OpR.mv S.ok rfl (S.g 0 rfl)) rfl fun a w G S=>?_
   refine S.stepG 0 (OpR.mv S.ok rfl (S.g 7 rfl)) rfl rfl rfl rfl rfl rfl fun a w G S=>?_
   refine S.stepG (τ:=BT true) 1 (OpR.zeql S.ok rfl (S.e 0 rfl) (rfl : _ = nv .i64 0) (bv_eq (decide_eq_true (clsF0 hck)))) rfl rfl rfl rfl rfl rfl fun a w G S=>?_
   refine S.s (τ:=BT true) (OpR.pick S.ok rfl (S.e 2 rfl) (S.g 0 rfl)) rfl fun a w G S=>?_
   refine S.s (OpR.mv S.ok rfl (S.g 0 rfl)) rfl fun a w G S=>?_
   refine S.stepG 0 (OpR.mv S.ok rfl (S.g 12 rfl)) rfl rfl rfl rfl rfl rfl fun a w G S=>?_
   refine S.stepG (τ:=IT (?z)) 1 (OpR.call1 rfl c_10 (bNum_ok S.ok ((S.e 0 rfl).trans (by first | rfl | omega | (simp only [Nat.zero_add,Nat.add_zero];done) | (simp;done) | (push_cast;omega))))) rfl rfl rfl rfl rfl rfl fun a w G S=>?_
   refine S.stepG 2 (OpR.mv S.ok rfl (S.g 11 rfl)) rfl rfl rfl rfl rfl rfl fun a w G S=>?_
   refine S.stepG (τ:=BT true) 3 (OpR.zeql S.ok rfl (S.e 1 rfl) (S.e 0 rfl) (bv_eq (decide_eq_true rfl))) rfl rfl rfl rfl rfl rfl fun a w G S=>?_
   refine S.s (τ:=BT true) (OpR.pick S.ok rfl (S.e 4 rfl) (S.g 0 rfl)) rfl fun a w G S=>?_
   refine S.s (OpR.mv S.ok rfl (S.g 0 rfl)) rfl fun a w G S=>?_
   refine S.stepG 0 (OpR.mv S.ok rfl (S.g 16 rfl)) rfl rfl rfl rfl rfl rfl fun a w G S=>?_
   refine S.stepG (τ:=IT (?z)) 1 (OpR.call1 rfl c_10 (bNum_ok S.ok ((S.e 0 rfl).trans (by first | rfl | omega | (simp only [Nat.zero_add,Nat.add_zero];done) | (simp;done) | (push_cast;omega))))) rfl rfl rfl rfl rfl rfl fun a w G S=>?_
   refine S.stepG 2 (OpR.mv S.ok rfl (S.g 17 rfl)) rfl rfl rfl rfl rfl rfl fun a w G S=>?_
   refine S.stepG (τ:=BT true) 3 (OpR.zeql S.ok rfl (S.e 1 rfl) (S.e 0 rfl) (bv_eq (decide_eq_true rfl))) rfl rfl rfl rfl rfl rfl fun a w G S=>?_
   refine S.s (τ:=BT true) (OpR.pick S.ok rfl (S.e 4 rfl) (S.g 0 rfl)) rfl fun a w G S=>?_
   replace S:=S.d26
   refine S.s (OpR.asn S.ok rfl (S.g 0 rfl)) rfl fun a w G S=>?_
   refine wpList_nil (hK _ _ ?_);clear hK K
   replace S:=S.d18.d17.d16.d15.d14.d13.d12.d11.d10.d9.d8.d7.d6.d5.d4.d3.d2.d1
   exact wp_ret (then_ret (S.retTmp rfl (S.g 0 rfl)))
  ·
   have hp6:=of_decide_eq_false hc4
   have hck : chkF [rg,ra,rb,rc] = 0:=by omega
   refine wp_skip ?_
   refine hK _ _ ?_;clear hK K
   refine wp_reg fun K hK=>?_
   refine S.s (τ:=MT.ex (errV 43 (0))) (OpR.mv S.ok rfl ((S.e 5 rfl).trans (congrArg (errV 43) hck))) rfl fun a w G S=>?_
   refine S.s (τ:=BT true) (OpR.isB (errV_eql.trans (by rfl)) (OpR.errEqNil S.ok rfl if_30 (S.e 0 rfl) (by first | exact .inl rfl | exact .inr ⟨_,_,rfl⟩ | exact errV_or _) rfl)) rfl fun a w G S=>?_
   refine S.s (OpR.mv S.ok rfl (S.g 0 rfl)) rfl fun a w G S=>?_
   refine S.stepG (τ:=MT.ex (errV 43 (0))) 0 (OpR.mv S.ok rfl ((S.e 6 rfl).trans (congrArg (errV 43) hck))) rfl rfl rfl rfl rfl rfl fun a w G S=>?_
   refine S.stepG (τ:=BT true) 1 (OpR.isB (errV_eql.trans (by rfl)) (OpR.errEqNil S.ok rfl if_30 (S.e 0 rfl) (by first | exact .inl rfl | exact .inr ⟨_,_,rfl⟩ | exact errV_or _) rfl)) rfl rfl rfl rfl rfl rfl fun a w G S=>?_
   refine S.s (τ:=BT true) (OpR.pick S.ok rfl (S.e 2 rfl) (S.g 0 rfl)) rfl fun a w G S=>?_
   refine S.s (OpR.mv S.ok rfl (S.g 0 rfl)) rfl fun a w G S=>?_
   refine S.stepG 0 (OpR.mv S.ok rfl (S.g 13 rfl)) rfl rfl rfl rfl rfl rfl fun a w G S=>?_
   refine S.stepG 1 (OpR.ldBox S.ok rfl (S.e 17 rfl) (S.box 0 rfl) tS_26) rfl rfl rfl rfl rfl rfl fun a w G S=>?_
   refine S.stepG (τ:=IT (rexcF [rg,ra,rb,rc])) 2 (OpR.call1 rfl c_12 (rExcess_ok S.ok (S.g 0 rfl) (by decide) (by decide))) rfl rfl rfl rfl rfl rfl fun a w G S=>?_
   refine S.stepG (τ:=BT true) 3 (OpR.zeql S.ok rfl (S.e 2 rfl) (S.e 0 rfl) (bv_eq (decide_eq_true ((excRes1 hck).trans (rexc_eq (chk_pos hck)).symm)))) rfl rfl rfl rfl rfl rfl fun a w G S=>?_
   refine S.s (τ:=BT true) (OpR.pick S.ok rfl (S.e 4 rfl) (S.g 0 rfl)) rfl fun a w G S=>?_
   refine S.s (OpR.mv S.ok rfl (S.g 0 rfl)) rfl fun a w G S=>?_
   refine S.stepG 0 (OpR.mv S.ok rfl (S.g 17 rfl)) rfl rfl rfl rfl rfl rfl fun a w G S=>?_
   refine S.stepG 1 (OpR.ldBox S.ok rfl (S.e 23 rfl) (S.box 0 rfl) tS_26) rfl rfl rfl rfl rfl rfl fun a w G S=>?_
   refine S.stepG (τ:=IT (rclsF [rg,ra,rb,rc])) 2 (OpR.call1 rfl c_13 (rClass_ok S.ok (S.g 0 rfl) (by decide) (by decide))) rfl rfl rfl rfl rfl rfl fun a w G S=>?_
   refine S.stepG (τ:=BT true) 3 (OpR.zeql S.ok rfl (S.e 2 rfl) (S.e 0 rfl) (bv_eq (decide_eq_true (rcls_eq hck).symm))) rfl rfl rfl rfl rfl rfl fun a w G S=>?_
   refine S.s (τ:=BT true) (OpR.pick S.ok rfl (S.e 4 rfl) (S.g 0 rfl)) rfl fun a w G S=>?_
   replace S:=S.d26
   refine S.s (OpR.asn S.ok rfl (S.g 0 rfl)) rfl fun a w G S=>?_
   refine wpList_nil (hK _ _ ?_);clear hK K
   replace S:=S.d18.d17.d16.d15.d14.d13.d12.d11.d10.d9.d8.d7.d6.d5.d4.d3.d2.d1
   exact wp_ret (S.retTmp rfl (S.g 0 rfl))
end Go.Proofs.YtdeihehaheelmaaGreat
namespace Go.Proofs.YtdeihehaheelmaaGreat
open Go.RowKit (Below)
def G0of (W : World) : Gh := fun b => W.heap[b]?
theorem G0of_ok (W : World) : Gok W (G0of W) := fun _ _ h => h
theorem Gc_G0 {W : World} {b i : Nat} : Gc (G0of W) b i = W.cell? ⟨b, i, none⟩ := by
  unfold Gc G0of World.cell?; cases W.heap[b]? with
  | none => rfl
  | some o => cases o <;> rfl
def RdA (P : Program) (W : World) (t : TypeId) (k : Option Nat) (A : MT → Prop) : Prop := ∀ (H : Type) (enc : TypeId × Value → H) (fuel : Nat) (cs : List Value) (x : DataW H × List MemPlace),
  DataW.trod enc P W 0 (fun _ => true) true fuel t cs = some x → (x.1.weights P t).all (· ≤ reachBytes) = true → ∃ (v : Value) (τ : MT), A τ ∧ v.cells.toList = cs ∧ Shaped k v ∧ τ.t v (G0of W)
section
variable {P : Program} {W : World} {t e : TypeId} {k : Option Nat} {A A' : MT → Prop}
theorem RdA.mono (h : RdA P W t k A) (hA : ∀ τ v, A τ → τ.t v (G0of W) → ∃ σ, A' σ ∧ σ.t v (G0of W)) : RdA P W t k A' := fun H enc fuel cs x hx hw => by
  obtain ⟨v, τ, h1, h2, h3, h4⟩ := h H enc fuel cs x hx hw
  obtain ⟨σ, h5, h6⟩ := hA τ v h1 h4
  exact ⟨v, σ, h5, h2, h3, h6⟩
theorem rd_bool (ht : P.underlying t = some .bool) : RdA P W t none (fun τ => ∃ b, τ = .ex (.bool b)) := fun H enc fuel cs x hx hw => by
  obtain ⟨b, rfl, rfl⟩ := DataW.trod_bool ht hx
  exact ⟨.bool b, _, ⟨b, rfl⟩, rfl, ⟨rfl, rfl⟩, rfl⟩
theorem rd_int {kk : IntKind} (ht : P.underlying t = some (.int kk)) : RdA P W t none (fun τ => ∃ z, (Lit.int kk z).wf = true ∧ τ = .ex (.int kk z)) := fun H enc fuel cs x hx hw => by
  obtain ⟨z, rfl, rfl, h⟩ := DataW.trod_int ht hx
  exact ⟨.int kk z, _, ⟨z, h, rfl⟩, rfl, ⟨rfl, rfl⟩, rfl⟩
theorem cells_get {a : Addr} {n : Nat} {L : List Value} (h : W.cells? 0 a n = some L) : L.length = n ∧ ∀ j, j < n → W.cell? (a.add j) = L[j]? := by
  unfold World.cells? at h
  rw [if_pos (Nat.zero_le _)] at h
  exact ⟨by simpa using mapM_some_length h, fun j hj => mapM_some_get h j j (by simp [hj])⟩
theorem weightsAll_mem {H : Type} {es : List (DataW H)} {d : DataW H} {i : Nat} (hi : es[i]? = some d) : ∀ n ∈ d.weights P e, n ∈ DataW.weightsAll P e es := by
  induction es generalizing i with
  | nil => simp at hi
  | cons x r ih =>
    intro n hn
    rw [DataW.weightsAll, List.mem_append]
    cases i with
    | zero => simp at hi; subst hi; exact .inl hn
    | succ j => exact .inr (ih (by simpa using hi) n hn)
theorem rd_slice (ht : P.underlying t = some (.slice e)) (hc : P.cellsOf e = k.getD 1) (hc0 : 0 < k.getD 1) (hb : 4 ≤ P.bytesOf e) (h : RdA P W e k A) : RdA P W t none (fun τ => ∃ τs, (∀ σ ∈ τs, A σ) ∧ τ = LS k τs) := fun H enc fuel cs x hx hw => by
  rcases DataW.trod_slice ht hx with ⟨rfl, rfl⟩ | ⟨a, len, cap, elems, rest, n, rfl, rfl, rfl, hb0, hlc, hcm, hel, hE, _, _⟩
  · exact ⟨.slice none 0 0, LS k [], ⟨[], by simp, rfl⟩, rfl, ⟨rfl, rfl⟩, LS.nil⟩
  · simp only [DataW.weights, ht, List.all_cons, List.all_append, Bool.and_eq_true, decide_eq_true_eq] at hw
    obtain ⟨hw1, hw2, _⟩ := hw
    have hlim : len ≤ LIM := by
      have h1 : len * 4 ≤ ((elems.map (·.1)).length + (rest.map (·.1)).length) * P.bytesOf e := Nat.mul_le_mul (by simp; omega) hb
      have h2 : reachBytes = 140737488351232 := rfl
      simp only [LIM]; omega
    have each : ∀ i, ∃ (v : Value) (τ : MT), i < len → W.cells? 0 (a.add (i * k.getD 1)) (k.getD 1) = some v.cells.toList ∧ A τ ∧ Shaped k v ∧ τ.t v (G0of W) := fun i => by
      by_cases hi : i < len
      · have h1 := hE i hi
        rw [List.getElem?_eq_getElem (by omega), Option.bind_eq_some_iff, hc] at h1
        obtain ⟨cs', h2, h3⟩ := h1
        obtain ⟨v, τ, h4, h5, h6, h7⟩ := h H enc n cs' _ h3 (List.all_eq_true.2 fun m hm => List.all_eq_true.1 hw2 m (weightsAll_mem (i := i) (by rw [List.getElem?_map, List.getElem?_eq_getElem (by omega)]; rfl) m hm))
        exact ⟨v, τ, fun _ => ⟨by rw [h5]; exact h2, h4, h6, h7⟩⟩
      · exact ⟨undef, .ex undef, fun h => absurd h hi⟩
    obtain ⟨f, g, hfg⟩ : ∃ (f : Nat → Value) (g : Nat → MT), ∀ i, i < len → W.cells? 0 (a.add (i * k.getD 1)) (k.getD 1) = some (f i).cells.toList ∧ A (g i) ∧ Shaped k (f i) ∧ (g i).t (f i) (G0of W) := ⟨fun i => (each i).choose, fun i => (each i).choose_spec.choose, fun i => (each i).choose_spec.choose_spec⟩
    refine ⟨.slice (some a) len cap, LS k ((List.range len).map g), ⟨_, fun σ hσ => ?_, rfl⟩, rfl, ⟨rfl, rfl⟩, LS.of_vals (us := (List.range len).map f) (A := some a) (c := cap) (by simp) (by simpa using hlc) (by simpa using hlim) ⟨by simp, fun i τ u hi hu => ?_⟩ fun i u hu => ?_⟩
    · obtain ⟨i, hi, rfl⟩ := List.mem_map.1 hσ
      exact (hfg i (by simpa using hi)).2.1
    · have hlt : i < len := by have := (List.getElem?_eq_some_iff.1 hi).1; simpa using this
      simp [List.getElem?_range hlt] at hi hu
      subst hi; subst hu
      exact (hfg i hlt).2.2
    · have hlt : i < len := by have := (List.getElem?_eq_some_iff.1 hu).1; simpa using this
      simp [List.getElem?_range hlt] at hu
      subst hu
      obtain ⟨h1, h2, h3, h4⟩ := hfg i hlt
      obtain ⟨h5, h6⟩ := cells_get h1
      obtain ⟨g5, g6⟩ := cells_get (hfg 0 (by omega)).1
      obtain ⟨b, off, spot⟩ := a
      have h7 := g6 0 hc0
      rw [List.getElem?_eq_getElem (by omega)] at h7
      have hs : spot = none := by simpa [Addr.add] using World.cell?_spot h7
      subst hs
      refine ⟨b, off, rfl, fun j x hj => ?_⟩
      have hjl : j < k.getD 1 := by have := (Array.getElem?_eq_some_iff.1 hj).1; rw [← h5, Array.length_toList]; exact this
      have h8 := h6 j hjl
      rw [Gc_G0]
      rw [addr_add, addr_add, Array.getElem?_toList, hj] at h8
      exact h8
theorem forall_map' {α : Type} {T : α → MT} {p : α → Prop} {τs : List MT} (h : ∀ σ ∈ τs, ∃ x, p x ∧ σ = T x) : ∃ xs : List α, τs = xs.map T ∧ ∀ x ∈ xs, p x := by
  induction τs with
  | nil => exact ⟨[], rfl, by simp⟩
  | cons a r ih =>
    obtain ⟨l, rfl, hl⟩ := ih fun σ h' => h σ (List.mem_cons_of_mem _ h')
    obtain ⟨x, hx, rfl⟩ := h a (List.mem_cons_self ..)
    exact ⟨x :: l, rfl, by simpa using ⟨hx, hl⟩⟩
theorem rd_words (ht : P.underlying t = some (.slice e)) (hu : P.underlying e = some (.int .u32)) (hc : P.cellsOf e = 1) (hb : 4 ≤ P.bytesOf e) : RdA P W t none (fun τ => ∃ l, τ = SL l) := by
  have h1 : RdA P W e none (fun τ => ∃ x : Nat, x < 4294967296 ∧ τ = .ex (u32 x)) := (rd_int hu).mono fun τ v ⟨z, hz, hτ⟩ hv => by
    subst hτ
    have hm : IntKind.u32.min = 0 := by decide
    have hM : IntKind.u32.max = 4294967295 := by decide
    simp [Lit.wf, hm, hM] at hz
    exact ⟨_, ⟨z.toNat, by omega, rfl⟩, by
      have : (z.toNat : Int) = z := by omega
      show v = .int .u32 (z.toNat : Int); rw [this]; exact hv⟩
  refine (rd_slice (k := none) ht hc (by decide) hb h1).mono fun τ v ⟨τs, hσ, hτ⟩ hv => ?_
  subst hτ
  obtain ⟨l, hl, hlt⟩ := forall_map' hσ
  subst hl
  obtain ⟨A, c, us, h2, h3, h4, h5, h6⟩ := LS.vals hv
  rw [List.length_map] at h2 h3 h4
  refine ⟨_, ⟨l, rfl⟩, A, c, h2, h3, h4, hlt, fun i x hi => ?_⟩
  have hil := (List.getElem?_eq_some_iff.1 hi).1
  have hul : i < us.length := by rw [h5.1, List.length_map]; exact hil
  have hui : us[i]? = some us[i] := by rw [List.getElem?_eq_getElem hul]
  have h7 := (h5.2 i (.ex (u32 x)) us[i] (by rw [List.getElem?_map, hi]; rfl) hui).2
  obtain ⟨b, off, e1, h8⟩ := h6 i us[i] hui
  refine ⟨b, off, e1, ?_⟩
  have h9 : us[i] = u32 x := h7
  rw [h9] at h8
  simpa using h8 0 (u32 x) rfl
def FldOk (P : Program) (W : World) : Nat → List Field → List (Option Nat × (MT → Prop)) → Prop
  | _, [], [] => True
  | off, f :: fs, a :: As => f.offset = off ∧ P.cellsOf f.type = a.1.getD 1 ∧ RdA P W f.type a.1 a.2 ∧ FldOk P W (off + a.1.getD 1) fs As
  | _, _, _ => False
def Mt : List (Option Nat × (MT → Prop)) → List (Option Nat × MT) → Prop
  | [], [] => True
  | a :: As, f :: F => f.1 = a.1 ∧ a.2 f.2 ∧ Mt As F
  | _, _ => False
def tot (As : List (Option Nat × (MT → Prop))) : Nat := (As.map fun a => a.1.getD 1).sum
theorem Mt.tot : ∀ {As : List (Option Nat × (MT → Prop))} {F : List (Option Nat × MT)}, Mt As F → (F.map fun f => f.1.getD 1).sum = Go.Proofs.YtdeihehaheelmaaGreat.tot As
  | [], [], _ => rfl
  | a :: As, f :: F, h => by
    have := Mt.tot h.2.2
    simp only [Go.Proofs.YtdeihehaheelmaaGreat.tot, List.map_cons, List.sum_cons, h.1] at this ⊢
    rw [this]
  | [], _ :: _, h => h.elim
  | _ :: _, [], h => h.elim
theorem rd_fields {H : Type} {enc : TypeId × Value → H} {n : Nat} {cs : List Value} : ∀ (fs : List Field) (As : List (Option Nat × (MT → Prop))) (xs : List (DataW H × List MemPlace)) (off : Nat), FldOk P W off fs As → xs.length = fs.length →
    (∀ (i : Nat) (f : Field), fs[i]? = some f → DataW.trod enc P W 0 (fun _ => true) true n f.type ((cs.drop f.offset).take (P.cellsOf f.type)) = xs[i]?) → (DataW.weightsEach P (fs.map (·.type)) (xs.map (·.1))).all (· ≤ reachBytes) = true → cs.length = off + tot As →
    ∃ us F, Mt As F ∧ flat us = cs.drop off ∧ us.length = F.length ∧ ∀ (i : Nat) (f : Option Nat × MT) (u : Value), F[i]? = some f → us[i]? = some u → Shaped f.1 u ∧ f.2.t u (G0of W)
  | [], [], xs, off, _, _, _, _, hl => ⟨[], [], trivial, by rw [List.drop_eq_nil_of_le (by rw [hl]; simp [tot])]; rfl, rfl, fun i f u h => by simp at h⟩
  | f :: fs, a :: As, [], off, _, hx, _, _, _ => by simp at hx
  | f :: fs, a :: As, x :: xs, off, hF, hx, hT, hw, hl => by
    obtain ⟨h1, h2, h3, h4⟩ := hF
    simp only [List.map_cons, DataW.weightsEach, List.all_append, Bool.and_eq_true] at hw
    obtain ⟨v, τ, h5, h6, h7, h8⟩ := h3 H enc n _ x (hT 0 f rfl) hw.1
    obtain ⟨us, F, g1, g2, g3, g4⟩ := rd_fields fs As xs (off + a.1.getD 1) h4 (by simpa using hx) (fun i g hg => by simpa using hT (i + 1) g (by simpa using hg)) hw.2 (by rw [hl]; simp [tot]; omega)
    refine ⟨v :: us, (a.1, τ) :: F, ⟨rfl, h5, g1⟩, ?_, by simp [g3], fun i f' u hf hu => ?_⟩
    · rw [flat_cons, h6, g2, h1, h2, ← List.drop_drop, List.take_append_drop]
    · cases i with
      | zero => simp at hf hu; subst hf; subst hu; exact ⟨h7, h8⟩
      | succ i => exact g4 i f' u (by simpa using hf) (by simpa using hu)
  | [], _ :: _, _, _, h, _, _, _, _ => h.elim
  | _ :: _, [], _, _, h, _, _, _, _ => h.elim
theorem rd_struct {fs : Array Field} {As : List (Option Nat × (MT → Prop))} {n : Nat} (ht : P.underlying t = some (.struct fs)) (hn : P.cellsOf t = n) (hnA : tot As = n) (hF : FldOk P W 0 fs.toList As) : RdA P W t (some n) (fun τ => ∃ F, Mt As F ∧ τ = PTS F) := fun H enc fuel cs x hx hw => by
  obtain ⟨xs, m, rfl, rfl, hl, hxl, hT⟩ := DataW.trod_struct ht hx
  simp only [DataW.weights, ht] at hw
  obtain ⟨us, F, h1, h2, h3, h4⟩ := rd_fields fs.toList As xs 0 hF (by simpa using hxl) (fun i f hf => hT i f (by simpa using hf)) hw (by omega)
  have hP : (PTS F).t (.agg (flat us).toArray) (G0of W) := ⟨us, rfl, h3, h4⟩
  refine ⟨.agg (flat us).toArray, PTS F, ⟨F, h1, rfl⟩, by rw [h2]; rfl, PTS.shaped (by unfold offs; rw [List.take_length, h1.tot, hnA]) hP, hP⟩
theorem shaped1 {u : Value} (h : Shaped none u) : u.cells = #[u] := h.1
theorem PTS.toQR {s : Bool} {p q : List Nat} {v : Value} {G : Gh} (h : (PTS [(none, .ex (.bool s)), (none, SL p), (none, SL q)]).t v G) : (QR s p q).t v G := by
  obtain ⟨us, rfl, hl, h⟩ := h
  match us, hl, h with
  | [u0, u1, u2], _, h =>
    obtain ⟨a0, b0⟩ := h 0 _ u0 rfl rfl
    obtain ⟨a1, b1⟩ := h 1 _ u1 rfl rfl
    obtain ⟨a2, b2⟩ := h 2 _ u2 rfl rfl
    refine ⟨u1, u2, ?_, b1, b2⟩
    have e0 : u0 = .bool s := b0
    simp only [flat, List.flatMap_cons, List.flatMap_nil, shaped1 a0, shaped1 a1, shaped1 a2]
    rw [e0]; rfl
theorem rd_frac {fs : Array Field} {f0 f1 f2 : Field} {tw : TypeId} (ht : P.underlying t = some (.struct fs)) (hf : fs.toList = [f0, f1, f2]) (hn : P.cellsOf t = 3) (h0 : f0.offset = 0 ∧ P.cellsOf f0.type = 1 ∧ P.underlying f0.type = some .bool) (h1 : f1.offset = 1 ∧ f1.type = tw) (h2 : f2.offset = 2 ∧ f2.type = tw)
    (hw : P.underlying tw = some (.slice e) ∧ P.cellsOf tw = 1) (he : P.underlying e = some (.int .u32) ∧ P.cellsOf e = 1 ∧ 4 ≤ P.bytesOf e) : RdA P W t (some 3) (fun τ => ∃ r : FR, τ = QR r.s r.p r.q) := by
  have hW : RdA P W tw none (fun τ => ∃ l, τ = SL l) := rd_words hw.1 he.1 he.2.1 he.2.2
  refine (rd_struct (As := [(none, fun τ => ∃ b, τ = .ex (.bool b)), (none, fun τ => ∃ l, τ = SL l), (none, fun τ => ∃ l, τ = SL l)]) ht hn rfl (by
    rw [hf]; exact ⟨h0.1, h0.2.1, rd_bool h0.2.2, h1.1, by rw [h1.2]; exact hw.2, by rw [h1.2]; exact hW, h2.1, by rw [h2.2]; exact hw.2, by rw [h2.2]; exact hW, trivial⟩)).mono fun τ v ⟨F, hM, hτ⟩ hv => ?_
  subst hτ
  match F, hM with
  | [a, b, c], ⟨a1, ⟨s, a2⟩, b1, ⟨p, b2⟩, c1, ⟨q, c2⟩, _⟩ =>
    obtain ⟨a0, a'⟩ := a; obtain ⟨b0, b'⟩ := b; obtain ⟨c0, c'⟩ := c
    simp only at a1 a2 b1 b2 c1 c2
    subst a1; subst a2; subst b1; subst b2; subst c1; subst c2
    exact ⟨_, ⟨⟨s, p, q⟩, rfl⟩, PTS.toQR hv⟩
theorem rd_arg {H : Type} {enc : TypeId × Value → H} {v : Value} {d : DataW H} {ps : List MemPlace} (h : RdA P W t k A) (hd : DataW.Trod enc P W 0 (fun _ => true) true t v d ps) (hw : (d.weights P t).all (· ≤ reachBytes) = true)
    (hv : match k with | none => v.cells = #[v] | some _ => ∃ cs, v = .agg cs) : ∃ τ, A τ ∧ Shaped k v ∧ τ.t v (G0of W) := by
  obtain ⟨fuel, hf⟩ := hd
  obtain ⟨u, τ, h1, h2, h3, h4⟩ := h H enc fuel _ _ hf hw
  have : u = v := by
    cases k with
    | none =>
      have h5 : u.cells = #[u] := h3.1
      rw [h5, hv] at h2
      simpa using h2
    | some n =>
      obtain ⟨cs, rfl⟩ := hv
      obtain ⟨cs', rfl, _⟩ := h3
      have : cs'.toList = cs.toList := h2
      rw [Array.toList_inj.1 this]
  subst this
  exact ⟨τ, h1, h3, h4⟩
end
end Go.Proofs.YtdeihehaheelmaaGreat
namespace Go.Proofs.YtdeihehaheelmaaGreat.grashofClassesDone
open Go.ChangeShapes Go.WideShapes Go.ChangeAt Go.RowKit
theorem own : ownKnob Tryz.prog.godebug = none := by kernel_rfl
theorem laidOut : laidOutB Tryz.prog = true := by kernel_rfl
theorem rd24 (W : World) : RdA Tryz.prog W 24 (some 3) (fun τ => ∃ r : FR, τ = RX r) :=
  rd_frac (tw := 22) (e := 91) Tryz.underlying24 rfl (by kernel_rfl) ⟨rfl, by kernel_rfl, Tryz.underlying4⟩ ⟨rfl, rfl⟩ ⟨rfl, rfl⟩ ⟨Tryz.underlying22, by kernel_rfl⟩ ⟨Tryz.underlying91, by kernel_rfl, of_decide_eq_true (by kernel_rfl)⟩
theorem rd26 (W : World) : RdA Tryz.prog W 26 (some 12) (fun τ => ∃ x : (FR) × (FR) × (FR) × (FR), τ = PTS [(some 3, RX (x.1)), (some 3, RX (x.2.1)), (some 3, RX (x.2.2.1)), (some 3, RX (x.2.2.2))]) :=
  (rd_struct (As := [(some 3, fun τ => ∃ x : FR, τ = RX x), (some 3, fun τ => ∃ x : FR, τ = RX x), (some 3, fun τ => ∃ x : FR, τ = RX x), (some 3, fun τ => ∃ x : FR, τ = RX x)]) Tryz.underlying26 (by kernel_rfl) rfl ⟨rfl, by kernel_rfl, rd24 W, rfl, by kernel_rfl, rd24 W, rfl, by kernel_rfl, rd24 W, rfl, by kernel_rfl, rd24 W, trivial⟩).mono fun τ v ⟨F, hM, hτ⟩ hv => by
    subst hτ
    match F, hM with
    | [(m0k, m0t), (m1k, m1t), (m2k, m2t), (m3k, m3t)], ⟨m0e, ⟨m0x, m0h⟩, m1e, ⟨m1x, m1h⟩, m2e, ⟨m2x, m2h⟩, m3e, ⟨m3x, m3h⟩, _⟩ =>
      simp only at m0e m0h
      subst m0e; subst m0h
      simp only at m1e m1h
      subst m1e; subst m1h
      simp only at m2e m2h
      subst m2e; subst m2h
      simp only at m3e m3h
      subst m3e; subst m3h
      exact ⟨_, ⟨(m0x, m1x, m2x, m3x), rfl⟩, hv⟩
set_option maxRecDepth 100000 in
theorem lifted (os : Os) (started : os.Started) (H : Type) (enc : TypeId × Value → H) :
    ReturnsInHanded {} Tryz.checked os 3 .any (Rows.grashofClassesSpec.pre6 enc Tryz.prog Tryz.f3 Rows.grashofClassesRow.domain false) (Rows.grashofClassesSpec.post enc Tryz.prog Tryz.f3 false true false false) := by
  refine returnsInHanded_of_change_sized (C := Tryz.checked) own started (by kernel_rfl) Tryz.func3
    (ChangeSpec.witness6 (enc := enc) (C := Tryz.checked) false ⟨#[], #[.agg #[.bool false, .slice none 0 0, .slice none 0 0, .bool false, .slice none 0 0, .slice none 0 0, .bool false, .slice none 0 0, .slice none 0 0, .bool false, .slice none 0 0, .slice none 0 0]], []⟩ 8 (by kernel_rfl) (by kernel_rfl) (by kernel_rfl) (by kernel_rfl)) ?_
  intro W base args ds gs before hval0 hW hcnd hsz _
  have hval : ∀ (j : Nat) t v, Tryz.f3.params[j]? = some t → args[j]? = some v → Value.okWide Tryz.prog W .any base t v := hval0
  have hW' := hW
  obtain ⟨p, q, hA0, hV, rfl, hfz, hnd⟩ := hW
  have hA : DataW.TrodAll enc Tryz.prog W 0 (fun _ => true) true Tryz.f3.params.toList args.toList ds p := hA0
  have hsz : (DataW.weightsEach Tryz.prog (Tryz.f3.params.toList ++ _) (ds ++ gs)).all (· ≤ reachBytes) = true := hsz
  rw [Tryz.params3] at hA hval hsz
  obtain ⟨v0, vs0, d0, ds0, p0, q0, hargs, rfl, rfl, h0, r0⟩ := trodAll_cons hA
  obtain ⟨rfl, rfl, rfl⟩ := trodAll_nil r0
  obtain rfl : args = #[v0] := by cases args; simp_all
  obtain ⟨rfl, rfl⟩ := trodVars_none hV
  obtain ⟨cs0, rfl, hcs0⟩ := okWide_struct Tryz.underlying26 (hval 0 26 v0 rfl rfl)
  have k0 := h0
  have lt0 : ∀ x ∈ p0, x.block < W.heap.size := by obtain ⟨m, hm⟩ := k0; exact DataW.trod_lt m _ _ _ hm
  have z0 : (d0.weights Tryz.prog 26).all (· ≤ reachBytes) = true := List.all_eq_true.2 fun x hx => List.all_eq_true.1 hsz x (DataW.weights_mem_each (j := 0) rfl rfl x hx)
  obtain ⟨τ0, ⟨x0, rfl⟩, _, H0⟩ := rd_arg (rd26 W) k0 z0 ⟨_, rfl⟩
  clear hA0 hval0
  refine (lClasses_ok (G0of_ok W) H0).mono fun e W' hr => ?_
  obtain ⟨v, G', rfl, hv, hn⟩ := hr
  have hv : v = .bool true := hv
  subst hv
  have bel : RowKit.Below W.heap.size W W' := hn.below
  exact ⟨_, rfl, _, _, _, [], _, [], hW', trodAll_mk1 (shut_bool Tryz.underlying4 _), (trodAll_cons_mk (Below.trod laidOut (by kernel_rfl) (of_decide_eq_true (by kernel_rfl)) k0 bel lt0) trodAll_mk0), rfl, bel.frame _, fun h => by cases h⟩
theorem over : Rows.grashofClassesRow.holds Tryz.pinned (OpenSpec.ofChange Rows.grashofClassesSpec) :=
  OpenClaim.holds_of_wide 3 Tryz.f3 rfl rfl rfl rfl rfl rfl rfl ⟨rfl, rfl, rfl, rfl, rfl⟩ rfl rfl rfl rfl rfl (by kernel_rfl) Tryz.func3 (by kernel_rfl)
    (of_decide_eq_true (by kernel_rfl)) (by unfold Func.isWrapper; first | (rw [if_pos (by decide +kernel)]; kernel_rfl) | (rw [if_neg (by decide +kernel)]; exact ⟨rfl, rfl⟩))
    (fun os started H enc _ => lifted os started H enc)
theorem proved : Rows.GrashofClassesSaid := over
end Go.Proofs.YtdeihehaheelmaaGreat.grashofClassesDone
