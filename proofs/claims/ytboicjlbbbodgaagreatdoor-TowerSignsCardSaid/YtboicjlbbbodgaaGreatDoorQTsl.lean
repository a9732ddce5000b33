/- TowerSigns returns true for every input, and every argument reads afterwards as it did. Conditions: none. -/
import Derived.Test.YtboicjlbbbodgaaGreatDoorRows
import Derived.WalkKit
import Derived.ProofKit
import Derived.OpenShut
import Derived.ShutString
import Derived.ChangeOld
import Derived.Below
import Derived.Test.YtboicjlbbbodgaaGreatDoorCards
import Derived.Test.YtboicjlbbbodgaaGreatDoorTie
import Derived.LaidMore
import Derived.Stop.Joined
import Derived.SevenTiedAt
import Derived.Handed
import Derived.Lib.LaidTab
import Derived.Test.YtboicjlbbbodgaaGreatDoorQTsk
set_option linter.unusedVariables false
set_option linter.unusedSimpArgs false
set_option maxHeartbeats 4000000
namespace Go.Proofs.YtboicjlbbbodgaaGreatDoor.towerSignsDone
open Go.ChangeShapes Go.WideShapes Go.ChangeAt Go.RowKit
theorem own : ownKnob Tryz.prog.godebug = none:=by kernel_rfl
theorem laidOut : laidOutB Tryz.prog = true:=by kernel_rfl
theorem rd57 (W : World) : RdA Tryz.prog W 57 (some 3) (fun τ=>∃ r : FR,τ = RX r) :=
  rd_frac (tw:=55) (e:=99) Tryz.underlying57 rfl (by kernel_rfl) ⟨rfl,by kernel_rfl,Tryz.underlying4⟩ ⟨rfl,rfl⟩ ⟨rfl,rfl⟩ ⟨Tryz.underlying55,by kernel_rfl⟩ ⟨Tryz.underlying99,by kernel_rfl,of_decide_eq_true (by kernel_rfl)⟩
theorem rd26 (W : World) : RdA Tryz.prog W 26 none (fun τ=>∃ xs : List (FR),τ = LS (some 3) (xs.map (fun z_=>RX z_))):=rd_list Tryz.underlying26 (by kernel_rfl) (by decide) (of_decide_eq_true (by kernel_rfl)) (rd57 W)
theorem rd22 (W : World) : RdA Tryz.prog W 22 none (fun τ=>∃ xs : List (List (FR)),τ = LS (none) (xs.map (fun z_=>LS (some 3) (List.map (fun z_=>RX z_) z_)))):=rd_list Tryz.underlying22 (by kernel_rfl) (by decide) (of_decide_eq_true (by kernel_rfl)) (rd26 W)
theorem rd24 (W : World) : RdA Tryz.prog W 24 (some 1) (fun τ=>∃ x : (List (List (FR))),τ = PTS [(none,LS (none) (List.map (fun z_=>LS (some 3) (List.map (fun z_=>RX z_) z_)) (x)))]) :=
  (rd_struct (As:=[(none,fun τ=>∃ x : List (List (FR)),τ = LS (none) (List.map (fun z_=>LS (some 3) (List.map (fun z_=>RX z_) z_)) x))]) Tryz.underlying24 (by kernel_rfl) rfl ⟨rfl,by kernel_rfl,rd22 W,trivial⟩).mono fun τ v ⟨F,hM,hτ⟩ hv=>by
    subst hτ
    match F,hM with
    | [(m0k,m0t)],⟨m0e,⟨m0x,m0h⟩,_⟩ =>
      simp only at m0e m0h
      subst m0e;subst m0h
      exact ⟨_,⟨(m0x),rfl⟩,hv⟩
theorem door_met (os : Os) (args : Array Value) : laidMetH Tryz.prog Rows.towerSignsRow.laid ((World.doorLaid Tryz.prog 400 os).forCall (fun _ _=>0) ⟨#[],args,[]⟩).memory :=
  laidMetH_of_parts3 (fuel:=8) (laidMet_of_run' 8 (by kernel_rfl) (by kernel_rfl)) (by kernel_rfl) (by kernel_rfl)
theorem tab_laid {W : World} (h : laidMetH Tryz.prog Rows.towerSignsRow.laid W) : TAB (G0of W):=by
  rw [MakeChecks.laidMetH_plain _ _ _ (by kernel_rfl)] at h
  obtain ⟨ps,⟨g0,t0,cs0,f0,p0,q0,hg0,ht0,hv0,hd0,⟨g1,t1,cs1,f1,p1,q1,hg1,ht1,hv1,hd1,⟨g2,t2,cs2,f2,p2,q2,hg2,ht2,hv2,hd2,_⟩,_⟩,_⟩,_,_⟩:=h
  have hg : Tryz.prog.globalNamed _ = some (laysItoa_ren.g 17):=laysItoa.m17
  obtain rfl:=Option.some.inj (hg.symm.trans hg2)
  have htt : (Tryz.prog.globals[laysItoa_ren.g 17]?).map (·.type) = some 189:=by kernel_rfl
  obtain rfl:=Option.some.inj (htt.symm.trans ht2)
  refine TAB.of hg ?_ (fun b=>rfl)
  unfold Lib.TabIs
  rw [hv2]
  have:=Lib.cells_of_tab (k:=.u64) (zs:=Lib.pow10Tab) Tryz.underlying189 Tryz.underlying139 (by kernel_rfl) (by kernel_rfl) hd2
  rw [← this]
set_option maxRecDepth 100000 in
theorem lifted (os : Os) (started : os.Started) (H : Type) (enc : TypeId × Value → H) :
    ReturnsInHanded {} Tryz.checked os 7 .any (fun w args=>(Rows.towerSignsSpec.pre enc Tryz.prog Tryz.f7 [] false w args ∧ laidMetH Tryz.prog Rows.towerSignsRow.laid w) ∧ sizedMet enc Tryz.prog Tryz.f7 (OpenSpec.ofChange Rows.towerSignsSpec) false w args) (Rows.towerSignsSpec.post enc Tryz.prog Tryz.f7 false true false false):=by
  refine returnsInHanded_of_change_and (C:=Tryz.checked) (X:=fun w _=>laidMetH Tryz.prog Rows.towerSignsRow.laid w) (fun _ _ _ hh h=>h.of_heap hh) own started (by kernel_rfl) Tryz.func7
    (ChangeSpec.witness_shaped (enc:=enc) (C:=Tryz.checked) (os:=os) (X:=fun w _=>laidMetH Tryz.prog Rows.towerSignsRow.laid w) false (World.doorLaid Tryz.prog 400 os) #[.agg #[.slice none 0 0],.slice none 0 0,.slice none 0 0] 8 rfl (World.shaped_of_RefB (by kernel_rfl) (by kernel_rfl)) (by kernel_rfl) (by kernel_rfl) (by kernel_rfl) (door_met os _)) ?_
  intro W base args ds gs before hval0 hW hcnd hsz hL _
  have ht : TAB (G0of W):=tab_laid hL
  have hval : ∀ (j : Nat) t v,Tryz.f7.params[j]? = some t → args[j]? = some v → Value.okWide Tryz.prog W .any base t v:=hval0
  have hW':=hW
  obtain ⟨p,q,hA0,hV,rfl,hfz,hnd⟩:=hW
  have hA : DataW.TrodAll enc Tryz.prog W 0 (fun _=>true) true Tryz.f7.params.toList args.toList ds p:=hA0
  have hsz : (DataW.weightsEach Tryz.prog (Tryz.f7.params.toList ++ _) (ds ++ gs)).all (· ≤ reachBytes) = true:=hsz
  rw [Tryz.params7] at hA hval hsz
  obtain ⟨v0,vs0,d0,ds0,p0,q0,hargs,rfl,rfl,h0,r0⟩:=trodAll_cons hA
  obtain ⟨v1,vs1,d1,ds1,p1,q1,rfl,rfl,rfl,h1,r1⟩:=trodAll_cons r0
  obtain ⟨v2,vs2,d2,ds2,p2,q2,rfl,rfl,rfl,h2,r2⟩:=trodAll_cons r1
  obtain ⟨rfl,rfl,rfl⟩:=trodAll_nil r2
  obtain rfl : args = #[v0,v1,v2]:=by cases args;simp_all
  obtain ⟨rfl,rfl⟩:=trodVars_none hV
  obtain ⟨cs0,rfl,hcs0⟩:=okWide_struct Tryz.underlying24 (hval 0 24 v0 rfl rfl)
  have k0:=h0
  have lt0 : ∀ x ∈ p0,x.block < W.heap.size:=by obtain ⟨m,hm⟩:=k0;exact DataW.trod_lt m _ _ _ hm
  have z0 : (d0.weights Tryz.prog 24).all (· ≤ reachBytes) = true:=List.all_eq_true.2 fun x hx=>List.all_eq_true.1 hsz x (DataW.weights_mem_each (j:=0) rfl rfl x hx)
  obtain ⟨τ0,⟨x0,rfl⟩,_,H0⟩:=rd_arg (rd24 W) k0 z0 ⟨_,rfl⟩
  obtain ⟨a1,len1,cap1,rfl⟩:=okWide_slice Tryz.underlying26 (hval 1 26 v1 rfl rfl)
  have k1:=h1
  have lt1 : ∀ x ∈ p1,x.block < W.heap.size:=by obtain ⟨m,hm⟩:=k1;exact DataW.trod_lt m _ _ _ hm
  have z1 : (d1.weights Tryz.prog 26).all (· ≤ reachBytes) = true:=List.all_eq_true.2 fun x hx=>List.all_eq_true.1 hsz x (DataW.weights_mem_each (j:=1) rfl rfl x hx)
  obtain ⟨τ1,⟨x1,rfl⟩,_,H1⟩:=rd_arg (rd26 W) k1 z1 rfl
  obtain ⟨a2,len2,cap2,rfl⟩:=okWide_slice Tryz.underlying26 (hval 2 26 v2 rfl rfl)
  have k2:=h2
  have lt2 : ∀ x ∈ p2,x.block < W.heap.size:=by obtain ⟨m,hm⟩:=k2;exact DataW.trod_lt m _ _ _ hm
  have z2 : (d2.weights Tryz.prog 26).all (· ≤ reachBytes) = true:=List.all_eq_true.2 fun x hx=>List.all_eq_true.1 hsz x (DataW.weights_mem_each (j:=2) rfl rfl x hx)
  obtain ⟨τ2,⟨x2,rfl⟩,_,H2⟩:=rd_arg (rd26 W) k2 z2 rfl
  clear hA0 hval0
  refine (lawTowerSigns (G0of_ok W) ht H0 H1 H2).mono fun e W' hr=>?_
  obtain ⟨v,G',rfl,hv,hn⟩:=hr
  have hv : v = .bool true:=hv
  subst hv
  have bel : RowKit.Below W.heap.size W W':=hn.below
  exact ⟨_,rfl,_,_,_,[],_,[],hW',trodAll_mk1 (shut_bool Tryz.underlying4 _),(trodAll_cons_mk (Below.trod laidOut (by kernel_rfl) (of_decide_eq_true (by kernel_rfl)) k0 bel lt0) (trodAll_cons_mk (Below.trod laidOut (by kernel_rfl) (of_decide_eq_true (by kernel_rfl)) k1 bel lt1) (trodAll_cons_mk (Below.trod laidOut (by kernel_rfl) (of_decide_eq_true (by kernel_rfl)) k2 bel lt2) trodAll_mk0))),rfl,bel.frame _,fun h=>by cases h⟩
theorem over : Rows.towerSignsRow.holds Tryz.pinned (OpenSpec.ofChange Rows.towerSignsSpec) :=
  OpenClaim.holds_of_wide 7 Tryz.f7 rfl rfl rfl rfl rfl rfl rfl ⟨rfl,rfl,rfl,rfl,rfl⟩ rfl rfl rfl rfl rfl (by kernel_rfl) Tryz.func7 (by kernel_rfl)
    (of_decide_eq_true (by kernel_rfl)) (by unfold Func.isWrapper;first | (rw [if_pos (by decide +kernel)];kernel_rfl) | (rw [if_neg (by decide +kernel)];exact ⟨rfl,rfl⟩))
    (fun os started H enc _=>lifted os started H enc)
theorem proved : Rows.TowerSignsCardSaid :=
  Claim7.holds_tied_plain_at .later [] [.data,.data,.data] true Rows.towerSignsCard.stood.harness true
    over (fun _ h=>by cases h) (by kernel_rfl) (fun _ h=>by cases h) towerSigns_row_tie rfl ⟨rfl,rfl⟩ (by kernel_rfl) rfl
    (fun f fn hf hfn=>by
      obtain rfl : f = 7:=Option.some.inj ((show Tryz.prog.funcNamed Rows.towerSignsRow.func = some 7 by kernel_rfl).symm.trans hf) |>.symm
      obtain rfl : fn = Tryz.f7:=(Option.some.inj (Tryz.func7.symm.trans hfn)).symm
      exact ⟨by kernel_rfl,fun j t ht=>by
        rw [Tryz.params7] at ht
        have hm : t ∈ [24,26,26]:=by simpa using Array.mem_of_getElem? ht
        have hall : ([24,26,26].all fun u=>!Tryz.prog.wantsStandIn u) = true:=by kernel_rfl
        exact (show Tryz.prog.wantsStandIn t = false by simpa using List.all_eq_true.1 hall t hm)⟩)
    (by kernel_rfl)
end Go.Proofs.YtboicjlbbbodgaaGreatDoor.towerSignsDone
