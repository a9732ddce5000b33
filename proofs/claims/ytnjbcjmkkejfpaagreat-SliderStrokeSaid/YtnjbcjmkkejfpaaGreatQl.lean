/- SliderStroke returns true for every input, and every argument reads afterwards as it did. Conditions: none. -/
import Derived.Test.YtnjbcjmkkejfpaaGreatRows
import Derived.WalkKit
import Derived.ProofKit
import Derived.OpenShut
import Derived.ShutString
import Derived.ChangeOld
import Derived.Below
import Derived.Test.YtnjbcjmkkejfpaaGreatQk
set_option linter.unusedVariables false
set_option linter.unusedSimpArgs false
set_option maxHeartbeats 4000000
namespace Go.Proofs.YtnjbcjmkkejfpaaGreat.sliderStrokeDone
open Go.ChangeShapes Go.WideShapes Go.ChangeAt Go.RowKit
theorem own : ownKnob Tryz.prog.godebug = none:=by kernel_rfl
theorem laidOut : laidOutB Tryz.prog = true:=by kernel_rfl
theorem rd24 (W : World) : RdA Tryz.prog W 24 (some 3) (fun τ=>∃ r : FR,τ = RX r) :=
  rd_frac (tw:=22) (e:=132) Tryz.underlying24 rfl (by kernel_rfl) ⟨rfl,by kernel_rfl,Tryz.underlying4⟩ ⟨rfl,rfl⟩ ⟨rfl,rfl⟩ ⟨Tryz.underlying22,by kernel_rfl⟩ ⟨Tryz.underlying132,by kernel_rfl,of_decide_eq_true (by kernel_rfl)⟩
theorem rd26 (W : World) : RdA Tryz.prog W 26 (some 9) (fun τ=>∃ x : (FR) × (FR) × (FR),τ = PTS [(some 3,RX (x.1)),(some 3,RX (x.2.1)),(some 3,RX (x.2.2))]) :=
  (rd_struct (As:=[(some 3,fun τ=>∃ x : FR,τ = RX x),(some 3,fun τ=>∃ x : FR,τ = RX x),(some 3,fun τ=>∃ x : FR,τ = RX x)]) Tryz.underlying26 (by kernel_rfl) rfl ⟨rfl,by kernel_rfl,rd24 W,rfl,by kernel_rfl,rd24 W,rfl,by kernel_rfl,rd24 W,trivial⟩).mono fun τ v ⟨F,hM,hτ⟩ hv=>by
    subst hτ
    match F,hM with
    | [(m0k,m0t),(m1k,m1t),(m2k,m2t)],⟨m0e,⟨m0x,m0h⟩,m1e,⟨m1x,m1h⟩,m2e,⟨m2x,m2h⟩,_⟩ =>
      simp only at m0e m0h
      subst m0e;subst m0h
      simp only at m1e m1h
      subst m1e;subst m1h
      simp only at m2e m2h
      subst m2e;subst m2h
      exact ⟨_,⟨(m0x,m1x,m2x),rfl⟩,hv⟩
theorem rd4 (W : World) : RdA Tryz.prog W 4 none (fun τ=>∃ b : Bool,τ = .ex (.bool b)):=rd_bool Tryz.underlying4
theorem rd28 (W : World) : RdA Tryz.prog W 28 (some 4) (fun τ=>∃ x : (FR) × (Bool),τ = PTS [(some 3,RX (x.1)),(none,MT.ex (.bool (x.2)))]) :=
  (rd_struct (As:=[(some 3,fun τ=>∃ x : FR,τ = RX x),(none,fun τ=>∃ x : Bool,τ = MT.ex (.bool x))]) Tryz.underlying28 (by kernel_rfl) rfl ⟨rfl,by kernel_rfl,rd24 W,rfl,by kernel_rfl,rd4 W,trivial⟩).mono fun τ v ⟨F,hM,hτ⟩ hv=>by
    subst hτ
    match F,hM with
    | [(m0k,m0t),(m1k,m1t)],⟨m0e,⟨m0x,m0h⟩,m1e,⟨m1x,m1h⟩,_⟩ =>
      simp only at m0e m0h
      subst m0e;subst m0h
      simp only at m1e m1h
      subst m1e;subst m1h
      exact ⟨_,⟨(m0x,m1x),rfl⟩,hv⟩
set_option maxRecDepth 100000 in
theorem lifted (os : Os) (started : os.Started) (H : Type) (enc : TypeId × Value → H) :
    ReturnsInHanded {} Tryz.checked os 8 .any (Rows.sliderStrokeSpec.pre6 enc Tryz.prog Tryz.f8 Rows.sliderStrokeRow.domain false) (Rows.sliderStrokeSpec.post enc Tryz.prog Tryz.f8 false true false false):=by
  refine returnsInHanded_of_change_sized (C:=Tryz.checked) own started (by kernel_rfl) Tryz.func8
    (ChangeSpec.witness6 (enc:=enc) (C:=Tryz.checked) false ⟨#[],#[.agg #[.bool false,.slice none 0 0,.slice none 0 0,.bool false,.slice none 0 0,.slice none 0 0,.bool false,.slice none 0 0,.slice none 0 0],.agg #[.bool false,.slice none 0 0,.slice none 0 0,.bool false]],[]⟩ 8 (by kernel_rfl) (by kernel_rfl) (by kernel_rfl) (by kernel_rfl)) ?_
  intro W base args ds gs before hval0 hW hcnd hsz _
  have hval : ∀ (j : Nat) t v,Tryz.f8.params[j]? = some t → args[j]? = some v → Value.okWide Tryz.prog W .any base t v:=hval0
  have hW':=hW
  obtain ⟨p,q,hA0,hV,rfl,hfz,hnd⟩:=hW
  have hA : DataW.TrodAll enc Tryz.prog W 0 (fun _=>true) true Tryz.f8.params.toList args.toList ds p:=hA0
  have hsz : (DataW.weightsEach Tryz.prog (Tryz.f8.params.toList ++ _) (ds ++ gs)).all (· ≤ reachBytes) = true:=hsz
  rw [Tryz.params8] at hA hval hsz
  obtain ⟨v0,vs0,d0,ds0,p0,q0,hargs,rfl,rfl,h0,r0⟩:=trodAll_cons hA
  obtain ⟨v1,vs1,d1,ds1,p1,q1,rfl,rfl,rfl,h1,r1⟩:=trodAll_cons r0
  obtain ⟨rfl,rfl,rfl⟩:=trodAll_nil r1
  obtain rfl : args = #[v0,v1]:=by cases args;simp_all
  obtain ⟨rfl,rfl⟩:=trodVars_none hV
  obtain ⟨cs0,rfl,hcs0⟩:=okWide_struct Tryz.underlying26 (hval 0 26 v0 rfl rfl)
  have k0:=h0
  have lt0 : ∀ x ∈ p0,x.block < W.heap.size:=by obtain ⟨m,hm⟩:=k0;exact DataW.trod_lt m _ _ _ hm
  have z0 : (d0.weights Tryz.prog 26).all (· ≤ reachBytes) = true:=List.all_eq_true.2 fun x hx=>List.all_eq_true.1 hsz x (DataW.weights_mem_each (j:=0) rfl rfl x hx)
  obtain ⟨τ0,⟨x0,rfl⟩,_,H0⟩:=rd_arg (rd26 W) k0 z0 ⟨_,rfl⟩
  obtain ⟨cs1,rfl,hcs1⟩:=okWide_struct Tryz.underlying28 (hval 1 28 v1 rfl rfl)
  have k1:=h1
  have lt1 : ∀ x ∈ p1,x.block < W.heap.size:=by obtain ⟨m,hm⟩:=k1;exact DataW.trod_lt m _ _ _ hm
  have z1 : (d1.weights Tryz.prog 28).all (· ≤ reachBytes) = true:=List.all_eq_true.2 fun x hx=>List.all_eq_true.1 hsz x (DataW.weights_mem_each (j:=1) rfl rfl x hx)
  obtain ⟨τ1,⟨x1,rfl⟩,_,H1⟩:=rd_arg (rd28 W) k1 z1 ⟨_,rfl⟩
  clear hA0 hval0
  refine (lawSliderStroke (G0of_ok W) H0 H1).mono fun e W' hr=>?_
  obtain ⟨v,G',rfl,hv,hn⟩:=hr
  have hv : v = .bool true:=hv
  subst hv
  have bel : RowKit.Below W.heap.size W W':=hn.below
  exact ⟨_,rfl,_,_,_,[],_,[],hW',trodAll_mk1 (shut_bool Tryz.underlying4 _),(trodAll_cons_mk (Below.trod laidOut (by kernel_rfl) (of_decide_eq_true (by kernel_rfl)) k0 bel lt0) (trodAll_cons_mk (Below.trod laidOut (by kernel_rfl) (of_decide_eq_true (by kernel_rfl)) k1 bel lt1) trodAll_mk0)),rfl,bel.frame _,fun h=>by cases h⟩
theorem over : Rows.sliderStrokeRow.holds Tryz.pinned (OpenSpec.ofChange Rows.sliderStrokeSpec) :=
  OpenClaim.holds_of_wide 8 Tryz.f8 rfl rfl rfl rfl rfl rfl rfl ⟨rfl,rfl,rfl,rfl,rfl⟩ rfl rfl rfl rfl rfl (by kernel_rfl) Tryz.func8 (by kernel_rfl)
    (of_decide_eq_true (by kernel_rfl)) (by unfold Func.isWrapper;first | (rw [if_pos (by decide +kernel)];kernel_rfl) | (rw [if_neg (by decide +kernel)];exact ⟨rfl,rfl⟩))
    (fun os started H enc _=>lifted os started H enc)
theorem proved : Rows.SliderStrokeSaid:=over
end Go.Proofs.YtnjbcjmkkejfpaaGreat.sliderStrokeDone
