/- SliderRational returns true for every input, and every argument reads afterwards as it did. Conditions: none. -/
import Derived.Test.YtnjbcjmkkejfpaaGreatRows
import Derived.WalkKit
import Derived.ProofKit
import Derived.OpenShut
import Derived.ShutString
import Derived.ChangeOld
import Derived.Below
import Derived.Test.YtnjbcjmkkejfpaaGreatQk
set_option linter.unusedVariables false
set_option linter.unusedSimpArgs false
set_option maxHeartbeats 4000000
namespace Go.Proofs.YtnjbcjmkkejfpaaGreat.sliderRationalDone
open Go.ChangeShapes Go.WideShapes Go.ChangeAt Go.RowKit
theorem own : ownKnob Tryz.prog.godebug = none:=by kernel_rfl
theorem laidOut : laidOutB Tryz.prog = true:=by kernel_rfl
theorem rd24 (W : World) : RdA Tryz.prog W 24 (some 3) (fun τ=>∃ r : FR,τ = RX r) :=
  rd_frac (tw:=22) (e:=132) Tryz.underlying24 rfl (by kernel_rfl) ⟨rfl,by kernel_rfl,Tryz.underlying4⟩ ⟨rfl,rfl⟩ ⟨rfl,rfl⟩ ⟨Tryz.underlying22,by kernel_rfl⟩ ⟨Tryz.underlying132,by kernel_rfl,of_decide_eq_true (by kernel_rfl)⟩
theorem rd4 (W : World) : RdA Tryz.prog W 4 none (fun τ=>∃ b : Bool,τ = .ex (.bool b)):=rd_bool Tryz.underlying4
theorem rd28 (W : World) : RdA Tryz.prog W 28 (some 4) (fun τ=>∃ x : (FR) × (Bool),τ = PTS [(some 3,RX (x.1)),(none,MT.ex (.bool (x.2)))]) :=
  (rd_struct (As:=[(some 3,fun τ=>∃ x : FR,τ = RX x),(none,fun τ=>∃ x : Bool,τ = MT.ex (.bool x))]) Tryz.underlying28 (by kernel_rfl) rfl ⟨rfl,by kernel_rfl,rd24 W,rfl,by kernel_rfl,rd4 W,trivial⟩).mono fun τ v ⟨F,hM,hτ⟩ hv=>by
    subst hτ
    match F,hM with
    | [(m0k,m0t),(m1k,m1t)],⟨m0e,⟨m0x,m0h⟩,m1e,⟨m1x,m1h⟩,_⟩ =>
      simp only at m0e m0h
      subst m0e;subst m0h
      simp only at m1e m1h
      subst m1e;subst m1h
      exact ⟨_,⟨(m0x,m1x),rfl⟩,hv⟩
theorem rd69 (W : World) : RdA Tryz.prog W 69 (some 6) (fun τ=>∃ x : { xs : List (FR) // xs.length = 2 },τ = AR 6 (some 3) (List.map RX (x).1)):=rd_arrN (c:=3) Tryz.underlying69 (by kernel_rfl) rfl (by kernel_rfl) (rd24 W)
set_option maxRecDepth 100000 in
theorem lifted (os : Os) (started : os.Started) (H : Type) (enc : TypeId × Value → H) :
    ReturnsInHanded {} Tryz.checked os 6 .any (Rows.sliderRationalSpec.pre6 enc Tryz.prog Tryz.f6 Rows.sliderRationalRow.domain false) (Rows.sliderRationalSpec.post enc Tryz.prog Tryz.f6 false true false false):=by
  refine returnsInHanded_of_change_sized (C:=Tryz.checked) own started (by kernel_rfl) Tryz.func6
    (ChangeSpec.witness6 (enc:=enc) (C:=Tryz.checked) false ⟨#[],#[.agg #[.bool false,.slice none 0 0,.slice none 0 0],.agg #[.bool false,.slice none 0 0,.slice none 0 0,.bool false],.agg #[.bool false,.slice none 0 0,.slice none 0 0,.bool false,.slice none 0 0,.slice none 0 0]],[]⟩ 8 (by kernel_rfl) (by kernel_rfl) (by kernel_rfl) (by kernel_rfl)) ?_
  intro W base args ds gs before hval0 hW hcnd hsz _
  have hval : ∀ (j : Nat) t v,Tryz.f6.params[j]? = some t → args[j]? = some v → Value.okWide Tryz.prog W .any base t v:=hval0
  have hW':=hW
  obtain ⟨p,q,hA0,hV,rfl,hfz,hnd⟩:=hW
  have hA : DataW.TrodAll enc Tryz.prog W 0 (fun _=>true) true Tryz.f6.params.toList args.toList ds p:=hA0
  have hsz : (DataW.weightsEach Tryz.prog (Tryz.f6.params.toList ++ _) (ds ++ gs)).all (· ≤ reachBytes) = true:=hsz
  rw [Tryz.params6] at hA hval hsz
  obtain ⟨v0,vs0,d0,ds0,p0,q0,hargs,rfl,rfl,h0,r0⟩:=trodAll_cons hA
  obtain ⟨v1,vs1,d1,ds1,p1,q1,rfl,rfl,rfl,h1,r1⟩:=trodAll_cons r0
  obtain ⟨v2,vs2,d2,ds2,p2,q2,rfl,rfl,rfl,h2,r2⟩:=trodAll_cons r1
  obtain ⟨rfl,rfl,rfl⟩:=trodAll_nil r2
  obtain rfl : args = #[v0,v1,v2]:=by cases args;simp_all
  obtain ⟨rfl,rfl⟩:=trodVars_none hV
  obtain ⟨cs0,rfl,hcs0⟩:=okWide_struct Tryz.underlying24 (hval 0 24 v0 rfl rfl)
  have k0:=h0
  have lt0 : ∀ x ∈ p0,x.block < W.heap.size:=by obtain ⟨m,hm⟩:=k0;exact DataW.trod_lt m _ _ _ hm
  have z0 : (d0.weights Tryz.prog 24).all (· ≤ reachBytes) = true:=List.all_eq_true.2 fun x hx=>List.all_eq_true.1 hsz x (DataW.weights_mem_each (j:=0) rfl rfl x hx)
  obtain ⟨τ0,⟨x0,rfl⟩,_,H0⟩:=rd_arg (rd24 W) k0 z0 ⟨_,rfl⟩
  obtain ⟨cs1,rfl,hcs1⟩:=okWide_struct Tryz.underlying28 (hval 1 28 v1 rfl rfl)
  have k1:=h1
  have lt1 : ∀ x ∈ p1,x.block < W.heap.size:=by obtain ⟨m,hm⟩:=k1;exact DataW.trod_lt m _ _ _ hm
  have z1 : (d1.weights Tryz.prog 28).all (· ≤ reachBytes) = true:=List.all_eq_true.2 fun x hx=>List.all_eq_true.1 hsz x (DataW.weights_mem_each (j:=1) rfl rfl x hx)
  obtain ⟨τ1,⟨x1,rfl⟩,_,H1⟩:=rd_arg (rd28 W) k1 z1 ⟨_,rfl⟩
  obtain ⟨cs2,rfl,hcs2⟩:=okWide_array Tryz.underlying69 (hval 2 69 v2 rfl rfl)
  have k2:=h2
  have lt2 : ∀ x ∈ p2,x.block < W.heap.size:=by obtain ⟨m,hm⟩:=k2;exact DataW.trod_lt m _ _ _ hm
  have z2 : (d2.weights Tryz.prog 69).all (· ≤ reachBytes) = true:=List.all_eq_true.2 fun x hx=>List.all_eq_true.1 hsz x (DataW.weights_mem_each (j:=2) rfl rfl x hx)
  obtain ⟨τ2,⟨x2,rfl⟩,_,H2⟩:=rd_arg (rd69 W) k2 z2 ⟨_,rfl⟩
  clear hA0 hval0
  refine (lawSliderRationalA (G0of_ok W) H0 H1 H2 x2.2).mono fun e W' hr=>?_
  obtain ⟨v,G',rfl,hv,hn⟩:=hr
  have hv : v = .bool true:=hv
  subst hv
  have bel : RowKit.Below W.heap.size W W':=hn.below
  exact ⟨_,rfl,_,_,_,[],_,[],hW',trodAll_mk1 (shut_bool Tryz.underlying4 _),(trodAll_cons_mk (Below.trod laidOut (by kernel_rfl) (of_decide_eq_true (by kernel_rfl)) k0 bel lt0) (trodAll_cons_mk (Below.trod laidOut (by kernel_rfl) (of_decide_eq_true (by kernel_rfl)) k1 bel lt1) (trodAll_cons_mk (Below.trod laidOut (by kernel_rfl) (of_decide_eq_true (by kernel_rfl)) k2 bel lt2) trodAll_mk0))),rfl,bel.frame _,fun h=>by cases h⟩
theorem over : Rows.sliderRationalRow.holds Tryz.pinned (OpenSpec.ofChange Rows.sliderRationalSpec) :=
  OpenClaim.holds_of_wide 6 Tryz.f6 rfl rfl rfl rfl rfl rfl rfl ⟨rfl,rfl,rfl,rfl,rfl⟩ rfl rfl rfl rfl rfl (by kernel_rfl) Tryz.func6 (by kernel_rfl)
    (of_decide_eq_true (by kernel_rfl)) (by unfold Func.isWrapper;first | (rw [if_pos (by decide +kernel)];kernel_rfl) | (rw [if_neg (by decide +kernel)];exact ⟨rfl,rfl⟩))
    (fun os started H enc _=>lifted os started H enc)
theorem proved : Rows.SliderRationalSaid:=over
end Go.Proofs.YtnjbcjmkkejfpaaGreat.sliderRationalDone
