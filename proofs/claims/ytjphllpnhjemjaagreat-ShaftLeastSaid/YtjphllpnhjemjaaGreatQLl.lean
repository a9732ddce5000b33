/- ShaftLeast returns true for every input, and every argument reads afterwards as it did. Conditions: none. -/
import Derived.Test.YtjphllpnhjemjaaGreatRows
import Derived.WalkKit
import Derived.ProofKit
import Derived.OpenShut
import Derived.ShutString
import Derived.ChangeOld
import Derived.Below
import Derived.Test.YtjphllpnhjemjaaGreatQLk
set_option linter.unusedVariables false
set_option linter.unusedSimpArgs false
set_option maxHeartbeats 4000000
namespace Go.Proofs.YtjphllpnhjemjaaGreat.shaftLeastDone
open Go.ChangeShapes Go.WideShapes Go.ChangeAt Go.RowKit
theorem own : ownKnob Tryz.prog.godebug = none:=by kernel_rfl
theorem laidOut : laidOutB Tryz.prog = true:=by kernel_rfl
theorem rd3 (W : World) : RdA Tryz.prog W 3 none (fun τ=>∃ z : Int,τ = .ex (.int .i64 z)):=rd_i64 Tryz.underlying3
theorem rd25 (W : World) : RdA Tryz.prog W 25 (some 3) (fun τ=>∃ r : FR,τ = RX r) :=
  rd_frac (tw:=23) (e:=94) Tryz.underlying25 rfl (by kernel_rfl) ⟨rfl,by kernel_rfl,Tryz.underlying4⟩ ⟨rfl,rfl⟩ ⟨rfl,rfl⟩ ⟨Tryz.underlying23,by kernel_rfl⟩ ⟨Tryz.underlying94,by kernel_rfl,of_decide_eq_true (by kernel_rfl)⟩
theorem rd61 (W : World) : RdA Tryz.prog W 61 (some 6) (fun τ=>∃ x : (Int) × (Int) × (FR) × (Int),τ = PTS [(none,MT.ex (.int .i64 (x.1))),(none,MT.ex (.int .i64 (x.2.1))),(some 3,RX (x.2.2.1)),(none,MT.ex (.int .i64 (x.2.2.2)))]) :=
  (rd_struct (As:=[(none,fun τ=>∃ x : Int,τ = MT.ex (.int .i64 x)),(none,fun τ=>∃ x : Int,τ = MT.ex (.int .i64 x)),(some 3,fun τ=>∃ x : FR,τ = RX x),(none,fun τ=>∃ x : Int,τ = MT.ex (.int .i64 x))]) Tryz.underlying61 (by kernel_rfl) rfl ⟨rfl,by kernel_rfl,rd3 W,rfl,by kernel_rfl,rd3 W,rfl,by kernel_rfl,rd25 W,rfl,by kernel_rfl,rd3 W,trivial⟩).mono fun τ v ⟨F,hM,hτ⟩ hv=>by
    subst hτ
    match F,hM with
    | [(m0k,m0t),(m1k,m1t),(m2k,m2t),(m3k,m3t)],⟨m0e,⟨m0x,m0h⟩,m1e,⟨m1x,m1h⟩,m2e,⟨m2x,m2h⟩,m3e,⟨m3x,m3h⟩,_⟩ =>
      simp only at m0e m0h
      subst m0e;subst m0h
      simp only at m1e m1h
      subst m1e;subst m1h
      simp only at m2e m2h
      subst m2e;subst m2h
      simp only at m3e m3h
      subst m3e;subst m3h
      exact ⟨_,⟨(m0x,m1x,m2x,m3x),rfl⟩,hv⟩
theorem rd22 (W : World) : RdA Tryz.prog W 22 none (fun τ=>∃ xs : List ((Int) × (Int) × (FR) × (Int)),τ = LS (some 6) (xs.map (fun z_=>PTS [(none,MT.ex (.int .i64 (z_.1))),(none,MT.ex (.int .i64 (z_.2.1))),(some 3,RX (z_.2.2.1)),(none,MT.ex (.int .i64 (z_.2.2.2)))]))):=rd_list Tryz.underlying22 (by kernel_rfl) (by decide) (of_decide_eq_true (by kernel_rfl)) (rd61 W)
set_option maxRecDepth 100000 in
theorem lifted (os : Os) (started : os.Started) (H : Type) (enc : TypeId × Value → H) :
    ReturnsInHanded {} Tryz.checked os 4 .any (Rows.shaftLeastSpec.pre6 enc Tryz.prog Tryz.f4 Rows.shaftLeastRow.domain false) (Rows.shaftLeastSpec.post enc Tryz.prog Tryz.f4 false true false false):=by
  refine returnsInHanded_of_change_sized (C:=Tryz.checked) own started (by kernel_rfl) Tryz.func4
    (ChangeSpec.witness6 (enc:=enc) (C:=Tryz.checked) false ⟨#[],#[.int .i64 0,.slice none 0 0],[]⟩ 8 (by kernel_rfl) (by kernel_rfl) (by kernel_rfl) (by kernel_rfl)) ?_
  intro W base args ds gs before hval0 hW hcnd hsz _
  have hval : ∀ (j : Nat) t v,Tryz.f4.params[j]? = some t → args[j]? = some v → Value.okWide Tryz.prog W .any base t v:=hval0
  have hW':=hW
  obtain ⟨p,q,hA0,hV,rfl,hfz,hnd⟩:=hW
  have hA : DataW.TrodAll enc Tryz.prog W 0 (fun _=>true) true Tryz.f4.params.toList args.toList ds p:=hA0
  have hsz : (DataW.weightsEach Tryz.prog (Tryz.f4.params.toList ++ _) (ds ++ gs)).all (· ≤ reachBytes) = true:=hsz
  rw [Tryz.params4] at hA hval hsz
  obtain ⟨v0,vs0,d0,ds0,p0,q0,hargs,rfl,rfl,h0,r0⟩:=trodAll_cons hA
  obtain ⟨v1,vs1,d1,ds1,p1,q1,rfl,rfl,rfl,h1,r1⟩:=trodAll_cons r0
  obtain ⟨rfl,rfl,rfl⟩:=trodAll_nil r1
  obtain rfl : args = #[v0,v1]:=by cases args;simp_all
  obtain ⟨rfl,rfl⟩:=trodVars_none hV
  obtain ⟨a0,rfl,rfl,rfl,w0⟩:=open_int Tryz.underlying3 (hval 0 3 v0 rfl rfl) h0
  obtain ⟨a1,len1,cap1,rfl⟩:=okWide_slice Tryz.underlying22 (hval 1 22 v1 rfl rfl)
  have k1:=h1
  have lt1 : ∀ x ∈ p1,x.block < W.heap.size:=by obtain ⟨m,hm⟩:=k1;exact DataW.trod_lt m _ _ _ hm
  have z1 : (d1.weights Tryz.prog 22).all (· ≤ reachBytes) = true:=List.all_eq_true.2 fun x hx=>List.all_eq_true.1 hsz x (DataW.weights_mem_each (j:=1) rfl rfl x hx)
  obtain ⟨τ1,⟨x1,rfl⟩,_,H1⟩:=rd_arg (rd22 W) k1 z1 rfl
  clear hA0 hval0
  refine (lawShaftLeast (G0of_ok W) rfl H1).mono fun e W' hr=>?_
  obtain ⟨v,G',rfl,hv,hn⟩:=hr
  have hv : v = .bool true:=hv
  subst hv
  have bel : RowKit.Below W.heap.size W W':=hn.below
  exact ⟨_,rfl,_,_,_,[],_,[],hW',trodAll_mk1 (shut_bool Tryz.underlying4 _),(trodAll_cons_mk (shut_int Tryz.underlying3 w0) (trodAll_cons_mk (Below.trod laidOut (by kernel_rfl) (of_decide_eq_true (by kernel_rfl)) k1 bel lt1) trodAll_mk0)),rfl,bel.frame _,fun h=>by cases h⟩
theorem over : Rows.shaftLeastRow.holds Tryz.pinned (OpenSpec.ofChange Rows.shaftLeastSpec) :=
  OpenClaim.holds_of_wide 4 Tryz.f4 rfl rfl rfl rfl rfl rfl rfl ⟨rfl,rfl,rfl,rfl,rfl⟩ rfl rfl rfl rfl rfl (by kernel_rfl) Tryz.func4 (by kernel_rfl)
    (of_decide_eq_true (by kernel_rfl)) (by unfold Func.isWrapper;first | (rw [if_pos (by decide +kernel)];kernel_rfl) | (rw [if_neg (by decide +kernel)];exact ⟨rfl,rfl⟩))
    (fun os started H enc _=>lifted os started H enc)
theorem proved : Rows.ShaftLeastSaid:=over
end Go.Proofs.YtjphllpnhjemjaaGreat.shaftLeastDone
