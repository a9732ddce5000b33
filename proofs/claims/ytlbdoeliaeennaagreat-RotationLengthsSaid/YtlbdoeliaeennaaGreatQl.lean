import Derived.OpenShut
import Derived.Test.YtlbdoeliaeennaaGreatQk
set_option linter.unusedVariables false
set_option linter.unusedSimpArgs false
namespace Go.Proofs.YtlbdoeliaeennaaGreat
open Go.RowKit (Below)
section
variable {P : Program} {W : World} {t e : TypeId} {k : Option Nat} {A : MT → Prop}
theorem rd_elems {H : Type} {enc : TypeId × Value → H} {m : Nat} {cs : List Value} {c : Nat} (hc : P.cellsOf e = c) (hck : c = k.getD 1) (h : RdA P W e k A) : ∀ (n off : Nat) (xs : List (DataW H × List MemPlace)), xs.length = n →
    (∀ i,i < n → DataW.trod enc P W 0 (fun _=>true) true m e ((cs.drop (off + i * c)).take c) = xs[i]?) → (DataW.weightsAll P e (xs.map (·.1))).all (· ≤ reachBytes) = true → cs.length = off + n * c →
    ∃ us τs,(∀ σ ∈ τs,A σ) ∧ flat us = cs.drop off ∧ τs.length = n ∧ Els k τs us (G0of W)
  | 0,off,xs,_,_,_,hl=>⟨[],[],by simp,by rw [List.drop_eq_nil_of_le (by rw [hl];simp)];rfl,rfl,Els.nil⟩
  | n + 1,off,[],hx,_,_,_=>by simp at hx
  | n + 1,off,x :: xs,hx,hT,hw,hl=>by
    simp only [List.map_cons,DataW.weightsAll,List.all_append,Bool.and_eq_true] at hw
    obtain ⟨v,τ,h5,h6,h7,h8⟩:=h H enc m _ x (by simpa using hT 0 (by omega)) hw.1
    obtain ⟨us,τs,g1,g2,g3,g4⟩:=rd_elems hc hck h n (off + c) xs (by simpa using hx) (fun i hi=>by
      have:=hT (i + 1) (by omega)
      rw [show off + (i + 1) * c = off + c + i * c by rw [Nat.add_mul];omega] at this
      simpa using this) hw.2 (by rw [hl,Nat.add_mul];omega)
    refine ⟨v :: us,τ :: τs,fun σ hσ=>?_,?_,by simp [g3],?_⟩
    · rcases List.mem_cons.1 hσ with e1 | e1
      · rw [e1];exact h5
      · exact g1 σ e1
    · rw [flat_cons,h6,g2,← List.drop_drop,List.take_append_drop]
    · exact ⟨by simp [g4.1], fun i σ u hi hu => by
        cases i with
        | zero=>simp at hi hu;subst hi;subst hu;exact ⟨h7,h8⟩
        | succ j=>exact g4.2 j σ u (by simpa using hi) (by simpa using hu)⟩
theorem rd_array {n c : Nat} (ht : P.underlying t = some (.array n e)) (hc : P.cellsOf e = c) (hck : c = k.getD 1) (hn : P.cellsOf t = n * c) (h : RdA P W e k A) : RdA P W t (some (n * c)) (fun τ=>∃ τs,(∀ σ ∈ τs,A σ) ∧ τs.length = n ∧ τ = ARN k τs):=fun H enc fuel cs x hx hw=>by
  obtain ⟨xs,m,rfl,rfl,hl,hxl,hT⟩:=DataW.trod_array ht hx
  simp only [DataW.weights,ht] at hw
  obtain ⟨us,τs,h1,h2,h3,h4⟩:=rd_elems hc hck h n 0 xs hxl (fun i hi=>by simpa [hc] using hT i hi) hw (by omega)
  have hP : (ARN k τs).t (.agg (flat us).toArray) (G0of W):=⟨us,rfl,h4⟩
  have hs:=ARN.shaped hP
  rw [h3,← hck] at hs
  exact ⟨.agg (flat us).toArray,ARN k τs,⟨τs,h1,h3,rfl⟩,by rw [h2];rfl,hs,hP⟩
theorem okWide_array {r : Reach} {base : Nat} {v : Value} {n : Nat} (ht : P.underlying t = some (.array n e)) (h : Value.okWide P W r base t v) : ∃ cs,v = .agg cs ∧ cs.size = P.cellsOf t:=by
  simp only [Value.okWide,ht] at h
  obtain ⟨cs,h1,h2,_⟩:=h
  exact ⟨cs,h1,h2⟩
end
end Go.Proofs.YtlbdoeliaeennaaGreat
namespace Go.Proofs.YtlbdoeliaeennaaGreat
open Go.RowKit (Below)
theorem rd_arrN {P : Program} {W : World} {t e : TypeId} {k : Option Nat} {α : Type} {T : α → MT} {n c : Nat} (ht : P.underlying t = some (.array n e)) (hc : P.cellsOf e = c) (hck : c = k.getD 1) (hn : P.cellsOf t = n * c) (h : RdA P W e k (fun τ => ∃ x, τ = T x)) :
    RdA P W t (some (n * c)) (fun τ=>∃ x : { xs : List α // xs.length = n },τ = AR (n * c) k (x.1.map T)):=(rd_array ht hc hck hn h).mono fun τ v ⟨τs,h1,h2,e⟩ hv=>by
  subst e
  obtain ⟨xs,rfl⟩:=forall_map h1
  rw [List.length_map] at h2
  refine ⟨_,⟨⟨xs,h2⟩,rfl⟩,hv,?_⟩
  have:=ARN.shaped hv
  rwa [List.length_map,h2,← hck] at this
end Go.Proofs.YtlbdoeliaeennaaGreat
