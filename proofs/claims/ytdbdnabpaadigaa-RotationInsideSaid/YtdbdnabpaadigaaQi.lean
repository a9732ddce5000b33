import Derived.Test.YtdbdnabpaadigaaQh
set_option linter.unusedVariables false
set_option linter.unusedSimpArgs false
namespace Go.Proofs.Ytdbdnabpaadigaa
def perms4 : List (List Nat):=[[0,1,2,3],[0,1,3,2],[0,2,1,3],[0,2,3,1],[0,3,1,2],[0,3,2,1],[1,0,2,3],[1,0,3,2],[1,2,0,3],[1,2,3,0],[1,3,0,2],[1,3,2,0],[2,0,1,3],[2,0,3,1],[2,1,0,3],[2,1,3,0],[2,3,0,1],[2,3,1,0],[3,0,1,2],[3,0,2,1],[3,1,0,2],[3,1,2,0],[3,2,0,1],[3,2,1,0]]
theorem perm4 {i j k m : Nat} (h : [i,j,k,m].Perm [0,1,2,3]) : [i,j,k,m] ∈ perms4:=by
  have hm : ∀ x ∈ [i,j,k,m],x < 4:=fun x hx=>by
    have:=h.mem_iff.1 hx
    simp at this;omega
  have all : ∀ i,i < 4 → ∀ j,j < 4 → ∀ k,k < 4 → ∀ m,m < 4 → [i,j,k,m].isPerm [0,1,2,3] = true → perms4.contains [i,j,k,m] = true:=by decide +kernel
  have:=all i (hm i (by simp)) j (hm j (by simp)) k (hm k (by simp)) m (hm m (by simp)) (List.isPerm_iff.2 h)
  simpa using this
end Go.Proofs.Ytdbdnabpaadigaa
namespace Go.Proofs.Ytdbdnabpaadigaa
open Go.RowKit (Below)
theorem fin_s {R C : Prop} {E : Int} (h : R ↔ E ≤ 0) (hC : C) : (E > 0 → ¬ R) ∧ (E < 0 → (R ↔ C)):=⟨fun e r=>by have:=h.1 r;omega,fun e=>⟨fun _=>hC,fun _=>h.2 (by omega)⟩⟩
theorem fin_n {R C : Prop} {E : Int} (h : R → E = 0) (hC : ¬ C) : (E > 0 → ¬ R) ∧ (E < 0 → (R ↔ C)):=⟨fun e r=>by have:=h r;omega,fun e=>⟨fun r=>by have:=h r;omega,fun c=>absurd c hC⟩⟩
attribute [local irreducible] rotQ compareF befR
set_option maxHeartbeats 4000000 in
theorem turn_law {xs : List Rat} (hn : ∀ j, 0 ≤ xs.getD j default) {i j k m : Nat} (hp : [i, j, k, m].Perm [0, 1, 2, 3]) (b1 : befR xs i j) (b2 : befR xs j k) (b3 : befR xs k m) {t : Nat} (ht : t < 4) :
    (compareF [xs.getD i default,xs.getD m default] [xs.getD j default,xs.getD k default] > 0 → ¬ rotQ (xs.getD t default) (xs.getD ((t + 3) % 4) default) (xs.getD ((t + 1) % 4) default) (xs.getD ((t + 2) % 4) default)) ∧
    (compareF [xs.getD i default,xs.getD m default] [xs.getD j default,xs.getD k default] < 0 → (rotQ (xs.getD t default) (xs.getD ((t + 3) % 4) default) (xs.getD ((t + 1) % 4) default) (xs.getD ((t + 2) % 4) default) ↔ (t = i ∨ (t + 3) % 4 = i))):=by
  have h0:=hn i;have h1:=bef_le b1;have h2:=bef_le b2;have h3:=bef_le b3
  have hm:=perm4 hp
  simp only [perms4,List.mem_cons,List.not_mem_nil,or_false,List.cons.injEq,and_true] at hm
  clear hp b1 b2 b3
  rcases hm with ⟨rfl,rfl,rfl,rfl⟩ | ⟨rfl,rfl,rfl,rfl⟩ | ⟨rfl,rfl,rfl,rfl⟩ | ⟨rfl,rfl,rfl,rfl⟩ | ⟨rfl,rfl,rfl,rfl⟩ | ⟨rfl,rfl,rfl,rfl⟩ | ⟨rfl,rfl,rfl,rfl⟩ | ⟨rfl,rfl,rfl,rfl⟩ | ⟨rfl,rfl,rfl,rfl⟩ | ⟨rfl,rfl,rfl,rfl⟩ | ⟨rfl,rfl,rfl,rfl⟩ | ⟨rfl,rfl,rfl,rfl⟩ | ⟨rfl,rfl,rfl,rfl⟩ | ⟨rfl,rfl,rfl,rfl⟩ | ⟨rfl,rfl,rfl,rfl⟩ | ⟨rfl,rfl,rfl,rfl⟩ | ⟨rfl,rfl,rfl,rfl⟩ | ⟨rfl,rfl,rfl,rfl⟩ | ⟨rfl,rfl,rfl,rfl⟩ | ⟨rfl,rfl,rfl,rfl⟩ | ⟨rfl,rfl,rfl,rfl⟩ | ⟨rfl,rfl,rfl,rfl⟩ | ⟨rfl,rfl,rfl,rfl⟩ | ⟨rfl,rfl,rfl,rfl⟩
  all_goals
    match t,ht with
    | 0, _ => first
        | exact fin_s (rot_sp h0 h1 h2 h3) (by decide)
        | exact fin_s ((rotQ_swap1 (hn _) (hn _) (hn _) (hn _)).trans (rot_sp h0 h1 h2 h3)) (by decide)
        | exact fin_s ((rotQ_swap2 (hn _) (hn _) (hn _) (hn _)).trans (rot_sp h0 h1 h2 h3)) (by decide)
        | exact fin_s ((rotQ_swap1 (hn _) (hn _) (hn _) (hn _)).trans ((rotQ_swap2 (hn _) (hn _) (hn _) (hn _)).trans (rot_sp h0 h1 h2 h3))) (by decide)
        | exact fin_s (rot_sq h0 h1 h2 h3) (by decide)
        | exact fin_s ((rotQ_swap1 (hn _) (hn _) (hn _) (hn _)).trans (rot_sq h0 h1 h2 h3)) (by decide)
        | exact fin_s ((rotQ_swap2 (hn _) (hn _) (hn _) (hn _)).trans (rot_sq h0 h1 h2 h3)) (by decide)
        | exact fin_s ((rotQ_swap1 (hn _) (hn _) (hn _) (hn _)).trans ((rotQ_swap2 (hn _) (hn _) (hn _) (hn _)).trans (rot_sq h0 h1 h2 h3))) (by decide)
        | exact fin_s (rot_sm h0 h1 h2 h3) (by decide)
        | exact fin_s ((rotQ_swap1 (hn _) (hn _) (hn _) (hn _)).trans (rot_sm h0 h1 h2 h3)) (by decide)
        | exact fin_s ((rotQ_swap2 (hn _) (hn _) (hn _) (hn _)).trans (rot_sm h0 h1 h2 h3)) (by decide)
        | exact fin_s ((rotQ_swap1 (hn _) (hn _) (hn _) (hn _)).trans ((rotQ_swap2 (hn _) (hn _) (hn _) (hn _)).trans (rot_sm h0 h1 h2 h3))) (by decide)
        | exact fin_n (fun r=>rot_pq h0 h1 h2 h3 r) (by decide)
        | exact fin_n (fun r=>rot_pq h0 h1 h2 h3 ((rotQ_swap1 (hn _) (hn _) (hn _) (hn _)).1 r)) (by decide)
        | exact fin_n (fun r=>rot_pq h0 h1 h2 h3 ((rotQ_swap2 (hn _) (hn _) (hn _) (hn _)).1 r)) (by decide)
        | exact fin_n (fun r=>rot_pq h0 h1 h2 h3 ((rotQ_swap2 (hn _) (hn _) (hn _) (hn _)).1 ((rotQ_swap1 (hn _) (hn _) (hn _) (hn _)).1 r))) (by decide)
        | exact fin_n (fun r=>rot_pm h0 h1 h2 h3 r) (by decide)
        | exact fin_n (fun r=>rot_pm h0 h1 h2 h3 ((rotQ_swap1 (hn _) (hn _) (hn _) (hn _)).1 r)) (by decide)
        | exact fin_n (fun r=>rot_pm h0 h1 h2 h3 ((rotQ_swap2 (hn _) (hn _) (hn _) (hn _)).1 r)) (by decide)
        | exact fin_n (fun r=>rot_pm h0 h1 h2 h3 ((rotQ_swap2 (hn _) (hn _) (hn _) (hn _)).1 ((rotQ_swap1 (hn _) (hn _) (hn _) (hn _)).1 r))) (by decide)
        | exact fin_n (fun r=>rot_qm h0 h1 h2 h3 r) (by decide)
        | exact fin_n (fun r=>rot_qm h0 h1 h2 h3 ((rotQ_swap1 (hn _) (hn _) (hn _) (hn _)).1 r)) (by decide)
        | exact fin_n (fun r=>rot_qm h0 h1 h2 h3 ((rotQ_swap2 (hn _) (hn _) (hn _) (hn _)).1 r)) (by decide)
        | exact fin_n (fun r=>rot_qm h0 h1 h2 h3 ((rotQ_swap2 (hn _) (hn _) (hn _) (hn _)).1 ((rotQ_swap1 (hn _) (hn _) (hn _) (hn _)).1 r))) (by decide)
    | 1, _ => first
        | exact fin_s (rot_sp h0 h1 h2 h3) (by decide)
        | exact fin_s ((rotQ_swap1 (hn _) (hn _) (hn _) (hn _)).trans (rot_sp h0 h1 h2 h3)) (by decide)
        | exact fin_s ((rotQ_swap2 (hn _) (hn _) (hn _) (hn _)).trans (rot_sp h0 h1 h2 h3)) (by decide)
        | exact fin_s ((rotQ_swap1 (hn _) (hn _) (hn _) (hn _)).trans ((rotQ_swap2 (hn _) (hn _) (hn _) (hn _)).trans (rot_sp h0 h1 h2 h3))) (by decide)
        | exact fin_s (rot_sq h0 h1 h2 h3) (by decide)
        | exact fin_s ((rotQ_swap1 (hn _) (hn _) (hn _) (hn _)).trans (rot_sq h0 h1 h2 h3)) (by decide)
        | exact fin_s ((rotQ_swap2 (hn _) (hn _) (hn _) (hn _)).trans (rot_sq h0 h1 h2 h3)) (by decide)
        | exact fin_s ((rotQ_swap1 (hn _) (hn _) (hn _) (hn _)).trans ((rotQ_swap2 (hn _) (hn _) (hn _) (hn _)).trans (rot_sq h0 h1 h2 h3))) (by decide)
        | exact fin_s (rot_sm h0 h1 h2 h3) (by decide)
        | exact fin_s ((rotQ_swap1 (hn _) (hn _) (hn _) (hn _)).trans (rot_sm h0 h1 h2 h3)) (by decide)
        | exact fin_s ((rotQ_swap2 (hn _) (hn _) (hn _) (hn _)).trans (rot_sm h0 h1 h2 h3)) (by decide)
        | exact fin_s ((rotQ_swap1 (hn _) (hn _) (hn _) (hn _)).trans ((rotQ_swap2 (hn _) (hn _) (hn _) (hn _)).trans (rot_sm h0 h1 h2 h3))) (by decide)
        | exact fin_n (fun r=>rot_pq h0 h1 h2 h3 r) (by decide)
        | exact fin_n (fun r=>rot_pq h0 h1 h2 h3 ((rotQ_swap1 (hn _) (hn _) (hn _) (hn _)).1 r)) (by decide)
        | exact fin_n (fun r=>rot_pq h0 h1 h2 h3 ((rotQ_swap2 (hn _) (hn _) (hn _) (hn _)).1 r)) (by decide)
        | exact fin_n (fun r=>rot_pq h0 h1 h2 h3 ((rotQ_swap2 (hn _) (hn _) (hn _) (hn _)).1 ((rotQ_swap1 (hn _) (hn _) (hn _) (hn _)).1 r))) (by decide)
        | exact fin_n (fun r=>rot_pm h0 h1 h2 h3 r) (by decide)
        | exact fin_n (fun r=>rot_pm h0 h1 h2 h3 ((rotQ_swap1 (hn _) (hn _) (hn _) (hn _)).1 r)) (by decide)
        | exact fin_n (fun r=>rot_pm h0 h1 h2 h3 ((rotQ_swap2 (hn _) (hn _) (hn _) (hn _)).1 r)) (by decide)
        | exact fin_n (fun r=>rot_pm h0 h1 h2 h3 ((rotQ_swap2 (hn _) (hn _) (hn _) (hn _)).1 ((rotQ_swap1 (hn _) (hn _) (hn _) (hn _)).1 r))) (by decide)
        | exact fin_n (fun r=>rot_qm h0 h1 h2 h3 r) (by decide)
        | exact fin_n (fun r=>rot_qm h0 h1 h2 h3 ((rotQ_swap1 (hn _) (hn _) (hn _) (hn _)).1 r)) (by decide)
        | exact fin_n (fun r=>rot_qm h0 h1 h2 h3 ((rotQ_swap2 (hn _) (hn _) (hn _) (hn _)).1 r)) (by decide)
        | exact fin_n (fun r=>rot_qm h0 h1 h2 h3 ((rotQ_swap2 (hn _) (hn _) (hn _) (hn _)).1 ((rotQ_swap1 (hn _) (hn _) (hn _) (hn _)).1 r))) (by decide)
    | 2, _ => first
        | exact fin_s (rot_sp h0 h1 h2 h3) (by decide)
        | exact fin_s ((rotQ_swap1 (hn _) (hn _) (hn _) (hn _)).trans (rot_sp h0 h1 h2 h3)) (by decide)
        | exact fin_s ((rotQ_swap2 (hn _) (hn _) (hn _) (hn _)).trans (rot_sp h0 h1 h2 h3)) (by decide)
        | exact fin_s ((rotQ_swap1 (hn _) (hn _) (hn _) (hn _)).trans ((rotQ_swap2 (hn _) (hn _) (hn _) (hn _)).trans (rot_sp h0 h1 h2 h3))) (by decide)
        | exact fin_s (rot_sq h0 h1 h2 h3) (by decide)
        | exact fin_s ((rotQ_swap1 (hn _) (hn _) (hn _) (hn _)).trans (rot_sq h0 h1 h2 h3)) (by decide)
        | exact fin_s ((rotQ_swap2 (hn _) (hn _) (hn _) (hn _)).trans (rot_sq h0 h1 h2 h3)) (by decide)
        | exact fin_s ((rotQ_swap1 (hn _) (hn _) (hn _) (hn _)).trans ((rotQ_swap2 (hn _) (hn _) (hn _) (hn _)).trans (rot_sq h0 h1 h2 h3))) (by decide)
        | exact fin_s (rot_sm h0 h1 h2 h3) (by decide)
        | exact fin_s ((rotQ_swap1 (hn _) (hn _) (hn _) (hn _)).trans (rot_sm h0 h1 h2 h3)) (by decide)
        | exact fin_s ((rotQ_swap2 (hn _) (hn _) (hn _) (hn _)).trans (rot_sm h0 h1 h2 h3)) (by decide)
        | exact fin_s ((rotQ_swap1 (hn _) (hn _) (hn _) (hn _)).trans ((rotQ_swap2 (hn _) (hn _) (hn _) (hn _)).trans (rot_sm h0 h1 h2 h3))) (by decide)
        | exact fin_n (fun r=>rot_pq h0 h1 h2 h3 r) (by decide)
        | exact fin_n (fun r=>rot_pq h0 h1 h2 h3 ((rotQ_swap1 (hn _) (hn _) (hn _) (hn _)).1 r)) (by decide)
        | exact fin_n (fun r=>rot_pq h0 h1 h2 h3 ((rotQ_swap2 (hn _) (hn _) (hn _) (hn _)).1 r)) (by decide)
        | exact fin_n (fun r=>rot_pq h0 h1 h2 h3 ((rotQ_swap2 (hn _) (hn _) (hn _) (hn _)).1 ((rotQ_swap1 (hn _) (hn _) (hn _) (hn _)).1 r))) (by decide)
        | exact fin_n (fun r=>rot_pm h0 h1 h2 h3 r) (by decide)
        | exact fin_n (fun r=>rot_pm h0 h1 h2 h3 ((rotQ_swap1 (hn _) (hn _) (hn _) (hn _)).1 r)) (by decide)
        | exact fin_n (fun r=>rot_pm h0 h1 h2 h3 ((rotQ_swap2 (hn _) (hn _) (hn _) (hn _)).1 r)) (by decide)
        | exact fin_n (fun r=>rot_pm h0 h1 h2 h3 ((rotQ_swap2 (hn _) (hn _) (hn _) (hn _)).1 ((rotQ_swap1 (hn _) (hn _) (hn _) (hn _)).1 r))) (by decide)
        | exact fin_n (fun r=>rot_qm h0 h1 h2 h3 r) (by decide)
        | exact fin_n (fun r=>rot_qm h0 h1 h2 h3 ((rotQ_swap1 (hn _) (hn _) (hn _) (hn _)).1 r)) (by decide)
        | exact fin_n (fun r=>rot_qm h0 h1 h2 h3 ((rotQ_swap2 (hn _) (hn _) (hn _) (hn _)).1 r)) (by decide)
        | exact fin_n (fun r=>rot_qm h0 h1 h2 h3 ((rotQ_swap2 (hn _) (hn _) (hn _) (hn _)).1 ((rotQ_swap1 (hn _) (hn _) (hn _) (hn _)).1 r))) (by decide)
    | 3, _ => first
        | exact fin_s (rot_sp h0 h1 h2 h3) (by decide)
        | exact fin_s ((rotQ_swap1 (hn _) (hn _) (hn _) (hn _)).trans (rot_sp h0 h1 h2 h3)) (by decide)
        | exact fin_s ((rotQ_swap2 (hn _) (hn _) (hn _) (hn _)).trans (rot_sp h0 h1 h2 h3)) (by decide)
        | exact fin_s ((rotQ_swap1 (hn _) (hn _) (hn _) (hn _)).trans ((rotQ_swap2 (hn _) (hn _) (hn _) (hn _)).trans (rot_sp h0 h1 h2 h3))) (by decide)
        | exact fin_s (rot_sq h0 h1 h2 h3) (by decide)
        | exact fin_s ((rotQ_swap1 (hn _) (hn _) (hn _) (hn _)).trans (rot_sq h0 h1 h2 h3)) (by decide)
        | exact fin_s ((rotQ_swap2 (hn _) (hn _) (hn _) (hn _)).trans (rot_sq h0 h1 h2 h3)) (by decide)
        | exact fin_s ((rotQ_swap1 (hn _) (hn _) (hn _) (hn _)).trans ((rotQ_swap2 (hn _) (hn _) (hn _) (hn _)).trans (rot_sq h0 h1 h2 h3))) (by decide)
        | exact fin_s (rot_sm h0 h1 h2 h3) (by decide)
        | exact fin_s ((rotQ_swap1 (hn _) (hn _) (hn _) (hn _)).trans (rot_sm h0 h1 h2 h3)) (by decide)
        | exact fin_s ((rotQ_swap2 (hn _) (hn _) (hn _) (hn _)).trans (rot_sm h0 h1 h2 h3)) (by decide)
        | exact fin_s ((rotQ_swap1 (hn _) (hn _) (hn _) (hn _)).trans ((rotQ_swap2 (hn _) (hn _) (hn _) (hn _)).trans (rot_sm h0 h1 h2 h3))) (by decide)
        | exact fin_n (fun r=>rot_pq h0 h1 h2 h3 r) (by decide)
        | exact fin_n (fun r=>rot_pq h0 h1 h2 h3 ((rotQ_swap1 (hn _) (hn _) (hn _) (hn _)).1 r)) (by decide)
        | exact fin_n (fun r=>rot_pq h0 h1 h2 h3 ((rotQ_swap2 (hn _) (hn _) (hn _) (hn _)).1 r)) (by decide)
        | exact fin_n (fun r=>rot_pq h0 h1 h2 h3 ((rotQ_swap2 (hn _) (hn _) (hn _) (hn _)).1 ((rotQ_swap1 (hn _) (hn _) (hn _) (hn _)).1 r))) (by decide)
        | exact fin_n (fun r=>rot_pm h0 h1 h2 h3 r) (by decide)
        | exact fin_n (fun r=>rot_pm h0 h1 h2 h3 ((rotQ_swap1 (hn _) (hn _) (hn _) (hn _)).1 r)) (by decide)
        | exact fin_n (fun r=>rot_pm h0 h1 h2 h3 ((rotQ_swap2 (hn _) (hn _) (hn _) (hn _)).1 r)) (by decide)
        | exact fin_n (fun r=>rot_pm h0 h1 h2 h3 ((rotQ_swap2 (hn _) (hn _) (hn _) (hn _)).1 ((rotQ_swap1 (hn _) (hn _) (hn _) (hn _)).1 r))) (by decide)
        | exact fin_n (fun r=>rot_qm h0 h1 h2 h3 r) (by decide)
        | exact fin_n (fun r=>rot_qm h0 h1 h2 h3 ((rotQ_swap1 (hn _) (hn _) (hn _) (hn _)).1 r)) (by decide)
        | exact fin_n (fun r=>rot_qm h0 h1 h2 h3 ((rotQ_swap2 (hn _) (hn _) (hn _) (hn _)).1 r)) (by decide)
        | exact fin_n (fun r=>rot_qm h0 h1 h2 h3 ((rotQ_swap2 (hn _) (hn _) (hn _) (hn _)).1 ((rotQ_swap1 (hn _) (hn _) (hn _) (hn _)).1 r))) (by decide)
end Go.Proofs.Ytdbdnabpaadigaa
namespace Go.Proofs.Ytdbdnabpaadigaa
open Go.RowKit (Below)
theorem vget (l : List FR) (j : Nat) : (l.map FR.val).getD j default = (l.getD j default).val:=by
  rw [List.getD_eq_getElem?_getD,List.getD_eq_getElem?_getD,List.getElem?_map]
  cases l[j]? with
  | none=>exact val_default.symm
  | some z=>rfl
theorem rotL_iff {l : List FR} {t : Nat} : rotL l t = true ↔ rotQ ((l.map FR.val).getD t default) ((l.map FR.val).getD ((t + 3) % 4) default) ((l.map FR.val).getD ((t + 1) % 4) default) ((l.map FR.val).getD ((t + 2) % 4) default):=by
  simp only [vget]
  unfold rotL rotQ
  rw [Bool.and_eq_true,decide_eq_true_iff,decide_eq_true_iff]
theorem lk_get (l : List FR) (j : Nat) : lk l j = (l.map FR.val).getD ((orderF (l.map FR.val)).getD j default) default:=by rw [vget];rfl
theorem turns {l : List FR} (h : l.all posR = true) {t : Nat} (ht : t < 4) : (excF l > 0 → rotL l t = false) ∧ (excF l < 0 → (rotL l t = true ↔ (t = (orderF (l.map FR.val)).getD 0 default ∨ (t + 3) % 4 = (orderF (l.map FR.val)).getD 0 default))):=by
  obtain ⟨i,j,k,m,e,hp,b1,b2,b3⟩:=order_ok (l.map FR.val)
  have hE : excF l = compareF [(l.map FR.val).getD i default,(l.map FR.val).getD m default] [(l.map FR.val).getD j default,(l.map FR.val).getD k default]:=by
    unfold excF;simp only [lk_get,e];rfl
  have hl:=turn_law (xs:=l.map FR.val) (fun q=>by rw [vget];exact vals_pos h q) hp b1 b2 b3 ht
  rw [← hE] at hl
  rw [e]
  refine ⟨fun h1=>?_,fun h1=>rotL_iff.trans (hl.2 h1)⟩
  cases hr : rotL l t with
  | false=>rfl
  | true=>exact absurd (rotL_iff.1 hr) (hl.1 h1)
def leastI (xs : List Rat) (b i : Nat) : Prop:=b < 4 ∧ (b < i ∨ (i = 0 ∧ b = 0)) ∧ ∀ j,j < i → j = b ∨ befR xs b j
theorem least_0 (xs : List Rat) : leastI xs 0 0:=⟨by decide,.inr ⟨rfl,rfl⟩,fun j hj=>absurd hj (Nat.not_lt_zero _)⟩
theorem least_t {l : List FR} {b i : Nat} (h : leastI (l.map FR.val) b i) (hi : i < 4) (hc : cmpQ (l.getD i default).val (l.getD b default).val < 0) : leastI (l.map FR.val) i (i + 1):=by
  rw [← vget,← vget] at hc
  refine ⟨hi,.inl (by omega),fun j hj=>?_⟩
  rcases Nat.lt_or_ge j i with h1 | h1
  · right
    have hb : befR (l.map FR.val) i b:=by
      rcases h.2.1 with h2 | ⟨h2,h3⟩
      · exact bef_t h2 hc
      · omega
    rcases h.2.2 j h1 with h2 | h2
    · rw [h2];exact hb
    · exact bef_trans hb h2
  · left;omega
theorem least_f {l : List FR} {b i : Nat} (h : leastI (l.map FR.val) b i) (hc : ¬ cmpQ (l.getD i default).val (l.getD b default).val < 0) : leastI (l.map FR.val) b (i + 1):=by
  rw [← vget,← vget] at hc
  refine ⟨h.1,.inl (by rcases h.2.1 with h2 | ⟨h2,h3⟩ <;> omega),fun j hj=>?_⟩
  rcases Nat.lt_or_ge j i with h1 | h1
  · exact h.2.2 j h1
  · obtain rfl : j = i:=by omega
    rcases h.2.1 with h2 | ⟨h2,h3⟩
    · exact .inr (bef_f h2 hc)
    · left;omega
theorem least_end {xs : List Rat} {b : Nat} (h : leastI xs b 4) : b = (orderF xs).getD 0 default:=by
  obtain ⟨i,j,k,m,e,hp,b1,b2,b3⟩:=order_ok xs
  rw [e]
  show b = i
  have hb : b ∈ [i,j,k,m]:=hp.mem_iff.2 (by have:=h.1;simp;omega)
  have hi4 : i < 4:=by have:=hp.mem_iff.1 (show i ∈ [i,j,k,m] by simp);simp at this;omega
  rcases h.2.2 i hi4 with h1 | h1
  · exact h1.symm
  · simp only [List.mem_cons,List.not_mem_nil,or_false] at hb
    rcases hb with h2 | h2 | h2 | h2
    · exact h2
    · subst h2;exact (bef_asymm h1 b1).elim
    · subst h2;exact (bef_asymm h1 (bef_trans b1 b2)).elim
    · subst h2;exact (bef_asymm h1 (bef_trans (bef_trans b1 b2) b3)).elim
theorem excRes_ok {l : List FR} (h : chkF l = 0) : excRes l = excF l:=by unfold excRes;rw [if_pos h]
theorem rotF_in {l : List FR} {i : Nat} (h : chkF l = 0) (hi : i < 4) : rotF l ((i : Nat) : Int) = rotL l i:=by rw [rotF_ok (by omega) (by omega)];simp
theorem sh_eq1 {r : Bool} {t o c : Nat} (h : r = true ↔ (t = o ∨ (t + 3) % 4 = o)) (hc : c = o) (ht : t = c) : (!(r == true)) = false:=by
  rw [h.2 (.inl (ht.trans hc))];rfl
theorem sh_eq2 {r : Bool} {t o c : Nat} (h : r = true ↔ (t = o ∨ (t + 3) % 4 = o)) (hc : c = o) (ht : ¬ t = c) : (!(r == decide ((t + 3) % 4 = c))) = false:=by
  subst hc
  by_cases h2 : (t + 3) % 4 = c
  · rw [h.2 (.inr h2),decide_eq_true h2];rfl
  · rw [decide_eq_false h2]
    cases r with
    | false=>rfl
    | true => rcases h.1 rfl with h3 | h3
              · exact absurd h3 ht
              · exact absurd h3 h2
end Go.Proofs.Ytdbdnabpaadigaa
namespace Go.Proofs.Ytdbdnabpaadigaa
open Go.RowKit (Below)
theorem md4_lt (k : Int) : md4 k < 4:=by
  have h : md4 k = (k % 4).toNat:=rfl
  omega
theorem tmod4 (k : Int) : k.tmod 4 = k % 4 ∨ (k.tmod 4 = k % 4 - 4 ∧ k % 4 ≠ 0):=by
  rw [Int.tmod_eq_emod]
  split
  · left;omega
  · rename_i h
    right
    have h2 : ¬ (4 : Int) ∣ k:=fun h3=>h (.inr h3)
    refine ⟨by simp,fun h3=>h2 (Int.dvd_of_emod_eq_zero h3)⟩
theorem tmod4_bd (k : Int) : -9223372036854775808 ≤ k.tmod 4 + 4 ∧ k.tmod 4 + 4 ≤ 9223372036854775807:=by
  have:=tmod4 k;omega
theorem md4_eq (k : Int) : (k.tmod 4 + 4).tmod 4 = ((md4 k : Nat) : Int):=by
  have h:=tmod4 k
  have h1 : (k.tmod 4 + 4).tmod 4 = (k.tmod 4 + 4) % 4:=Int.tmod_eq_emod_of_nonneg (by omega)
  rw [h1]
  have h2 : ((md4 k : Nat) : Int) = k % 4:=by unfold md4;exact Int.toNat_of_nonneg (Int.emod_nonneg k (by decide))
  rw [h2]
  omega
def invL (l : List FR) (m n : Nat) : List FR:=(List.range n).map fun j=>FR.of ((l.getD ((j + m) % 4) default).val)
theorem inv_next {l : List FR} {m n : Nat} : invL l m n ++ [FR.of ((l.getD ((n + m) % 4) default).val)] = invL l m (n + 1):=by unfold invL;rw [List.range_succ,List.map_append];rfl
theorem inv_len {l : List FR} {m n : Nat} : (invL l m n).length = n:=by unfold invL;simp
theorem inv_at {l : List FR} {k : Int} {j : Nat} (h : chkF l = 0) (hj : j < 4) : (invL l (md4 k) 4).getD j default = invF l k j:=by
  unfold invF invL;rw [if_pos h]
  rw [List.getD_eq_getElem?_getD,List.getElem?_map,List.getElem?_range hj];rfl
theorem inv_bad {l : List FR} {k : Int} {j : Nat} (h : chkF l ≠ 0) : default = invF l k j:=by unfold invF;rw [if_neg h]
end Go.Proofs.Ytdbdnabpaadigaa
namespace Go.Proofs.Ytdbdnabpaadigaa
open Go.RowKit (Below)
def svF (xs : List Rat) : List Rat:=(orderF xs).map fun j=>xs.getD j default
theorem sv_perm {a b c d : Rat} : (svF [a,b,c,d]).Perm [a,b,c,d]:=by
  obtain ⟨i,j,k,m,e,hp,_⟩:=order_ok [a,b,c,d]
  unfold svF;rw [e]
  exact (hp.map _ : ([i,j,k,m].map fun j=>[a,b,c,d].getD j default).Perm ([0,1,2,3].map fun j=>[a,b,c,d].getD j default))
theorem sv_sorted (xs : List Rat) : (svF xs).Pairwise (· ≤ ·):=by
  obtain ⟨i,j,k,m,e,hp,b1,b2,b3⟩:=order_ok xs
  unfold svF;rw [e]
  have h1:=bef_le b1;have h2:=bef_le b2;have h3:=bef_le b3
  simp only [List.map_cons,List.map_nil,List.pairwise_cons,List.mem_cons,List.not_mem_nil,or_false,forall_eq_or_imp,forall_eq,List.Pairwise.nil,and_true]
  refine ⟨⟨h1,?_,?_⟩,⟨h2,?_⟩,h3,by simp⟩ <;> grind
theorem sv_eq {xs ys : List Rat} (h : (svF xs).Perm (svF ys)) : svF xs = svF ys :=
  h.eq_of_pairwise (le:=(· ≤ ·)) (fun a b _ _ h k=>by grind) (sv_sorted xs) (sv_sorted ys)
theorem sv_get {xs : List Rat} {j : Nat} (hj : j < 4) : (svF xs).getD j default = xs.getD ((orderF xs).getD j default) default:=by
  unfold svF
  have:=orderF_len xs
  rw [List.getD_eq_getElem?_getD,List.getD_eq_getElem?_getD (l:=orderF xs),List.getElem?_map,List.getElem?_eq_getElem (by omega)]
  rfl
theorem lk_sv {l : List FR} {j : Nat} (hj : j < 4) : lk l j = (svF (l.map FR.val)).getD j default:=by rw [lk_get,sv_get hj]
def invQ (l : List FR) (k : Int) : List FR:=[invF l k 0,invF l k 1,invF l k 2,invF l k 3]
theorem invQ_vals {ra rb rc rd : FR} {k : Int} (h : chkF [ra,rb,rc,rd] = 0) : (invQ [ra,rb,rc,rd] k).map FR.val = [([ra,rb,rc,rd].getD ((0 + md4 k) % 4) default).val,([ra,rb,rc,rd].getD ((1 + md4 k) % 4) default).val,([ra,rb,rc,rd].getD ((2 + md4 k) % 4) default).val,([ra,rb,rc,rd].getD ((3 + md4 k) % 4) default).val]:=by
  unfold invQ invF;simp only [if_pos h,List.map_cons,List.map_nil,FR.of_val]
theorem inv_perm {ra rb rc rd : FR} {k : Int} (h : chkF [ra,rb,rc,rd] = 0) : ((invQ [ra,rb,rc,rd] k).map FR.val).Perm ([ra,rb,rc,rd].map FR.val):=by
  rw [invQ_vals h]
  have hm:=md4_lt k
  generalize md4 k = m at hm
  match m,hm with
  | 0,_=>exact List.Perm.refl _
  | 1,_=>exact List.perm_append_comm (l₁:=[rb.val,rc.val,rd.val]) (l₂:=[ra.val])
  | 2,_=>exact List.perm_append_comm (l₁:=[rc.val,rd.val]) (l₂:=[ra.val,rb.val])
  | 3,_=>exact List.perm_append_comm (l₁:=[rd.val]) (l₂:=[ra.val,rb.val,rc.val])
theorem inv_sv {ra rb rc rd : FR} {k : Int} (h : chkF [ra,rb,rc,rd] = 0) : svF ((invQ [ra,rb,rc,rd] k).map FR.val) = svF ([ra,rb,rc,rd].map FR.val) :=
  sv_eq (sv_perm.trans ((inv_perm h).trans sv_perm.symm))
theorem inv_lk {ra rb rc rd : FR} {k : Int} (h : chkF [ra,rb,rc,rd] = 0) {j : Nat} (hj : j < 4) : lk (invQ [ra,rb,rc,rd] k) j = lk [ra,rb,rc,rd] j:=by rw [lk_sv hj,lk_sv hj,inv_sv h]
theorem inv_exc {ra rb rc rd : FR} {k : Int} (h : chkF [ra,rb,rc,rd] = 0) : excF (invQ [ra,rb,rc,rd] k) = excF [ra,rb,rc,rd]:=by
  unfold excF
  rw [inv_lk h (by decide),inv_lk h (by decide),inv_lk h (by decide),inv_lk h (by decide)]
theorem inv_pos {l : List FR} {k : Int} (h : chkF l = 0) (hl : l.length = 4) : (invQ l k).all posR = true:=by
  have hp:=chk_pos h
  have : ∀ j,posR (invF l k j) = true:=fun j=>by
    unfold invF;rw [if_pos h,posR_of4]
    have hlt : (j + md4 k) % 4 < l.length:=by rw [hl];exact Nat.mod_lt _ (by decide)
    refine decide_eq_true (posR_val (List.all_eq_true.1 hp _ ?_))
    rw [List.getD_eq_getElem?_getD,List.getElem?_eq_getElem hlt];exact List.getElem_mem hlt
  unfold invQ;simp [this]
theorem inv_chk {ra rb rc rd : FR} {k : Int} (h : chkF [ra,rb,rc,rd] = 0) : chkF (invQ [ra,rb,rc,rd] k) = 0:=by
  have h2:=h
  unfold chkF at h ⊢
  rw [inv_pos h2 rfl,inv_lk h2 (by decide),inv_lk h2 (by decide),inv_lk h2 (by decide),inv_lk h2 (by decide)]
  rw [chk_pos h2] at h
  exact h
theorem exc_strict {s p q m : Rat} (h0 : 0 ≤ s) (h1 : s ≤ p) (h2 : p ≤ q) (h3 : q ≤ m) (hE : compareF [s,m] [p,q] < 0) : s < p:=by
  rcases Classical.em (s < p) with h | h
  · exact h
  · have e : s = p:=by grind
    subst e
    have hq:=rt_le (show 0 ≤ q by grind) h3
    rw [cmp4 h0 (by grind) h0 (by grind)] at hE
    have : sgR (rt s + rt m - (rt s + rt q)) ≥ 0:=sgR_ge.2 (RR.add_le_add (RR.le_refl _) hq)
    omega
def hd4 (l : List FR) : Nat:=(orderF (l.map FR.val)).getD 0 default
theorem inv_hd {ra rb rc rd : FR} {k : Int} (h : chkF [ra,rb,rc,rd] = 0) (hE : excF [ra,rb,rc,rd] < 0) : (hd4 (invQ [ra,rb,rc,rd] k) + md4 k) % 4 = hd4 [ra,rb,rc,rd]:=by
  have hv : ((invQ [ra,rb,rc,rd] k).map FR.val).getD (hd4 (invQ [ra,rb,rc,rd] k)) default = ([ra,rb,rc,rd].map FR.val).getD (hd4 [ra,rb,rc,rd]) default:=by
    have:=inv_lk (k:=k) h (j:=0) (by decide)
    rw [lk_get,lk_get] at this
    exact this
  have hlt : hd4 (invQ [ra,rb,rc,rd] k) < 4:=orderF_lt _ 0
  have hg : ((invQ [ra,rb,rc,rd] k).map FR.val).getD (hd4 (invQ [ra,rb,rc,rd] k)) default = ([ra,rb,rc,rd].map FR.val).getD ((hd4 (invQ [ra,rb,rc,rd] k) + md4 k) % 4) default:=by
    rw [invQ_vals h,vget]
    generalize hd4 (invQ [ra,rb,rc,rd] k) = q at hlt
    match q,hlt with
    | 0,_=>rfl
    | 1,_=>rfl
    | 2,_=>rfl
    | 3,_=>rfl
  rw [hg] at hv
  have hq : (hd4 (invQ [ra,rb,rc,rd] k) + md4 k) % 4 < 4:=Nat.mod_lt _ (by decide)
  generalize (hd4 (invQ [ra,rb,rc,rd] k) + md4 k) % 4 = q at hv hq
  obtain ⟨i,j,k',m,e,hp,b1,b2,b3⟩:=order_ok ([ra,rb,rc,rd].map FR.val)
  have hpos:=chk_pos h
  have hh : hd4 [ra,rb,rc,rd] = i:=by unfold hd4;rw [e];rfl
  rw [hh] at hv ⊢
  have hE' : excF [ra,rb,rc,rd] = compareF [([ra,rb,rc,rd].map FR.val).getD i default,([ra,rb,rc,rd].map FR.val).getD m default] [([ra,rb,rc,rd].map FR.val).getD j default,([ra,rb,rc,rd].map FR.val).getD k' default]:=by
    unfold excF;simp only [lk_get,e];rfl
  rw [hE'] at hE
  have l1:=bef_le b1;have l2:=bef_le b2;have l3:=bef_le b3
  have hs:=exc_strict (by rw [vget];exact vals_pos hpos _) l1 l2 l3 hE
  have hm : q ∈ [i,j,k',m]:=hp.mem_iff.2 (by simp;omega)
  simp only [List.mem_cons,List.not_mem_nil,or_false] at hm
  rcases hm with h2 | h2 | h2 | h2
  · exact h2
  all_goals (subst h2;exfalso;grind)
end Go.Proofs.Ytdbdnabpaadigaa
namespace Go.Proofs.Ytdbdnabpaadigaa
theorem md4_mod (k : Nat) : md4 ((k % 4 : Nat) : Int) = k % 4:=by
  have h : md4 ((k % 4 : Nat) : Int) = (((k % 4 : Nat) : Int) % 4).toNat:=rfl
  omega
theorem cmp_bd (l m : List Rat) (hl : ∀ q ∈ l,0 ≤ q) (hm : ∀ q ∈ m,0 ≤ q) : compareF l m = -1 ∨ compareF l m = 0 ∨ compareF l m = 1:=by
  rw [compareF_sg hl hm]
  rcases sgR_cases (rs l - rs m) with h | h | h <;> simp [h.2]
theorem exc_bd {ra rb rc rd : FR} (h : chkF [ra,rb,rc,rd] = 0) : excF [ra,rb,rc,rd] = -1 ∨ excF [ra,rb,rc,rd] = 0 ∨ excF [ra,rb,rc,rd] = 1:=by
  have hp : ∀ j,0 ≤ lk [ra,rb,rc,rd] j:=fun j=>by
    unfold lk;exact vals_pos (chk_pos h) _
  unfold excF
  exact cmp_bd _ _ (by simp [hp]) (by simp [hp])
def lnk (j : Nat) : Nat:=([1,0,2,3] : List Nat).getD j default
theorem lnk_lnk {j : Nat} (h : j < 4) : ([1,0,2,3] : List Nat).getD (lnk j) default = j:=by
  match j,h with
  | 0,_=>rfl
  | 1,_=>rfl
  | 2,_=>rfl
  | 3,_=>rfl
theorem lnk_lt (j : Nat) : lnk j < 4:=by
  unfold lnk
  match j with
  | 0=>decide
  | 1=>decide
  | 2=>decide
  | 3=>decide
  | j + 4=>exact (show 0 < 4 by decide)
theorem hd4_lt (l : List FR) : hd4 l < 4:=orderF_lt _ 0
theorem cls_up {ra rb rc rd : FR} (h : chkF [ra,rb,rc,rd] = 0) (hE : excF [ra,rb,rc,rd] ≥ 0) : clsF [ra,rb,rc,rd] = if excF [ra,rb,rc,rd] > 0 then 4 else 5:=by
  unfold clsF;rw [if_pos h]
  rcases exc_bd h with e | e | e
  · omega
  · rw [e];rfl
  · rw [e];rfl
theorem cls_dn {ra rb rc rd : FR} (h : chkF [ra,rb,rc,rd] = 0) (hE : excF [ra,rb,rc,rd] < 0) : clsF [ra,rb,rc,rd] = ((lnk (hd4 [ra,rb,rc,rd]) : Nat) : Int):=by
  unfold clsF;rw [if_pos h,if_neg (by omega),if_neg (by omega)];rfl
theorem cls_bd {ra rb rc rd : FR} (h : chkF [ra,rb,rc,rd] = 0) : 0 ≤ clsF [ra,rb,rc,rd] ∧ clsF [ra,rb,rc,rd] ≤ 5:=by
  rcases Int.lt_or_le (excF [ra,rb,rc,rd]) 0 with e | e
  · rw [cls_dn h e];have:=lnk_lt (hd4 [ra,rb,rc,rd]);omega
  · rw [cls_up h e];split <;> omega
theorem inv_hd2 {ra rb rc rd : FR} {k : Nat} (h : chkF [ra,rb,rc,rd] = 0) (hE : excF [ra,rb,rc,rd] < 0) : (hd4 (invQ [ra,rb,rc,rd] ((k % 4 : Nat) : Int)) + k % 4) % 4 = hd4 [ra,rb,rc,rd]:=by
  have:=inv_hd (k:=((k % 4 : Nat) : Int)) h hE
  rwa [md4_mod] at this
end Go.Proofs.Ytdbdnabpaadigaa
namespace Go.Proofs.Ytdbdnabpaadigaa
theorem fr_self {r : FR} (hw : wfl r.p ∧ wfl r.q) (hok : r.ok = true) : FR.of r.val = r:=by
  obtain ⟨s,p,q⟩:=r
  have hw : wfl p ∧ wfl q:=hw
  have hok : qok s p q = true:=hok
  by_cases hp : p.length = 0
  · have e:=List.length_eq_zero_iff.1 hp
    subst e
    have h : qok s [] q = true:=hok
    have hv : FR.val ⟨s,[],q⟩ = 0:=qval_nil rfl
    unfold qok at h
    split at h
    · rename_i k
      obtain rfl:=k.2
      rw [hv]
      have : s = false:=by simpa using h
      subst this
      unfold FR.of dwords
      rw [if_pos rfl,show (0 : Rat).num.natAbs = 0 from rfl,words_zero];rfl
    · simp at h
  · obtain ⟨_,h3,h4,h5,h6⟩:=qval_parts hw hok hp
    have hp0 : val p ≠ 0:=fun e=>ne_of_len hp (val_eq_zero h3 e)
    have hne : FR.val ⟨s,p,q⟩ ≠ 0:=fun e=>by
      have h5' : (FR.val ⟨s,p,q⟩).num = sg s (val p):=h5
      rw [e] at h5'
      have:=congrArg Int.natAbs h5'
      rw [sg_abs] at this;exact hp0 this.symm
    have hs : decide (FR.val ⟨s,p,q⟩ < 0) = s:=by
      have h5' : (FR.val ⟨s,p,q⟩).num = sg s (val p):=h5
      have h7 : FR.val ⟨s,p,q⟩ < 0 ↔ (FR.val ⟨s,p,q⟩).num < 0:=by
        rw [← Rat.not_le,← Rat.num_nonneg];omega
      rw [Bool.eq_iff_iff,decide_eq_true_iff,h7,h5']
      cases s <;> simp [sg] <;> omega
    unfold FR.of dwords
    rw [if_neg hne,hs]
    have e1 : (FR.val ⟨s,p,q⟩).num.natAbs = val p:=(congrArg Int.natAbs h5).trans sg_abs
    have e2 : (FR.val ⟨s,p,q⟩).den = val q:=h6
    rw [e1,e2,words_val hw.1 h3,words_val hw.2 h4]
theorem FX.self {n : Nat} {r : FR} {v : Value} {G : Gh} (h : (FX n r).t v G) (hok : r.ok = true) : (FX n (FR.of r.val)).t v G:=FX.eq h (fr_self (QR.wf (FX.qr h)) hok).symm
theorem FX.inv {n : Nat} {ra rb rc rd : FR} {k : Int} {j : Nat} {v : Value} {G : Gh} (hck : chkF [ra,rb,rc,rd] = 0) (h : (FX n ([ra,rb,rc,rd].getD ((j + md4 k) % 4) default)).t v G) : (FX n (invF [ra,rb,rc,rd] k j)).t v G:=by
  have hp:=chk_pos hck
  unfold invF;rw [if_pos hck]
  refine FX.self h ?_
  have hlt : (j + md4 k) % 4 < [ra,rb,rc,rd].length:=Nat.mod_lt _ (by decide)
  have hm : [ra,rb,rc,rd].getD ((j + md4 k) % 4) default ∈ [ra,rb,rc,rd]:=by
    rw [List.getD_eq_getElem?_getD,List.getElem?_eq_getElem hlt];exact List.getElem_mem hlt
  have:=List.all_eq_true.1 hp _ hm
  unfold posR at this
  exact (Bool.and_eq_true_iff.1 this).1
section
variable {a b c d A B C D : Rat}
theorem sums_cmp (ha : 0 ≤ a) (hb : 0 ≤ b) (hc : 0 ≤ c) (hd : 0 ≤ d) (hA : (A = a ∧ B = b) ∨ (A = b ∧ B = a)) (hC : (C = c ∧ D = d) ∨ (C = d ∧ D = c)) : sumsF A B C D = compareF [a,b] [c,d]:=by
  rw [cmp4 ha hb hc hd]
  rcases hA with ⟨rfl,rfl⟩ | ⟨rfl,rfl⟩ <;> rcases hC with ⟨rfl,rfl⟩ | ⟨rfl,rfl⟩
  · rw [sums_four ha hb hc hd]
  · rw [sums_four ha hb hd hc,RR.add_comm (rt C)]
  · rw [sums_four hb ha hc hd,RR.add_comm (rt A)]
  · rw [sums_four hb ha hd hc,RR.add_comm (rt A),RR.add_comm (rt C)]
theorem mm_t (h : cmpQ a b < 0) : maxQ a b = b ∧ minQ a b = a:=by
  have:=cmpQ_lt0.1 h
  exact ⟨max_le (by grind),min_le (by grind)⟩
theorem mm_f (h : ¬ cmpQ a b < 0) : maxQ a b = a ∧ minQ a b = b:=by
  rw [cmpQ_lt0] at h
  unfold maxQ minQ
  refine ⟨if_pos (Rat.not_lt.1 h),?_⟩
  split <;> grind
theorem sums_cmp2 (ha : 0 ≤ a) (hb : 0 ≤ b) (hc : 0 ≤ c) (hd : 0 ≤ d) (hA : maxQ a b = A ∧ minQ a b = B) (hC : maxQ c d = C ∧ minQ c d = D) : sumsF A D B C = compareF [maxQ a b,minQ c d] [minQ a b,maxQ c d]:=by
  have n1 : 0 ≤ maxQ a b:=by unfold maxQ;split <;> assumption
  have n2 : 0 ≤ minQ a b:=by unfold minQ;split <;> assumption
  have n3 : 0 ≤ maxQ c d:=by unfold maxQ;split <;> assumption
  have n4 : 0 ≤ minQ c d:=by unfold minQ;split <;> assumption
  rw [← hA.1,← hA.2,← hC.1,← hC.2,sums_four n1 n4 n2 n3,cmp4 n1 n4 n2 n3]
end
theorem rrot_t {l : List FR} {k : Nat} (c : compareF [(l.getD k default).val, (l.getD ((k + 3) % 4) default).val] [(l.getD ((k + 1) % 4) default).val, (l.getD ((k + 2) % 4) default).val] ≤ 0) :
    decide (compareF [maxQ (l.getD k default).val (l.getD ((k + 3) % 4) default).val,minQ (l.getD ((k + 1) % 4) default).val (l.getD ((k + 2) % 4) default).val] [minQ (l.getD k default).val (l.getD ((k + 3) % 4) default).val,maxQ (l.getD ((k + 1) % 4) default).val (l.getD ((k + 2) % 4) default).val] ≥ 0) = rotL l k:=by
  unfold rotL;rw [decide_eq_true c,Bool.true_and]
theorem rrot_f {l : List FR} {k : Nat} (c : ¬ compareF [(l.getD k default).val,(l.getD ((k + 3) % 4) default).val] [(l.getD ((k + 1) % 4) default).val,(l.getD ((k + 2) % 4) default).val] ≤ 0) : false = rotL l k:=by
  unfold rotL;rw [decide_eq_false c,Bool.false_and]
theorem rotF_in2 {l : List FR} {k : Int} (h : chkF l = 0) (hk : 0 ≤ k ∧ k ≤ 3) : rotF l k = rotL l k.toNat:=rotF_ok (by omega) hk
end Go.Proofs.Ytdbdnabpaadigaa
set_option linter.unusedVariables false
set_option linter.unusedSimpArgs false
namespace Go.Proofs.Ytdbdnabpaadigaa
def nearR (x : Rat) (u v : RR) (k : Rat) : RR:=RR.of x + RR.of (-(2 * k)) * u + RR.of 2 * v
theorem rt_sub {x : Rat} {u v : RR} {k m : Rat} : nearR x u v k - nearR x u v m = RR.of (2 * (m - k)) * u:=by
  unfold nearR
  obtain ⟨f,hf,rfl⟩:=RR.rep u;obtain ⟨g,hg,rfl⟩:=RR.rep v
  exact RR.ext fun n=>by grind
theorem near_R {g a b c : FR} (h : [g,a,b,c].all posR = true) (k : Rat) : nearF g a b c k = sgR (nearR (g.val + a.val - (b.val + c.val)) (rt (a.val * g.val)) (rt (b.val * c.val)) k):=surds_sg (pos_nn h).1 (pos_nn h).2
theorem far_R {g a b c : FR} (h : [g,a,b,c].all posR = true) (k : Rat) : farF g a b c k = sgR (nearR (-(g.val + a.val - (b.val + c.val))) (rt (a.val * g.val)) (rt (b.val * c.val)) (-k)):=by
  unfold farF nearR
  rw [show -(g.val + a.val - (b.val + c.val)) = b.val + c.val - (g.val + a.val) by grind,show -(2 * -k) = 2 * k by grind]
  exact surds_sg (pos_nn h).1 (pos_nn h).2
theorem nearR_anti {x : Rat} {u v : RR} (hu : 0 ≤ u) {k m : Rat} (hk : k ≤ m) : sgR (nearR x u v m) ≤ sgR (nearR x u v k):=by
  refine sgR_mono ?_
  rw [RR.le_iff_sub,rt_sub]
  exact RR.mul_nn (RR.of_le (p:=0) |>.2 (by grind)) hu
theorem near_anti {g a b c : FR} (h : [g,a,b,c].all posR = true) {k m : Rat} (hk : k ≤ m) : nearF g a b c m ≤ nearF g a b c k:=by
  rw [near_R h,near_R h];exact nearR_anti (rt_nn _) hk
theorem far_mono {g a b c : FR} (h : [g,a,b,c].all posR = true) {k m : Rat} (hk : k ≤ m) : farF g a b c k ≤ farF g a b c m:=by
  rw [far_R h,far_R h];exact nearR_anti (rt_nn _) (by grind)
theorem near_len {g a b c k : Rat} (hg : 0 < g) (ha : 0 < a) (hb : 0 < b) (hc : 0 < c) : nearF (FR.of (g * g)) (FR.of (a * a)) (FR.of (b * b)) (FR.of (c * c)) k = cmpQ (g * g + a * a - 2 * k * (g * a)) ((b - c) * (b - c)) ∧
    farF (FR.of (g * g)) (FR.of (a * a)) (FR.of (b * b)) (FR.of (c * c)) k = cmpQ ((b + c) * (b + c)) (g * g + a * a - 2 * k * (g * a)):=by
  have hp : [FR.of (g * g),FR.of (a * a),FR.of (b * b),FR.of (c * c)].all posR = true:=by
    simp only [List.all_cons,List.all_nil,posR_of4,Bool.and_true,Bool.and_eq_true,decide_eq_true_eq]
    exact ⟨Rat.mul_pos hg hg,Rat.mul_pos ha ha,Rat.mul_pos hb hb,Rat.mul_pos hc hc⟩
  rw [near_R hp,far_R hp,FR.of_val,FR.of_val,FR.of_val,FR.of_val]
  clear hp
  have hg:=Rat.le_of_lt hg;have ha:=Rat.le_of_lt ha;have hb:=Rat.le_of_lt hb;have hc:=Rat.le_of_lt hc
  rw [rt_mul (Rat.mul_nonneg ha ha) (Rat.mul_nonneg hg hg),rt_mul (Rat.mul_nonneg hb hb) (Rat.mul_nonneg hc hc),rt_c ha,rt_c hg,rt_c hb,rt_c hc,← sgR_cmp,← sgR_cmp]
  constructor
  · congr 1;exact RR.ext fun n=>by grind
  · congr 1;exact RR.ext fun n=>by grind
def nearV (g a b c k : Rat) : Int:=surdsF (g + a - (b + c)) (-(2 * k)) (a * g) 2 (b * c)
def farV (g a b c k : Rat) : Int:=surdsF (b + c - (g + a)) (2 * k) (a * g) 2 (b * c)
theorem nearV_s1 {g a b c k : Rat} : nearV g a b c k = nearV a g b c k:=by unfold nearV;rw [Rat.add_comm g a,Rat.mul_comm a g]
theorem nearV_s2 {g a b c k : Rat} : nearV g a b c k = nearV g a c b k:=by unfold nearV;rw [Rat.add_comm b c,Rat.mul_comm b c]
theorem farV_s1 {g a b c k : Rat} : farV g a b c k = farV a g b c k:=by unfold farV;rw [Rat.add_comm g a,Rat.mul_comm a g]
theorem farV_s2 {g a b c k : Rat} : farV g a b c k = farV g a c b k:=by unfold farV;rw [Rat.add_comm b c,Rat.mul_comm b c]
section
variable {g a b c : Rat}
theorem of_4 (hg : 0 ≤ g) (ha : 0 ≤ a) (hb : 0 ≤ b) (hc : 0 ≤ c) : RR.of (g + a - (b + c)) = rt g * rt g + rt a * rt a - (rt b * rt b + rt c * rt c):=by
  rw [rt_sq hg,rt_sq ha,rt_sq hb,rt_sq hc,RR.of_sub,RR.of_add,RR.of_add]
theorem near_p1 (hg : 0 ≤ g) (hb : 0 ≤ b) (hga : g ≤ a) (hbc : b ≤ c) : nearV g a b c 1 ≥ 0 ↔ rt g + rt c ≤ rt a + rt b:=by
  have ha : 0 ≤ a:=by grind
  have hc : 0 ≤ c:=by grind
  unfold nearV
  rw [surds_sg (Rat.mul_nonneg ha hg) (Rat.mul_nonneg hb hc),rt_mul ha hg,rt_mul hb hc,of_4 hg ha hb hc]
  have e : rt g * rt g + rt a * rt a - (rt b * rt b + rt c * rt c) + RR.of (-(2 * 1)) * (rt a * rt g) + RR.of 2 * (rt b * rt c) = (rt a - rt g) * (rt a - rt g) - (rt c - rt b) * (rt c - rt b):=by
    generalize rt a = A;generalize rt g = D;generalize rt b = B;generalize rt c = C
    obtain ⟨f,hf,rfl⟩:=RR.rep A;obtain ⟨f1,hf1,rfl⟩:=RR.rep D;obtain ⟨f2,hf2,rfl⟩:=RR.rep B;obtain ⟨f3,hf3,rfl⟩:=RR.rep C
    exact RR.ext fun n=>by grind
  have e2 : (rt a - rt g) - (rt c - rt b) = (rt a + rt b) - (rt g + rt c):=by
    generalize rt a = A;generalize rt g = D;generalize rt b = B;generalize rt c = C
    obtain ⟨f,hf,rfl⟩:=RR.rep A;obtain ⟨f1,hf1,rfl⟩:=RR.rep D;obtain ⟨f2,hf2,rfl⟩:=RR.rep B;obtain ⟨f3,hf3,rfl⟩:=RR.rep C
    exact RR.ext fun n=>by grind
  rw [e,← sgR_sq (RR.le_iff_sub.1 (rt_le hg hga)) (RR.le_iff_sub.1 (rt_le hb hbc)),e2]
  exact sgR_ge
theorem far_m1 (hg : 0 ≤ g) (ha : 0 ≤ a) (hb : 0 ≤ b) (hc : 0 ≤ c) : farV g a b c (-1) ≥ 0 ↔ rt g + rt a ≤ rt b + rt c:=by
  unfold farV
  rw [surds_sg (Rat.mul_nonneg ha hg) (Rat.mul_nonneg hb hc),rt_mul ha hg,rt_mul hb hc,of_4 hb hc hg ha]
  have e : rt b * rt b + rt c * rt c - (rt g * rt g + rt a * rt a) + RR.of (2 * -1) * (rt a * rt g) + RR.of 2 * (rt b * rt c) = (rt b + rt c) * (rt b + rt c) - (rt g + rt a) * (rt g + rt a):=by
    generalize rt a = A;generalize rt g = D;generalize rt b = B;generalize rt c = C
    obtain ⟨f,hf,rfl⟩:=RR.rep A;obtain ⟨f1,hf1,rfl⟩:=RR.rep D;obtain ⟨f2,hf2,rfl⟩:=RR.rep B;obtain ⟨f3,hf3,rfl⟩:=RR.rep C
    exact RR.ext fun n=>by grind
  rw [e,← sgR_sq (RR.add_nn (rt_nn _) (rt_nn _)) (RR.add_nn (rt_nn _) (rt_nn _))]
  exact sgR_ge
theorem near_m1 (hg : 0 ≤ g) (ha : 0 ≤ a) (hb : 0 ≤ b) (hbc : b ≤ c) (h : rt c ≤ rt g + rt a + rt b) : nearV g a b c (-1) ≥ 0:=by
  have hc : 0 ≤ c:=by grind
  unfold nearV
  rw [surds_sg (Rat.mul_nonneg ha hg) (Rat.mul_nonneg hb hc),rt_mul ha hg,rt_mul hb hc,of_4 hg ha hb hc]
  have e : rt g * rt g + rt a * rt a - (rt b * rt b + rt c * rt c) + RR.of (-(2 * -1)) * (rt a * rt g) + RR.of 2 * (rt b * rt c) = (rt g + rt a) * (rt g + rt a) - (rt c - rt b) * (rt c - rt b):=by
    generalize rt a = A;generalize rt g = D;generalize rt b = B;generalize rt c = C
    obtain ⟨f,hf,rfl⟩:=RR.rep A;obtain ⟨f1,hf1,rfl⟩:=RR.rep D;obtain ⟨f2,hf2,rfl⟩:=RR.rep B;obtain ⟨f3,hf3,rfl⟩:=RR.rep C
    exact RR.ext fun n=>by grind
  have e2 : (rt g + rt a) - (rt c - rt b) = (rt g + rt a + rt b) - rt c:=by
    generalize rt a = A;generalize rt g = D;generalize rt b = B;generalize rt c = C
    obtain ⟨f,hf,rfl⟩:=RR.rep A;obtain ⟨f1,hf1,rfl⟩:=RR.rep D;obtain ⟨f2,hf2,rfl⟩:=RR.rep B;obtain ⟨f3,hf3,rfl⟩:=RR.rep C
    exact RR.ext fun n=>by grind
  rw [e,← sgR_sq (RR.add_nn (rt_nn _) (rt_nn _)) (RR.le_iff_sub.1 (rt_le hb hbc)),e2]
  exact sgR_ge.2 h
theorem far_p1 (hg : 0 ≤ g) (hga : g ≤ a) (hb : 0 ≤ b) (hc : 0 ≤ c) (h : rt a ≤ rt b + rt c + rt g) : farV g a b c 1 ≥ 0:=by
  have ha : 0 ≤ a:=by grind
  unfold farV
  rw [surds_sg (Rat.mul_nonneg ha hg) (Rat.mul_nonneg hb hc),rt_mul ha hg,rt_mul hb hc,of_4 hb hc hg ha]
  have e : rt b * rt b + rt c * rt c - (rt g * rt g + rt a * rt a) + RR.of (2 * 1) * (rt a * rt g) + RR.of 2 * (rt b * rt c) = (rt b + rt c) * (rt b + rt c) - (rt a - rt g) * (rt a - rt g):=by
    generalize rt a = A;generalize rt g = D;generalize rt b = B;generalize rt c = C
    obtain ⟨f,hf,rfl⟩:=RR.rep A;obtain ⟨f1,hf1,rfl⟩:=RR.rep D;obtain ⟨f2,hf2,rfl⟩:=RR.rep B;obtain ⟨f3,hf3,rfl⟩:=RR.rep C
    exact RR.ext fun n=>by grind
  have e2 : (rt b + rt c) - (rt a - rt g) = (rt b + rt c + rt g) - rt a:=by
    generalize rt a = A;generalize rt g = D;generalize rt b = B;generalize rt c = C
    obtain ⟨f,hf,rfl⟩:=RR.rep A;obtain ⟨f1,hf1,rfl⟩:=RR.rep D;obtain ⟨f2,hf2,rfl⟩:=RR.rep B;obtain ⟨f3,hf3,rfl⟩:=RR.rep C
    exact RR.ext fun n=>by grind
  rw [e,← sgR_sq (RR.add_nn (rt_nn _) (rt_nn _)) (RR.le_iff_sub.1 (rt_le hg hga)),e2]
  exact sgR_ge.2 h
theorem full_rot (hg : 0 ≤ g) (ha : 0 ≤ a) (hb : 0 ≤ b) (hc : 0 ≤ c) : (nearV g a b c 1 ≥ 0 ∧ farV g a b c (-1) ≥ 0) ↔ rotQ a g b c:=by
  have key : ∀ {g a b c : Rat},0 ≤ g → 0 ≤ b → g ≤ a → b ≤ c → ((nearV g a b c 1 ≥ 0 ∧ farV g a b c (-1) ≥ 0) ↔ rotQ g a b c):=fun {g a b c} hg hb hga hbc=>by
    rw [near_p1 hg hb hga hbc,far_m1 hg (by grind) hb (by grind),rotQ_iff hg (by grind) hb (by grind) hga hbc]
    exact And.comm
  rw [rotQ_swap1 ha hg hb hc]
  rcases Rat.le_total (a:=g) (b:=a) with h | h <;> rcases Rat.le_total (a:=b) (b:=c) with k | k
  · exact key hg hb h k
  · rw [nearV_s2,farV_s2,key hg hc h k];exact rotQ_swap2 hg ha hc hb
  · rw [nearV_s1,farV_s1,key ha hb h k];exact rotQ_swap1 ha hg hb hc
  · rw [nearV_s1,nearV_s2,farV_s1,farV_s2,key ha hc h k,rotQ_swap1 ha hg hc hb];exact rotQ_swap2 hg ha hc hb
end
theorem sum4 {R : Nat → RR} {i j k m : Nat} (hp : [i,j,k,m].Perm [0,1,2,3]) : R i + R j + R k + R m = R 0 + R 1 + R 2 + R 3:=by
  have hm:=perm4 hp
  simp only [perms4,List.mem_cons,List.not_mem_nil,or_false,List.cons.injEq,and_true] at hm
  haveI : Std.Commutative (α:=RR) (· + ·):=⟨RR.add_comm⟩
  haveI : Std.Associative (α:=RR) (· + ·):=⟨RR.add_assoc⟩
  clear hp
  rcases hm with ⟨rfl,rfl,rfl,rfl⟩ | ⟨rfl,rfl,rfl,rfl⟩ | ⟨rfl,rfl,rfl,rfl⟩ | ⟨rfl,rfl,rfl,rfl⟩ | ⟨rfl,rfl,rfl,rfl⟩ | ⟨rfl,rfl,rfl,rfl⟩ | ⟨rfl,rfl,rfl,rfl⟩ | ⟨rfl,rfl,rfl,rfl⟩ | ⟨rfl,rfl,rfl,rfl⟩ | ⟨rfl,rfl,rfl,rfl⟩ | ⟨rfl,rfl,rfl,rfl⟩ | ⟨rfl,rfl,rfl,rfl⟩ | ⟨rfl,rfl,rfl,rfl⟩ | ⟨rfl,rfl,rfl,rfl⟩ | ⟨rfl,rfl,rfl,rfl⟩ | ⟨rfl,rfl,rfl,rfl⟩ | ⟨rfl,rfl,rfl,rfl⟩ | ⟨rfl,rfl,rfl,rfl⟩ | ⟨rfl,rfl,rfl,rfl⟩ | ⟨rfl,rfl,rfl,rfl⟩ | ⟨rfl,rfl,rfl,rfl⟩ | ⟨rfl,rfl,rfl,rfl⟩ | ⟨rfl,rfl,rfl,rfl⟩ | ⟨rfl,rfl,rfl,rfl⟩
  all_goals ac_rfl
theorem chk_cl {l : List FR} (h : chkF l = 0) : closesF (lk l 3) (lk l 0) (lk l 1) (lk l 2) = true:=by
  cases hc : closesF (lk l 3) (lk l 0) (lk l 1) (lk l 2) with
  | true=>rfl
  | false=>rw [chk16 (chk_pos h) hc] at h;cases h
theorem each_le {l : List FR} (h : chkF l = 0) {t : Nat} (ht : t < 4) : rt ((l.map FR.val).getD t default) + rt ((l.map FR.val).getD t default) ≤ rt ((l.map FR.val).getD 0 default) + rt ((l.map FR.val).getD 1 default) + rt ((l.map FR.val).getD 2 default) + rt ((l.map FR.val).getD 3 default):=by
  have hn : ∀ q,0 ≤ (l.map FR.val).getD q default:=fun q=>by rw [vget];exact vals_pos (chk_pos h) q
  obtain ⟨i,j,k,m,e,hp,b1,b2,b3⟩:=order_ok (l.map FR.val)
  have hc:=chk_cl h
  simp only [lk_get,e] at hc
  have h1:=bef_le b1;have h2:=bef_le b2;have h3:=bef_le b3
  have hc:=(closes_iff (hn m) (hn i) (hn j) (hn k) h3).1 hc
  have hm : t ∈ [i,j,k,m]:=hp.mem_iff.2 (by simp;omega)
  have hle : (l.map FR.val).getD t default ≤ (l.map FR.val).getD m default:=by
    simp only [List.mem_cons,List.not_mem_nil,or_false] at hm
    rcases hm with rfl | rfl | rfl | rfl <;> grind
  have hr:=rt_le (hn t) hle
  refine RR.le_trans (RR.add_le_add hr hr) ?_
  refine RR.le_trans (RR.add_le_add_right hc _) ?_
  rw [sum4 (R:=fun x=>rt ((l.map FR.val).getD x default)) hp]
  exact RR.le_refl _
theorem half4 {p q r x s : RR} (h : x + x ≤ s) (e : s = p + q + r + x) : x ≤ p + q + r:=by
  rw [RR.le_iff_sub] at h ⊢
  have : p + q + r - x = s - (x + x):=by
    subst e
    obtain ⟨f,hf,rfl⟩:=RR.rep p;obtain ⟨f1,hf1,rfl⟩:=RR.rep q;obtain ⟨f2,hf2,rfl⟩:=RR.rep r;obtain ⟨f3,hf3,rfl⟩:=RR.rep x
    exact RR.ext fun n=>by grind
  rwa [this]
theorem near_far_ok {g a b c : FR} (h : chkF [g,a,b,c] = 0) : nearF g a b c (-1) ≥ 0 ∧ farF g a b c 1 ≥ 0:=by
  have hp:=chk_pos h
  simp only [List.all_cons,List.all_nil,Bool.and_true,Bool.and_eq_true] at hp
  have p0:=Rat.le_of_lt (posR_val hp.1);have p1:=Rat.le_of_lt (posR_val hp.2.1);have p2:=Rat.le_of_lt (posR_val hp.2.2.1);have p3:=Rat.le_of_lt (posR_val hp.2.2.2)
  have e0 : rt g.val + rt g.val ≤ rt g.val + rt a.val + rt b.val + rt c.val:=each_le h (t:=0) (by decide)
  have e1 : rt a.val + rt a.val ≤ rt g.val + rt a.val + rt b.val + rt c.val:=each_le h (t:=1) (by decide)
  have e2 : rt b.val + rt b.val ≤ rt g.val + rt a.val + rt b.val + rt c.val:=each_le h (t:=2) (by decide)
  have e3 : rt c.val + rt c.val ≤ rt g.val + rt a.val + rt b.val + rt c.val:=each_le h (t:=3) (by decide)
  haveI : Std.Commutative (α:=RR) (· + ·):=⟨RR.add_comm⟩
  haveI : Std.Associative (α:=RR) (· + ·):=⟨RR.add_assoc⟩
  constructor
  · show nearV g.val a.val b.val c.val (-1) ≥ 0
    rcases Rat.le_total (a:=b.val) (b:=c.val) with k | k
    · exact near_m1 p0 p1 p2 k (half4 e3 (by ac_rfl))
    · rw [nearV_s2];exact near_m1 p0 p1 p3 k (half4 e2 (by ac_rfl))
  · show farV g.val a.val b.val c.val 1 ≥ 0
    rcases Rat.le_total (a:=g.val) (b:=a.val) with k | k
    · exact far_p1 p0 k p2 p3 (half4 e1 (by ac_rfl))
    · rw [farV_s1];exact far_p1 p1 k p2 p3 (half4 e0 (by ac_rfl))
theorem full_rotL {g a b c : FR} (h : chkF [g,a,b,c] = 0) : fullF g a b c = rotL [g,a,b,c] 1:=by
  have hp:=chk_pos h
  simp only [List.all_cons,List.all_nil,Bool.and_true,Bool.and_eq_true] at hp
  have p0:=Rat.le_of_lt (posR_val hp.1);have p1:=Rat.le_of_lt (posR_val hp.2.1);have p2:=Rat.le_of_lt (posR_val hp.2.2.1);have p3:=Rat.le_of_lt (posR_val hp.2.2.2)
  rw [full_ok (by omega),Bool.eq_iff_iff,rotL_iff,Bool.and_eq_true,decide_eq_true_eq,decide_eq_true_eq]
  exact full_rot p0 p1 p2 p3
theorem full_cls {g a b c : FR} (h : chkF [g,a,b,c] = 0) : ((clsF [g,a,b,c] = 0 ∨ clsF [g,a,b,c] = 1) → fullF g a b c = true) ∧ (¬ (clsF [g,a,b,c] = 0 ∨ clsF [g,a,b,c] = 1) → fullF g a b c = false ∨ clsF [g,a,b,c] = 5):=by
  have ht:=turns (chk_pos h) (t:=1) (by decide)
  rw [full_rotL h]
  rcases exc_bd h with e | e | e
  · rw [cls_dn h (by omega),ht.2 (by omega)]
    have hl:=hd4_lt [g,a,b,c]
    show ((((lnk (hd4 [g,a,b,c]) : Nat) : Int) = 0 ∨ ((lnk (hd4 [g,a,b,c]) : Nat) : Int) = 1) → (1 = hd4 [g,a,b,c] ∨ 0 = hd4 [g,a,b,c])) ∧ _
    have hf : ∀ n,n < 4 → ((((lnk n : Nat) : Int) = 0 ∨ ((lnk n : Nat) : Int) = 1) ↔ (1 = n ∨ 0 = n)):=fun n hn=>by
      match n,hn with
      | 0,_=>decide
      | 1,_=>decide
      | 2,_=>decide
      | 3,_=>decide
    refine ⟨fun e=>(hf _ hl).1 e,fun e=>.inl ?_⟩
    cases hr : rotL [g,a,b,c] 1 with
    | false=>rfl
    | true=>exact absurd ((hf _ hl).2 ((ht.2 (by omega)).1 hr)) e
  · rw [cls_up h (by omega),if_neg (by omega)]
    exact ⟨fun e=>by omega,fun _=>.inr rfl⟩
  · rw [cls_up h (by omega),if_pos (by omega)]
    exact ⟨fun e=>by omega,fun _=>.inl (ht.1 (by omega))⟩
theorem surds_neg {x y d z e : Rat} (hd : 0 ≤ d) (he : 0 ≤ e) : surdsF (-x) (-y) d (-z) e = -surdsF x y d z e:=by
  rw [surds_sg hd he,surds_sg hd he,← sgR_negate]
  congr 1
  generalize rt d = A;generalize rt e = B
  obtain ⟨f,hf,rfl⟩:=RR.rep A;obtain ⟨f1,hf1,rfl⟩:=RR.rep B
  exact RR.ext fun n=>by grind
theorem rt_pos {x : Rat} (h : 0 < x) : 0 < rt x:=by
  refine RR.lt_of_ne (rt_nn x) fun e=>?_
  have h2:=rt_sq (Rat.le_of_lt h)
  rw [← e,RR.mul_zero] at h2
  have:=RR.of_inj (p:=0) |>.1 h2
  grind
theorem lim_cmp {k A P S u : Rat} (hP : 0 < P) (hS : 0 ≤ S) : surdsF k (-A) P (-u) (P * S) = sgR (RR.of (-(2 * A * P)) + RR.of (2 * k) * rt P + RR.of (-(2 * u * P)) * rt S):=by
  have h0:=Rat.le_of_lt hP
  have h2 : 0 < RR.of 2 * rt P:=RR.mul_pos (RR.of_lt (p:=0) |>.2 (by decide)) (rt_pos hP)
  rw [surds_sg h0 (Rat.mul_nonneg h0 hS),rt_mul h0 hS,show sgR (RR.of k + RR.of (-A) * rt P + RR.of (-u) * (rt P * rt S)) = sgR (RR.of 2 * rt P * (RR.of k + RR.of (-A) * rt P + RR.of (-u) * (rt P * rt S))) by rw [sgR_mul (RR.of 2 * rt P),sgR_pos h2,Int.one_mul]]
  congr 1
  have e1 : RR.of (-(2 * A * P)) = RR.of (-(2 * A)) * (rt P * rt P):=by rw [rt_sq h0,← RR.of_mul];congr 1;grind
  have e2 : RR.of (-(2 * u * P)) = RR.of (-(2 * u)) * (rt P * rt P):=by rw [rt_sq h0,← RR.of_mul];congr 1;grind
  rw [e1,e2]
  generalize rt P = X;generalize rt S = Y
  obtain ⟨f,hf,rfl⟩:=RR.rep X;obtain ⟨f1,hf1,rfl⟩:=RR.rep Y
  exact RR.ext fun n=>by grind
theorem lim_lo {g a b c : FR} (h : [g,a,b,c].all posR = true) (k : Rat) : surdsF k (-limA g a b c) (a.val * g.val) (- -(1 / (a.val * g.val))) (a.val * g.val * (b.val * c.val)) = farF g a b c k:=by
  have hn:=pos_nn h
  have hag:=ag_ne h
  have hP : 0 < a.val * g.val:=by grind
  rw [lim_cmp hP hn.2,far_R h]
  unfold nearR
  congr 1
  rw [show -(2 * limA g a b c * (a.val * g.val)) = -(g.val + a.val - (b.val + c.val)) by unfold limA;grind,show -(2 * -(1 / (a.val * g.val)) * (a.val * g.val)) = 2 by grind,show -(2 * -k) = 2 * k by grind]
theorem lim_hi {g a b c : FR} (h : [g,a,b,c].all posR = true) (k : Rat) : surdsF k (-limA g a b c) (a.val * g.val) (-(1 / (a.val * g.val))) (a.val * g.val * (b.val * c.val)) = -nearF g a b c k:=by
  have hn:=pos_nn h
  have hag:=ag_ne h
  have hP : 0 < a.val * g.val:=by grind
  rw [lim_cmp hP hn.2,near_R h,← sgR_negate]
  unfold nearR
  congr 1
  rw [show -(2 * limA g a b c * (a.val * g.val)) = -(g.val + a.val - (b.val + c.val)) by unfold limA;grind,show -(2 * (1 / (a.val * g.val)) * (a.val * g.val)) = -2 by grind]
  generalize rt (a.val * g.val) = X;generalize rt (b.val * c.val) = Y
  obtain ⟨f,hf,rfl⟩:=RR.rep X;obtain ⟨f1,hf1,rfl⟩:=RR.rep Y
  exact RR.ext fun n=>by grind
theorem lim_s {g a b c : FR} (h : [g,a,b,c].all posR = true) (k u : Rat) : surdsF (-k) (limA g a b c) (a.val * g.val) u (a.val * g.val * (b.val * c.val)) = -surdsF k (-limA g a b c) (a.val * g.val) (-u) (a.val * g.val * (b.val * c.val)):=by
  have hn:=pos_nn h
  rw [← surds_neg hn.1 (Rat.mul_nonneg hn.1 hn.2),Rat.neg_neg,Rat.neg_neg]
theorem limI_lo {g a b c : FR} (h : [g,a,b,c].all posR = true) : limI g a b c (-(1 / (a.val * g.val))) = (decide (farF g a b c (-1) ≤ 0) && decide (farF g a b c 1 ≥ 0)):=by
  unfold limI
  rw [lim_s h 1,show (1 : Rat) = -(-1) by decide,lim_s h (-1),Rat.neg_neg,lim_lo h,lim_lo h,Bool.and_comm]
  congr 1 <;> exact decide_eq_decide.2 (by omega)
theorem limI_hi {g a b c : FR} (h : [g,a,b,c].all posR = true) : limI g a b c (1 / (a.val * g.val)) = (decide (nearF g a b c (-1) ≥ 0) && decide (nearF g a b c 1 ≤ 0)):=by
  unfold limI
  rw [lim_s h 1,show (1 : Rat) = -(-1) by decide,lim_s h (-1),Rat.neg_neg,lim_hi h,lim_hi h,Bool.and_comm]
  congr 1 <;> exact decide_eq_decide.2 (by omega)
def limR (g a b c : FR) : List (List Rat):=(if (decide (farF g a b c (-1) ≤ 0) && decide (farF g a b c 1 ≥ 0)) = true then [[0,limA g a b c,0,-1 / (a.val * g.val)]] else []) ++ (if (decide (nearF g a b c (-1) ≥ 0) && decide (nearF g a b c 1 ≤ 0)) = true then [[0,limA g a b c,0,1 / (a.val * g.val)]] else [])
theorem limR_eq {g a b c : FR} (h : [g,a,b,c].all posR = true) : limR g a b c = limJ g a b c 2:=by
  unfold limR limJ
  rw [← limI_lo h,← limI_hi h,show (limK g a).take 2 = [-(1 / (a.val * g.val)),1 / (a.val * g.val)] from rfl,show (-1 : Rat) / (a.val * g.val) = -(1 / (a.val * g.val)) by grind]
  clear h
  cases h1 : limI g a b c (-(1 / (a.val * g.val))) <;> cases h2 : limI g a b c (1 / (a.val * g.val)) <;> simp [List.filter_cons,h1,h2,limN]
end Go.Proofs.Ytdbdnabpaadigaa
set_option linter.unusedVariables false
set_option linter.unusedSimpArgs false
namespace Go.Proofs.Ytdbdnabpaadigaa
open Go.RowKit (Below)
class Drp (L : List (Nat × MT)) (ws : List Nat) (L' : outParam (List (Nat × MT))) : Prop where
  h : ∀ p ∈ L',p ∈ L
instance Drp.nil {ws : List Nat} : Drp [] ws []:=⟨fun _ h=>h⟩
instance Drp.hd {L L' : List (Nat × MT)} {ws : List Nat} {t : Nat} {τ : MT} [In ws t] [h : Drp L ws L'] : Drp ((t,τ) :: L) ws L':=⟨fun p hp=>.tail _ (h.h p hp)⟩
instance (priority:=500) Drp.tl {L L' : List (Nat × MT)} {ws : List Nat} {x : Nat × MT} [h : Drp L ws L'] : Drp (x :: L) ws (x :: L'):=⟨fun p hp=>by
  rcases List.mem_cons.1 hp with e | e
  · subst e;exact .head _
  · exact .tail _ (h.h p e)⟩
class GcT (f id : Nat) (k : Bool) (t : outParam Nat) (ws : outParam (List Nat)) : Prop
section
variable {P : Program} {B : List BX} {L L' : List (Nat × MT)} {W0 : World} {G0 : Gh} {N : Nat} {a : Act} {w : World} {G : Gh} {Q : Exit → Act → World → Prop} {c c1 : Code} {τ0 : MT} {bd : Bool} {l : Array Oper}
theorem W.gc (id t : Nat) (ws : List Nat) [Lk L t τ0] [d : Drp L (t :: ws) L'] (h : St W0 G0 N L' B a w G → (Code.seq (.region id l bd) c).wp P Q a w) : St W0 G0 N L B a w G → (Code.seq (.region id l bd) c).wp P Q a w:=fun S=>h (S.only d.h)
theorem W.gcb (id t : Nat) (ws : List Nat) [Lk L t τ0] [d : Drp L (t :: ws) L'] (h : St W0 G0 N L' B a w G → (Code.seq (.block id c1) c).wp P Q a w) : St W0 G0 N L B a w G → (Code.seq (.block id c1) c).wp P Q a w:=fun S=>h (S.only d.h)
theorem W.gcc (f : Nat) {id t : Nat} {ws : List Nat} [g : GcT f id false t ws] [Lk L t τ0] [d : Drp L (t :: ws) L'] (h : St W0 G0 N L' B a w G → (Code.seq (.region id l bd) c).wp P Q a w) : St W0 G0 N L B a w G → (Code.seq (.region id l bd) c).wp P Q a w:=fun S=>h (S.only d.h)
theorem W.gcd (f : Nat) {id t : Nat} {ws : List Nat} [g : GcT f id true t ws] [Lk L t τ0] [d : Drp L (t :: ws) L'] (h : St W0 G0 N L' B a w G → (Code.seq (.block id c1) c).wp P Q a w) : St W0 G0 N L B a w G → (Code.seq (.block id c1) c).wp P Q a w:=fun S=>h (S.only d.h)
end
end Go.Proofs.Ytdbdnabpaadigaa
