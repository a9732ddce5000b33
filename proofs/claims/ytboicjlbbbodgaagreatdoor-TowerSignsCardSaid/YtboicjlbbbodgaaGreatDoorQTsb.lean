import Derived.Great.BuildSlice
import Derived.Test.YtboicjlbbbodgaaGreatDoorProg
import Derived.Test.YtboicjlbbbodgaaGreatDoorQTsa
set_option linter.unusedVariables false
set_option linter.unusedSimpArgs false
namespace Go.Proofs.YtboicjlbbbodgaaGreatDoor
open Go.RowKit (Below)
def flat (us : List Value) : List Value:=us.flatMap fun u=>u.cells.toList
theorem flat_cons {u : Value} {us : List Value} : flat (u :: us) = u.cells.toList ++ flat us:=rfl
theorem flat_app {us vs : List Value} : flat (us ++ vs) = flat us ++ flat vs:=by simp [flat]
theorem flat_len {us : List Value} {s : Nat} (h : ∀ u ∈ us,u.cells.size = s) : (flat us).length = us.length * s:=by
  induction us with
  | nil=>simp [flat]
  | cons u us ih =>
    rw [flat_cons,List.length_append,ih fun v hv=>h v (by simp [hv]),Array.length_toList,h u (by simp),List.length_cons,Nat.succ_mul];omega
theorem flat_get {us : List Value} {s i j : Nat} {u : Value} (h : ∀ u ∈ us,u.cells.size = s) (hi : us[i]? = some u) (hj : j < s) : (flat us)[i * s + j]? = u.cells[j]?:=by
  induction us generalizing i with
  | nil=>simp at hi
  | cons v us ih =>
    have hv:=h v (by simp)
    rw [flat_cons]
    cases i with
    | zero =>
      have e : v = u:=by simpa using hi
      subst e
      rw [Nat.zero_mul,Nat.zero_add,List.getElem?_append_left (by rw [Array.length_toList];omega)];simp
    | succ i =>
      rw [List.getElem?_append_right (by rw [Array.length_toList,hv,Nat.succ_mul];omega),Array.length_toList,hv,show (i + 1) * s + j - s = i * s + j from by rw [Nat.succ_mul];omega]
      exact ih (fun w hw=>h w (by simp [hw])) (by simpa using hi)
theorem flat_inv {us : List Value} {s m : Nat} {c : Value} (h : ∀ u ∈ us,u.cells.size = s) (hm : (flat us)[m]? = some c) : ∃ i j u,us[i]? = some u ∧ m = i * s + j ∧ j < s ∧ u.cells[j]? = some c:=by
  have hlt:=(List.getElem?_eq_some_iff.1 hm).1
  rw [flat_len h] at hlt
  have hs : 0 < s := by rcases Nat.eq_zero_or_pos s with e | e
                        · subst e;simp at hlt
                        · exact e
  have hi : m / s < us.length:=(Nat.div_lt_iff_lt_mul hs).2 hlt
  refine ⟨m / s,m % s,us[m / s],by simp [hi],(Nat.div_add_mod' m s).symm,Nat.mod_lt _ hs,?_⟩
  rw [← flat_get h (i:=m / s) (u:=us[m / s]) (by simp [hi]) (Nat.mod_lt _ hs),Nat.div_add_mod' m s,hm]
theorem flat_set {us : List Value} {s i : Nat} {u : Value} (h : ∀ u ∈ us,u.cells.size = s) (hi : i < us.length) (hu : u.cells.size = s) : flat (us.set i u) = (flat us).take (i * s) ++ u.cells.toList ++ (flat us).drop (i * s + s):=by
  induction us generalizing i with
  | nil=>simp at hi
  | cons v us ih =>
    have hv:=h v (by simp)
    cases i with
    | zero => simp only [List.set_cons_zero, flat_cons, Nat.zero_mul, List.take_zero, List.nil_append, Nat.zero_add]
              rw [List.drop_append_of_le_length (by rw [Array.length_toList];omega),List.drop_of_length_le (by rw [Array.length_toList];omega),List.nil_append]
    | succ i =>
      simp only [List.set_cons_succ,flat_cons]
      rw [ih (fun w hw=>h w (by simp [hw])) (by simpa using hi)]
      have e1 : (i + 1) * s = v.cells.toList.length + i * s:=by rw [Array.length_toList,hv,Nat.succ_mul];omega
      rw [e1,Nat.add_assoc,List.take_length_add_append,List.drop_length_add_append]
      simp [List.append_assoc]
def Els (k : Option Nat) (τs : List MT) (us : List Value) (G : Gh) : Prop:=us.length = τs.length ∧ ∀ (i : Nat) (τ : MT) (u : Value),τs[i]? = some τ → us[i]? = some u → Shaped k u ∧ τ.t u G
theorem Els.mono {k : Option Nat} {τs : List MT} {us : List Value} {G G' : Gh} (hle : Gle G G') (h : Els k τs us G) : Els k τs us G':=⟨h.1,fun i τ u h1 h2=>⟨(h.2 i τ u h1 h2).1,τ.mono hle (h.2 i τ u h1 h2).2⟩⟩
theorem Els.nil {k : Option Nat} {G : Gh} : Els k [] [] G:=⟨rfl,fun i τ u h=>by simp at h⟩
theorem Els.shaped {k : Option Nat} {τs : List MT} {us : List Value} {G : Gh} (h : Els k τs us G) : ∀ u ∈ us,Shaped k u:=fun u hu=>by
  obtain ⟨i,hi,e⟩:=List.getElem_of_mem hu
  have hi' : i < τs.length:=by rw [← h.1];exact hi
  exact (h.2 i τs[i] u (by simp [hi']) (by simp [hi,e])).1
theorem Els.sizes {k : Option Nat} {τs : List MT} {us : List Value} {G : Gh} (h : Els k τs us G) : ∀ u ∈ us,u.cells.size = k.getD 1:=fun u hu=>shaped_size (h.shaped u hu)
theorem Els.app {k : Option Nat} {τs σs : List MT} {us vs : List Value} {G : Gh} (h : Els k τs us G) (h' : Els k σs vs G) : Els k (τs ++ σs) (us ++ vs) G:=by
  refine ⟨by simp [h.1,h'.1],fun i τ u h1 h2=>?_⟩
  rw [List.getElem?_append] at h1 h2
  rw [h.1] at h2
  split at h1
  · rename_i hlt;rw [if_pos hlt] at h2;exact h.2 i τ u h1 h2
  · rename_i hlt;rw [if_neg hlt] at h2;exact h'.2 _ τ u h1 h2
theorem Els.one {k : Option Nat} {τ : MT} {u : Value} {G : Gh} (hs : Shaped k u) (h : τ.t u G) : Els k [τ] [u] G:=⟨rfl,fun i t v h1 h2=>by
  match i,h1,h2 with
  | 0,h1,h2=>cases h1;cases h2;exact ⟨hs,h⟩⟩
theorem Els.cons {k : Option Nat} {τ : MT} {τs : List MT} {u : Value} {us : List Value} {G : Gh} (hs : Shaped k u) (h : τ.t u G) (hr : Els k τs us G) : Els k (τ :: τs) (u :: us) G:=(Els.one hs h).app hr
theorem Els.set {k : Option Nat} {τs : List MT} {us : List Value} {G : Gh} {τ : MT} {u : Value} {i : Nat} (h : Els k τs us G) (hs : Shaped k u) (hu : τ.t u G) : Els k (τs.set i τ) (us.set i u) G:=by
  refine ⟨by simp [h.1],fun j t v h1 h2=>?_⟩
  rw [List.getElem?_set] at h1 h2
  split at h1
  · rename_i e;rw [if_pos e] at h2
    split at h1
    · split at h2
      · cases h1;cases h2;exact ⟨hs,hu⟩
      · cases h2
    · cases h1
  · rename_i e;rw [if_neg e] at h2;exact h.2 j t v h1 h2
theorem Els.take {k : Option Nat} {τs : List MT} {us : List Value} {G : Gh} (n : Nat) (h : Els k τs us G) : Els k (τs.take n) (us.take n) G:=by
  refine ⟨by simp [h.1],fun j t v h1 h2=>?_⟩
  rw [List.getElem?_take] at h1 h2
  split at h1
  · rename_i e;rw [if_pos e] at h2;exact h.2 j t v h1 h2
  · cases h1
theorem Els.drop {k : Option Nat} {τs : List MT} {us : List Value} {G : Gh} (n : Nat) (h : Els k τs us G) : Els k (τs.drop n) (us.drop n) G:=by
  refine ⟨by simp [h.1],fun j t v h1 h2=>?_⟩
  rw [List.getElem?_drop] at h1 h2
  exact h.2 _ t v h1 h2
theorem Els.replicate {k : Option Nat} {τ : MT} {u : Value} {G : Gh} (n : Nat) (hs : Shaped k u) (h : τ.t u G) : Els k (List.replicate n τ) (List.replicate n u) G:=⟨by simp,fun i t v h1 h2=>by
  rw [List.getElem?_replicate] at h1 h2
  split at h1
  · rename_i e;rw [if_pos e] at h2;cases h1;cases h2;exact ⟨hs,h⟩
  · cases h1⟩
theorem flat_one {us : List Value} {k : Option Nat} (h : ∀ u ∈ us,Shaped k u) : ∀ c ∈ flat us,c.oneCell' = true:=fun c hc=>by
  obtain ⟨u,hu,hcu⟩:=List.mem_flatMap.1 hc
  exact shaped_cells (h u hu) c hcu
def Lies (G : Gh) (A : Option Addr) (s : Nat) (us : List Value) : Prop:=∀ (i : Nat) (u : Value),us[i]? = some u → ∃ b off,A = some ⟨b,off,none⟩ ∧ ∀ j x,u.cells[j]? = some x → Gc G b (off + i * s + j) = some x
theorem LS.vals {k : Option Nat} {τs : List MT} {v : Value} {G : Gh} (h : (LS k τs).t v G) : ∃ A c us,v = .slice A τs.length c ∧ τs.length ≤ c ∧ τs.length ≤ LIM ∧ Els k τs us G ∧ Lies G A (k.getD 1) us:=by
  obtain ⟨A,c,h1,h2,h3,h4⟩:=h
  have h5 : ∀ i : Nat,∃ u : Value,i < τs.length → (∀ τ,τs[i]? = some τ → Shaped k u ∧ τ.t u G) ∧ ∃ b off,A = some ⟨b,off,none⟩ ∧ ∀ j x,u.cells[j]? = some x → Gc G b (off + i * k.getD 1 + j) = some x:=fun i=>by
    by_cases hi : i < τs.length
    · obtain ⟨b,off,e,hE⟩:=h4 i τs[i] (by simp [hi])
      cases k with
      | none =>
        obtain ⟨u,hu1,hu2,hu3⟩:=hE
        refine ⟨u,fun _=>⟨fun τ hτ=>by rw [List.getElem?_eq_getElem hi] at hτ;cases hτ;exact ⟨hu3,hu2⟩,b,off,e,fun j x hx=>?_⟩⟩
        rw [hu3.1] at hx
        match j,hx with
        | 0,hx=>cases hx;simpa using hu1
        | j + 1,hx=>simp at hx
      | some n =>
        obtain ⟨cs,hc1,hc2,hc3,hc4⟩:=hE
        exact ⟨.agg cs,fun _=>⟨fun τ hτ=>by rw [List.getElem?_eq_getElem hi] at hτ;cases hτ;exact ⟨⟨cs,rfl,hc1,hc4⟩,hc3⟩,b,off,e,fun j x hx=>hc2 j x hx⟩⟩
    · exact ⟨undef,fun h=>absurd h hi⟩
  obtain ⟨f,hf⟩ : ∃ f : Nat → Value,∀ i,i < τs.length → (∀ τ,τs[i]? = some τ → Shaped k (f i) ∧ τ.t (f i) G) ∧ ∃ b off,A = some ⟨b,off,none⟩ ∧ ∀ j x,(f i).cells[j]? = some x → Gc G b (off + i * k.getD 1 + j) = some x:=⟨fun i=>(h5 i).choose,fun i=>(h5 i).choose_spec⟩
  refine ⟨A,c,(List.range τs.length).map f,h1,h2,h3,⟨by simp,fun i τ u hi hu=>?_⟩,fun i u hu=>?_⟩
  · have hlt:=(List.getElem?_eq_some_iff.1 hi).1
    simp [List.getElem?_range hlt] at hu
    subst hu;exact (hf i hlt).1 τ hi
  · have hlt : i < τs.length:=by have:=(List.getElem?_eq_some_iff.1 hu).1;simpa using this
    simp [List.getElem?_range hlt] at hu
    subst hu;exact (hf i hlt).2
theorem LS.of_vals {k : Option Nat} {τs : List MT} {v : Value} {G : Gh} {A : Option Addr} {c : Nat} {us : List Value} (h1 : v = .slice A τs.length c) (h2 : τs.length ≤ c) (h3 : τs.length ≤ LIM) (h4 : Els k τs us G) (h5 : Lies G A (k.getD 1) us) : (LS k τs).t v G:=by
  refine ⟨A,c,h1,h2,h3,fun i τ hi=>?_⟩
  have hlt:=(List.getElem?_eq_some_iff.1 hi).1
  have hlu : i < us.length:=by rw [h4.1];exact hlt
  obtain ⟨hs,ht⟩:=h4.2 i τ us[i] hi (by simp [hlu])
  obtain ⟨b,off,e,hc⟩:=h5 i us[i] (by simp [hlu])
  refine ⟨b,off,e,?_⟩
  cases k with
  | none =>
    refine ⟨us[i],?_,ht,hs⟩
    have:=hc 0 us[i] (by rw [hs.1];rfl)
    simpa using this
  | some n =>
    obtain ⟨cs,e1,e2,e3⟩:=hs
    rw [e1] at hc ht
    exact ⟨cs,e2,fun j x hx=>hc j x hx,ht,e3⟩
theorem Lies.all {G : Gh} {b off s : Nat} {us : List Value} (h : Lies G (some ⟨b,off,none⟩) s us) (hs : ∀ u ∈ us,u.cells.size = s) : ∀ m x,(flat us)[m]? = some x → Gc G b (off + m) = some x:=fun m x hm=>by
  obtain ⟨i,j,u,h1,h2,_,h4⟩:=flat_inv hs hm
  obtain ⟨b',off',e,hc⟩:=h i u h1
  cases e
  rw [h2,← Nat.add_assoc];exact hc j x h4
theorem Lies.block {G : Gh} {b s : Nat} {us : List Value} {rest : List Value} {ty : TypeId} {fr : Nat × Nat} (hs : ∀ u ∈ us,u.cells.size = s) (hG : G b = some (.cells (flat us ++ rest).toArray ty fr)) : Lies G (some ⟨b,0,none⟩) s us:=fun i u hu=>by
  refine ⟨b,0,rfl,fun j x hx=>?_⟩
  have hsu:=hs u (List.mem_of_getElem? hu)
  have hj : j < s:=by have:=(Array.getElem?_eq_some_iff.1 hx).1;omega
  have:=flat_get hs hu hj
  rw [hx] at this
  have hlt:=(List.getElem?_eq_some_iff.1 this).1
  unfold Gc;rw [hG,Nat.zero_add]
  simp only [List.getElem?_toArray]
  rw [List.getElem?_append_left hlt,this]
def ROWS (k : Option Nat) (τs : List MT) : MT:=⟨fun v G=>∃ us rest,v = .agg (flat us ++ rest).toArray ∧ Els k τs us G,fun hle ⟨us,rest,h1,h2⟩=>⟨us,rest,h1,h2.mono hle⟩⟩
def OWNS (k : Option Nat) (e : TypeId) (v : Value) (own : List BX) (τs : List MT) : Prop :=
  (v = .slice none 0 0 ∧ own = [] ∧ τs = []) ∨ ∃ b c,v = .slice (some ⟨b,0,none⟩) τs.length c ∧ own = [⟨b,e,some (c * k.getD 1),ROWS k τs⟩] ∧ τs.length ≤ c
theorem OWNS.nil {k : Option Nat} {e : TypeId} : OWNS k e (.slice none 0 0) [] []:=.inl ⟨rfl,rfl,rfl⟩
section
variable {P : Program} {W0 : World} {G0 : Gh} {N : Nat} {L : List (Nat × MT)} {B Bh own : List BX} {a : Act} {w : World} {G : Gh} {fn : Func} {o : Oper} {τ : MT}
variable {ops : Array Oper} {rest : List Oper} {Q : Exit → Act → World → Prop} {k : Option Nat} {e : TypeId} {v : Value} {τs σs : List MT}
theorem Shp.rows {c : Nat} {us : List Value} {r : List Value} (h1 : Els k τs us G) (h2 : ∀ x ∈ r,x.oneCell' = true) (h3 : (flat us ++ r).length = c) : Shaped (some c) (.agg (flat us ++ r).toArray) :=
  ⟨_,rfl,by simpa using h3,fun x hx=>by
    have hx : x ∈ flat us ++ r:=by simpa using hx
    rcases List.mem_append.1 hx with h | h
    · exact flat_one h1.shaped x h
    · exact h2 x h⟩
theorem St.freezeS (S : St W0 G0 N L (Bh ++ own) a w G) (hr : OWNS k e v own τs) (hlim : τs.length ≤ LIM) : ∃ G',(LS k τs).t v G' ∧ Gle G G' ∧ St W0 G0 N L Bh a w G':=by
  rcases hr with ⟨rfl,rfl,rfl⟩ | ⟨b,cp,rfl,rfl,hcp⟩
  · exact ⟨G,LS.nil,Gle.refl _,S.front⟩
  · obtain ⟨u,G',hu,hsu,hg,hle,S'⟩:=S.freeze Bh.length (b:=b) (ty:=e) (k:=some (cp * k.getD 1)) (τ:=ROWS k τs) (by simp)
    obtain ⟨us,r,rfl,hE⟩:=hu
    refine ⟨G',LS.of_vals rfl hcp hlim hE (Lies.block hE.sizes hg),hle,?_⟩
    simpa [List.eraseIdx_append_of_length_le] using S'
theorem zero_one {z : Value} {n : Nat} (hz : Shaped k z) : ∀ x ∈ (Builtin.zeroCells z.cells n).toList,x.oneCell' = true:=fun x hx=>by
  simp only [Builtin.zeroCells,Array.toList_map,List.mem_map] at hx
  obtain ⟨j,hj,rfl⟩:=hx
  by_cases h : j % z.cells.size < z.cells.size
  · have : z.cells[j % z.cells.size]! ∈ z.cells.toList:=by simp [h]
    exact shaped_cells hz _ (by simpa using this)
  · have h0 : z.cells.size = 0 := by
      rcases Nat.eq_zero_or_pos z.cells.size with h1 | h1
      · exact h1
      · exact absurd (Nat.mod_lt _ h1) h
    simp [h0] at hj
theorem St.appS (S : St W0 G0 N L (Bh ++ own) a w G) {d t bytes : Nat} {x y : Operand} {z : Value} (ho : o.op = .call { callee := .builtin .append, args := #[x, y], argTypes := #[t, t] }) (hd : o.dst = some d) (hg : o.guard = none)
    (ht : P.underlying t = some (.slice e)) (he : elS P e (k.getD 1) bytes z) (hz : Shaped k z) (hx : a.eval x = v) (hr : OWNS k e v own τs) (hy : (LS k σs).t (a.eval y) G) (hpos : 0 < σs.length) (hlim : τs.length + σs.length ≤ LIM) (hby : (τs.length + σs.length) * bytes ≤ 140737488355328) (hdN : (decide (d < N)) = true) (hf : fresh d L = true)
    (K : ∀ v' own' a' w' G',OWNS k e v' own' (τs ++ σs) → St W0 G0 N ((d,.ex v') :: L) (Bh ++ own') a' w' G' → wpList P ops Q rest a' w') : wpList P ops Q (o :: rest) a w:=by
  refine wpList_plain hg fun K' hK=>?_
  obtain ⟨i,hi,h1,h2,h3⟩:=elS_of he
  obtain ⟨A,c,vs,hye,hlc,_,hE,hL⟩:=LS.vals hy
  have hvl : vs.length = σs.length:=hE.1
  obtain ⟨b2,off2,rfl,_⟩:=hL 0 vs[0] (by rw [List.getElem?_eq_getElem (by omega)])
  have hsz:=hE.sizes
  have hnl : (flat vs).length = σs.length * i.size:=by rw [flat_len hsz,hvl,h1]
  have hnews : ∀ j u,(flat vs)[j]? = some u → w.cell? ((⟨b2,off2,none⟩ : Addr).add j) = some u:=fun j u hj=>by rw [addr_add];exact Gc.cell S.ok (hL.all hsz j u hj)
  simp only [LIM] at hlim
  have hdN':=of_decide_eq_true hdN
  have go : ∀ v' w',(Builtin.append_ #[t,t] o.type #[v,.slice (some ⟨b2,off2,none⟩) σs.length c]).run P w = .ok v' w' → K' (a.put (some d) v') w' → o.wp P a w K' Q:=fun v' w' hrun hk=>by
    unfold Oper.wp execOp
    simp only [ho,resolve,invoke,builtin,Sem.run_bind,Sem.run_pure,Result.andThen_ok,List.map_toArray,List.map_cons,List.map_nil,hx,hye,hrun]
    show K' (a.put o.dst v') w'
    rw [hd];exact hk
  have grown : ∀ (us : List Value) (cp : Nat), Els k τs us G → (Builtin.append_ #[t, t] o.type #[v, .slice (some ⟨b2, off2, none⟩) σs.length c]).run P w =
      .ok (.slice (some ⟨w.heap.size,0,none⟩) (τs.length + σs.length) (grownCap w (τs.length + σs.length) cp e)) (w.drew.alloc (.cells ((flat us).toArray ++ (flat vs).toArray ++ Builtin.zeroCells z.cells (grownCap w (τs.length + σs.length) cp e - (τs.length + σs.length))) e)) → o.wp P a w K' Q:=fun us cp hU hrun=>by
    have hge:=grownCap_ge w (τs.length + σs.length) cp e
    generalize grownCap w (τs.length + σs.length) cp e = q at *
    have hcells : (flat us).toArray ++ (flat vs).toArray ++ Builtin.zeroCells z.cells (q - (τs.length + σs.length)) = (flat (us ++ vs) ++ (Builtin.zeroCells z.cells (q - (τs.length + σs.length))).toList).toArray:=by
      rw [flat_app];simp
    rw [hcells] at hrun
    have hN:=Nxt.drew S.ok
    have hUV:=hU.app hE
    have hzs : z.cells.size = k.getD 1:=shaped_size hz
    have hlen : (flat (us ++ vs) ++ (Builtin.zeroCells z.cells (q - (τs.length + σs.length))).toList).length = q * k.getD 1:=by
      have hzl : (Builtin.zeroCells z.cells (q - (τs.length + σs.length))).toList.length = (q - (τs.length + σs.length)) * k.getD 1:=by rw [Array.length_toList,size_zeroCells,hzs]
      rw [List.length_append,flat_len hUV.sizes,hzl,List.length_append,hU.1,hvl,← Nat.add_mul]
      congr 1;omega
    have hsh : Shaped (some (q * k.getD 1)) (.agg (flat (us ++ vs) ++ (Builtin.zeroCells z.cells (q - (τs.length + σs.length))).toList).toArray):=Shp.rows hUV (zero_one hz) hlen
    refine go _ _ hrun (hK _ _ (K _ [⟨w.heap.size,e,some (q * k.getD 1),ROWS k (τs ++ σs)⟩] _ _ G (.inr ⟨_,q,by rw [List.length_append],rfl,by rw [List.length_append];exact hge⟩) (St.put (w':=_) ?_ hdN' hf rfl (Nxt.refl ?_))))
    · refine S.front.newEnd (u:=.agg (flat (us ++ vs) ++ (Builtin.zeroCells z.cells (q - (τs.length + σs.length))).toList).toArray) (hN.trans (Nxt.alloc hN.ok _)) (Nat.le_refl _) (heap_alloc_new w.drew _) hsh ⟨us ++ vs,_,rfl,hUV⟩
    · exact (hN.trans (Nxt.alloc hN.ok _)).ok
  rcases hr with ⟨rfl,rfl,rfl⟩ | ⟨b,cp,rfl,rfl,hcp⟩
  · have hrun:=run_append_nil (P:=P) w t o.type e i z ht hi h3 ⟨b2,off2,none⟩ σs.length c (flat vs) hnl hnews hpos (by simp at hlim;omega) (by rw [h2];simp at hby;omega)
    exact grown [] 0 Els.nil (by simpa [flat] using hrun)
  · obtain ⟨h4,h5,u,hu,hsu,us,r,rfl,hU⟩:=S.bx Bh.length ⟨b,e,some (cp * k.getD 1),ROWS k τs⟩ (by simp)
    obtain ⟨cs',e1,hszc,hone⟩:=cells_one hsu
    injection e1 with e1
    have hfl : (flat us).length = τs.length * k.getD 1:=by rw [flat_len hU.sizes,hU.1]
    have htot : (flat us ++ r).length = cp * k.getD 1:=by rw [← hszc,← e1];simp
    by_cases hroom : τs.length + σs.length ≤ cp
    · have hrl : σs.length * k.getD 1 ≤ r.length := by
        have : (τs.length + σs.length) * k.getD 1 ≤ cp * k.getD 1:=Nat.mul_le_mul_right _ hroom
        rw [List.length_append,hfl] at htot;rw [Nat.add_mul] at this;omega
      have hrun:=run_append_room (P:=P) w t o.type e i ht hi b τs.length cp (flat us ++ r).toArray hu ⟨b2,off2,none⟩ σs.length c (flat vs) hnl hnews (flat_one hE.shaped) hroom (by rw [h1,hnl,h1];simp;rw [hfl];omega)
      have hset:=S.setVar Bh.length (x:=⟨b,e,some (cp * k.getD 1),ROWS k τs⟩) (by simp) (v:=.agg (flat (us ++ vs) ++ r.drop (σs.length * k.getD 1)).toArray) (τ:=ROWS k (τs ++ σs)) (Shp.rows (hU.app hE) (fun x hx=>hone x (by rw [← e1];simp;exact .inr (List.mem_of_mem_drop hx))) (by
        rw [List.length_append,flat_len (hU.app hE).sizes,List.length_append,hU.1,hvl,List.length_drop];rw [List.length_append,hfl] at htot;rw [Nat.add_mul];omega)) ⟨us ++ vs,_,rfl,hU.app hE⟩
      have hB : (Bh ++ [(⟨b,e,some (cp * k.getD 1),ROWS k τs⟩ : BX)]).set Bh.length ⟨b,e,some (cp * k.getD 1),ROWS k (τs ++ σs)⟩ = Bh ++ [(⟨b,e,some (cp * k.getD 1),ROWS k (τs ++ σs)⟩ : BX)]:=by simp
      rw [hB] at hset
      have hcell : (List.take (τs.length * i.size) (flat us ++ r).toArray.toList ++ flat vs ++ List.drop (τs.length * i.size + (flat vs).length) (flat us ++ r).toArray.toList).toArray = (flat (us ++ vs) ++ r.drop (σs.length * k.getD 1)).toArray:=by
        congr 1
        show List.take _ (flat us ++ r) ++ flat vs ++ List.drop _ (flat us ++ r) = _
        rw [hnl,h1,← hfl,List.take_left',List.drop_length_add_append,flat_app]
        rfl
      rw [hcell] at hrun
      exact go _ _ hrun (hK _ _ (K _ [⟨b,e,some (cp * k.getD 1),ROWS k (τs ++ σs)⟩] _ _ G (.inr ⟨b,cp,by rw [List.length_append],rfl,by rw [List.length_append];exact hroom⟩) (hset.put hdN' hf rfl (Nxt.refl hset.ok))))
    · have hrun := run_append_grow (P := P) w t o.type e i z ht hi h3 ⟨b, 0, none⟩ τs.length cp (flat us) (by rw [hfl, h1]) (fun j q hj => by
        rw [addr_add,Nat.zero_add]
        have hu' : w.heap[b]? = some (.cells (flat us ++ r).toArray e (0,0)):=hu
        have hlt:=(List.getElem?_eq_some_iff.1 hj).1
        simp only [World.cell?,hu',List.getElem?_toArray]
        rw [List.getElem?_append_left hlt,hj];rfl) ⟨b2,off2,none⟩ σs.length c (flat vs) hnl hnews (by omega) (by omega) (growslice_fits (by omega) (by rw [h2];exact hby))
      exact grown us cp hU hrun
theorem cell_block {b i : Nat} {cs : Array Value} {ty : TypeId} {fr : Nat × Nat} {x : Value} (h : w.heap[b]? = some (.cells cs ty fr)) (hx : cs[i]? = some x) : w.cell? ⟨b,i,none⟩ = some x:=by simpa [World.cell?,h] using hx
theorem made_flat {z : Value} {n s : Nat} (hz : z.cells.size = s) : (madeCells z.cells (n * s)).toList = flat (List.replicate n z):=by
  have hs : ∀ u ∈ List.replicate n z,u.cells.size = s:=fun u hu=>by rw [(List.mem_replicate.1 hu).2,hz]
  apply List.ext_getElem?
  intro m
  by_cases hm : m < n * s
  · have hs0 : 0 < s := by rcases Nat.eq_zero_or_pos s with h | h
                           · subst h;simp at hm
                           · exact h
    have hq : m / s < n:=(Nat.div_lt_iff_lt_mul hs0).2 hm
    have hr : m % s < s:=Nat.mod_lt _ hs0
    have e:=flat_get hs (i:=m / s) (u:=z) (by simp [List.getElem?_replicate,hq]) hr
    rw [Nat.div_add_mod'] at e
    rw [e]
    simp [madeCells,hm,hz,hr]
  · rw [List.getElem?_eq_none (by simp [madeCells];omega),List.getElem?_eq_none (by rw [flat_len hs];simp;omega)]
theorem St.mkS (S : St W0 G0 N L B a w G) {d n bytes t : Nat} {x y : Operand} {m m' : Int} {z : Value} {k1 k2 : IntKind} (ho : o.op = .makeSlice t x y) (hd : o.dst = some d) (hg : o.guard = none) (ht : P.underlying t = some (.slice e)) (he : elS P e (k.getD 1) bytes z) (hz : Shaped k z) (hτ : τ.t z G)
    (hx : a.eval x = .int k1 m) (hy : a.eval y = .int k2 m') (hm : m = (n : Int)) (hm' : m' = (n : Int)) (hn : n * bytes ≤ 281474976710656) (hn' : n ≤ 281474976710656) (hdN : (decide (d < N)) = true) (hf : fresh d L = true)
    (K : ∀ b a' w' G',St W0 G0 N ((d,.ex (.slice (some ⟨b,0,none⟩) n n)) :: L) (⟨b,e,some (n * k.getD 1),ROWS k (List.replicate n τ)⟩ :: B) a' w' G' → wpList P ops Q rest a' w') : wpList P ops Q (o :: rest) a w :=
  wpList_plain hg fun K' hK=>by
    subst hm hm'
    obtain ⟨i,hi,h1,h2,h3⟩:=elS_of he
    have hmk:=run_make (P:=P) w t e i z ht hi h3 k1 k2 (n : Int) (n : Int) (by omega) (Int.le_refl _) (by rw [h2,show (bytes : Int) * (n : Int) = ((n * bytes : Nat) : Int) from by rw [Int.natCast_mul,Int.mul_comm]];omega) (by omega)
    simp only [Int.toNat_natCast,h1] at hmk
    have hzs : z.cells.size = k.getD 1:=shaped_size hz
    have hmc : madeCells z.cells (n * k.getD 1) = (flat (List.replicate n z) ++ []).toArray:=by
      rw [← made_flat hzs];simp
    have hEl : Els k (List.replicate n τ) (List.replicate n z) G:=Els.replicate n hz hτ
    have hsh : Shaped (some (n * k.getD 1)) (.agg (flat (List.replicate n z) ++ []).toArray):=Shp.rows hEl (fun x hx=>by simp at hx) (by rw [List.append_nil,flat_len hEl.sizes];simp)
    have hr : (execOp a.eval o).run P w = .ok (.value (.slice (some ⟨w.heap.size,0,none⟩) n n)) (w.alloc (.cells (flat (List.replicate n z) ++ []).toArray e)):=by
      rw [hmc] at hmk
      simp [execOp,ho,hx,hy,hmk]
    unfold Oper.wp
    rw [hr]
    simp only [Oper.upon,hd]
    have S':=(S.newVar (v:=.agg (flat (List.replicate n z) ++ []).toArray) (t:=e) (k:=some (n * k.getD 1)) (τ:=ROWS k (List.replicate n τ)) hsh ⟨_,_,rfl,hEl⟩).put (v:=.slice (some ⟨w.heap.size,0,none⟩) n n) (of_decide_eq_true hdN) hf (τ:=.ex (.slice (some ⟨w.heap.size,0,none⟩) n n)) rfl (Nxt.refl (S.ok.alloc _))
    exact hK _ _ (K w.heap.size _ _ G S')
theorem OpR.ldS {x : Operand} {t ty : TypeId} {b i n : Nat} (hok : Gok w G) (ho : o.op = .load t x) (hx : a.eval x = .pointer (some ⟨b,i * k.getD 1,none⟩)) (hb : BX.ok ⟨b,ty,some n,ROWS k τs⟩ W0 w G) (hT : tyS P t k = true) (hi : τs[i]? = some τ) : OpR P o a w G τ:=by
  obtain ⟨_,_,v,hv,hs,us,r,rfl,hE⟩:=hb
  have hlt:=(List.getElem?_eq_some_iff.1 hi).1
  obtain ⟨u,hui⟩ : ∃ u,us[i]? = some u:=⟨us[i]'(by rw [hE.1];exact hlt),by simp⟩
  obtain ⟨hsu,htu⟩:=hE.2 i τ _ hi hui
  have hcell : ∀ j x,u.cells[j]? = some x → w.cell? ⟨b,i * k.getD 1 + j,none⟩ = some x:=fun j x hj=>by
    have hjs : j < k.getD 1:=by have:=(Array.getElem?_eq_some_iff.1 hj).1;rw [shaped_size hsu] at this;exact this
    have e1:=flat_get hE.sizes hui hjs
    rw [hj] at e1
    have hl:=(List.getElem?_eq_some_iff.1 e1).1
    refine cell_block hv ?_
    show (flat us ++ r).toArray[_]? = _
    rw [List.getElem?_toArray,List.getElem?_append_left hl,e1]
  cases k with
  | none =>
    have h0:=hcell 0 _ (by rw [hsu.1];rfl)
    obtain ⟨h1,h2⟩:=tyS_none hT w
    refine .run hok (v:=u) ?_ htu
    simp only [Option.getD_none,Nat.add_zero,Nat.mul_one] at h0 hx
    simp [execOp,ho,hx,Instr.loadAt,Instr.sureAddr,loadVar,h1,h0]
  | some m =>
    obtain ⟨cs,e1,e2,e3⟩:=hsu
    rw [e1] at hcell htu
    refine .run hok (v:=.agg cs) ?_ htu
    obtain ⟨h1,h2⟩:=tyS_some hT w
    have hl:=run_loadCells_list (P:=P) (w:=w) ⟨b,i * m,none⟩ cs.toList (fun j v hj=>by
      rw [addr_add];exact hcell j v (show cs[j]? = some v by simpa using hj))
    simp only [Array.length_toList,e2] at hl
    simp only [Option.getD_some] at hx
    simp [execOp,ho,hx,Instr.loadAt,Instr.sureAddr,loadVar,h1,h2,hl]
theorem run_slice_lohi {t e : TypeId} {A : Option Addr} {n c : Nat} {i j : Nat} {k1 k2 : IntKind} (ht : P.underlying t = some (.slice e)) {s : Option Nat} (hs : tyS P e s = true) (hij : i ≤ j) (hj : j ≤ c) :
    (Instr.sliceAt t (.slice A n c) (some (.int k1 (i : Int))) (some (.int k2 (j : Int))) none).run P w = .ok (.slice (if c - i = 0 then A else A.map (·.add (i * s.getD 1))) (j - i) (c - i)) w:=by
  simp [Instr.sliceAt,run_underlying ht,Instr.slice,Instr.sliceBounds,Instr.sliceBound,asIntOf,hj,hij,tyS_size hs]
  split <;> split <;> first | rfl | omega
theorem run_slice_lo {t e : TypeId} {A : Option Addr} {n c : Nat} {i : Nat} {k1 : IntKind} (ht : P.underlying t = some (.slice e)) {s : Option Nat} (hs : tyS P e s = true) (hij : i ≤ n) (hj : n ≤ c) :
    (Instr.sliceAt t (.slice A n c) (some (.int k1 (i : Int))) none none).run P w = .ok (.slice (if c - i = 0 then A else A.map (·.add (i * s.getD 1))) (n - i) (c - i)) w:=by
  simp [Instr.sliceAt,run_underlying ht,Instr.slice,Instr.sliceBounds,Instr.sliceBound,asIntOf,hj,hij,tyS_size hs]
  split <;> split <;> first | rfl | omega
theorem Lies.cut {A : Option Addr} {us : List Value} {s i c : Nat} (h : Lies G A s us) (hc : us.length ≤ c) : Lies G (if c - i = 0 then A else A.map (·.add (i * s))) s (us.drop i):=fun j u hu=>by
  rw [List.getElem?_drop] at hu
  have hlt:=(List.getElem?_eq_some_iff.1 hu).1
  obtain ⟨b,off,rfl,hx⟩:=h _ u hu
  rw [if_neg (by omega)]
  refine ⟨b,off + i * s,by simp [addr_add],fun m x hm=>?_⟩
  have:=hx m x hm
  rw [Nat.add_mul] at this
  rw [← this];congr 1;omega
theorem Lies.take {A : Option Addr} {us : List Value} {s n : Nat} (h : Lies G A s us) : Lies G A s (us.take n):=fun j u hu=>by
  rw [List.getElem?_take] at hu
  split at hu
  · exact h j u hu
  · cases hu
theorem OpR.cutHi {x y : Operand} {t j : Nat} {k' : IntKind} {m : Int} (hok : Gok w G) (ho : o.op = .slice t x none (some y) none) (ht : P.underlying t = some (.slice e)) (hs : tyS P e k = true)
    (hx : (LS k τs).t (a.eval x) G) (hy : a.eval y = .int k' m) (hm : m = (j : Int)) (hj : j ≤ τs.length) : OpR P o a w G (LS k (τs.take j)):=by
  subst hm
  obtain ⟨A,c,us,hx,h1,h2,h3,h4⟩:=LS.vals hx
  have hl : (τs.take j).length = j:=by rw [List.length_take];omega
  exact .run hok (v:=.slice A j c) (by simp [execOp,ho,hx,hy,run_slice_hi ht hs (show j ≤ c by omega)]) (LS.of_vals (by rw [hl]) (by omega) (by omega) (h3.take j) h4.take)
theorem OpR.cutLo {x y : Operand} {t i : Nat} {k' : IntKind} {m : Int} (hok : Gok w G) (ho : o.op = .slice t x (some y) none none) (ht : P.underlying t = some (.slice e)) (hs : tyS P e k = true)
    (hx : (LS k τs).t (a.eval x) G) (hy : a.eval y = .int k' m) (hm : m = (i : Int)) (hi : i ≤ τs.length) : OpR P o a w G (LS k (τs.drop i)):=by
  subst hm
  obtain ⟨A,c,us,hx,h1,h2,h3,h4⟩:=LS.vals hx
  have hl : (τs.drop i).length = τs.length - i:=by rw [List.length_drop]
  exact .run hok (by simp only [execOp,ho,hx,hy,Sem.run_bind,Option.map_some,Option.map_none,run_slice_lo ht hs hi h1];rfl) (LS.of_vals (by rw [hl]) (by omega) (by omega) (h3.drop i) (h4.cut (by rw [h3.1];exact h1)))
theorem OpR.cutLH {x y z : Operand} {t i j : Nat} {k' k2 : IntKind} {m m2 : Int} (hok : Gok w G) (ho : o.op = .slice t x (some y) (some z) none) (ht : P.underlying t = some (.slice e)) (hs : tyS P e k = true)
    (hx : (LS k τs).t (a.eval x) G) (hy : a.eval y = .int k' m) (hm : m = (i : Int)) (hz : a.eval z = .int k2 m2) (hm2 : m2 = (j : Int)) (hij : i ≤ j) (hj : j ≤ τs.length) : OpR P o a w G (LS k ((τs.take j).drop i)):=by
  subst hm hm2
  obtain ⟨A,c,us,hx,h1,h2,h3,h4⟩:=LS.vals hx
  have hl : ((τs.take j).drop i).length = j - i:=by rw [List.length_drop,List.length_take];omega
  exact .run hok (by simp only [execOp,ho,hx,hy,hz,Sem.run_bind,Option.map_some,Option.map_none,run_slice_lohi ht hs hij (show j ≤ c by omega)];rfl) (LS.of_vals (by rw [hl]) (by omega) (by omega) ((h3.take j).drop i) (h4.take.cut (by rw [List.length_take,h3.1];omega)))
theorem run_copy_cells' {dT sT ty elem : TypeId} {s b dLen dCap sLen sCap : Nat} {A : Option Addr} {cur : Array Value} {cs : List Value} {tt : TypeId} (hu : P.underlying dT = some (.slice elem)) (hs : (P.info? elem).map (·.size) = some s)
    (hg : w.heap[b]? = some (.cells cur tt (0,0))) (hn : cs.length = Nat.min sLen dLen * s) (hsrc : ∀ a',A = some a' → ∀ j v,cs[j]? = some v → w.cell? (a'.add j) = some v) (hA : A = none → cs = []) (hfit : cs.length ≤ cur.size) (h1 : ∀ v ∈ cs,v.oneCell' = true) :
    (Builtin.copy_ #[dT,sT] ty #[.slice (some ⟨b,0,none⟩) dLen dCap,.slice A sLen sCap]).run P w = .ok (goInt (Nat.min sLen dLen)) (w.setRow b (cs ++ cur.toList.drop cs.length).toArray):=by
  have hst:=run_storeCells_at P b 0 tt cs 0 cur w hg (by simpa using hfit) h1
  simp only [Nat.add_zero,List.take_zero,List.nil_append,Nat.zero_add] at hst
  cases hq : P.info? elem with
  | none=>simp [hq] at hs
  | some i =>
    have hi : i.size = s:=by simpa [hq] using hs
    cases A with
    | none =>
      have:=hA rfl
      subst this
      have e0 : ([] : List Value) ++ List.drop 0 cur.toList = cur.toList:=rfl
      simp only [List.length_nil,e0] at hst ⊢
      simp [Builtin.copy_,run_underlying hu,Builtin.lenOf,Builtin.firstCells,sizeOf,typeInfo,hq,hi,hst]
    | some a' =>
      have hl:=run_loadCells_list (P:=P) w a' cs (hsrc a' rfl)
      rw [hn] at hl
      simp [Builtin.copy_,run_underlying hu,Builtin.lenOf,Builtin.firstCells,sizeOf,typeInfo,hq,hi,hl,hst]
theorem St.copyS (S : St W0 G0 N L B a w G) (i0 : Nat) {d n b cp t t' bytes nn : Nat} {z : Value} {x y : Operand} (ho : o.op = .call { callee := .builtin .copy, args := #[x, y], argTypes := #[t, t'] }) (hd : o.dst = some d) (hg : o.guard = none) (ht : P.underlying t = some (.slice e)) (he : elS P e (k.getD 1) bytes z)
    (hi : B[i0]? = some ⟨b,e,some nn,ROWS k τs⟩) (hx : a.eval x = .slice (some ⟨b,0,none⟩) n cp) (hnn : n = τs.length) (hy : (LS k σs).t (a.eval y) G) (hdN : (decide (d < N)) = true) (hf : fresh d L = true)
    (K : ∀ a' w' G',St W0 G0 N ((d,.ex (.int .i64 (Nat.min σs.length n : Nat))) :: L) (B.set i0 ⟨b,e,some nn,ROWS k (σs.take n ++ τs.drop σs.length)⟩) a' w' G' → wpList P ops Q rest a' w') : wpList P ops Q (o :: rest) a w:=by
  refine wpList_plain hg fun K' hK=>?_
  obtain ⟨i,hii,h1,h2,h3⟩:=elS_of he
  obtain ⟨A,c,vs,hye,hlc,_,hE,hL⟩:=LS.vals hy
  obtain ⟨h4,h5,u,hu,hsu,us,r,rfl,hU⟩:=S.bx i0 _ hi
  obtain ⟨cs',e1,hszc,hone⟩:=cells_one hsu
  injection e1 with e1
  have hu : w.heap[b]? = some (.cells (flat us ++ r).toArray e (0,0)):=hu
  have htot : (flat us ++ r).length = nn:=by rw [← hszc,← e1];simp
  have hT:=hE.take n
  have hTl : (vs.take n).length = Nat.min σs.length n:=by rw [List.length_take,hE.1,Nat.min_comm]
  have hfl : (flat (vs.take n)).length = Nat.min σs.length n * k.getD 1:=by rw [flat_len hT.sizes,hTl]
  have hul : (flat us).length = n * k.getD 1:=by rw [flat_len hU.sizes,hU.1,hnn]
  have hmn : Nat.min σs.length n * k.getD 1 ≤ n * k.getD 1:=Nat.mul_le_mul_right _ (Nat.min_le_right _ _)
  have hrun := run_copy_cells' (P := P) (w := w) (dT := t) (sT := t') (ty := o.type) (elem := e) (s := k.getD 1) (dLen := n) (dCap := cp) (sLen := σs.length) (sCap := c) (A := A) (cs := flat (vs.take n)) ht (by rw [hii, Option.map_some, h1]) hu hfl (fun a' ha j v hj => by
      subst ha
      obtain ⟨i1,j1,u1,e1,e2,e3,e4⟩:=flat_inv hT.sizes hj
      obtain ⟨b2,off2,e5,e6⟩:=hL.take (n:=n) i1 u1 e1
      cases e5
      rw [addr_add,e2,← Nat.add_assoc];exact Gc.cell S.ok (e6 j1 v e4)) (fun hA=>by
      have : vs = []:=by
        rcases vs with _ | ⟨q,vs'⟩
        · rfl
        · obtain ⟨b2,off2,e5,_⟩:=hL 0 q rfl;rw [hA] at e5;cases e5
      rw [this];simp [flat]) (by rw [hfl];show _ ≤ (flat us ++ r).length;rw [List.length_append];omega) (flat_one hT.shaped)
  have hnew : (flat (vs.take n) ++ (flat us ++ r).toArray.toList.drop (flat (vs.take n)).length).toArray = (flat (vs.take n ++ us.drop σs.length) ++ r).toArray:=by
    congr 1
    show _ ++ List.drop _ (flat us ++ r) = _
    rw [flat_app,List.append_assoc,List.drop_append_of_le_length (by rw [hfl,hul];exact hmn)]
    congr 2
    have hd2 : (flat us).drop (Nat.min σs.length n * k.getD 1) = flat (us.drop (Nat.min σs.length n)):=by
      have e5 : us = us.take (Nat.min σs.length n) ++ us.drop (Nat.min σs.length n):=(List.take_append_drop _ _).symm
      have e6 : (flat (us.take (Nat.min σs.length n))).length = Nat.min σs.length n * k.getD 1:=by
        rw [flat_len fun v hv=>hU.sizes v (List.mem_of_mem_take hv),List.length_take,hU.1,← hnn]
        congr 1;exact Nat.min_eq_left (Nat.min_le_right _ _)
      conv=>lhs;rw [e5,flat_app]
      rw [← e6,List.drop_left]
    rw [hfl,hd2]
    congr 1
    rcases Nat.le_total σs.length n with h | h
    · rw [show Nat.min σs.length n = σs.length from Nat.min_eq_left h]
    · rw [show Nat.min σs.length n = n from Nat.min_eq_right h,List.drop_of_length_le (by rw [hU.1];omega),List.drop_of_length_le (by rw [hU.1];omega)]
  rw [hnew] at hrun
  have hEl : Els k (σs.take n ++ τs.drop σs.length) (vs.take n ++ us.drop σs.length) G:=hT.app (hU.drop _)
  have hset:=S.setVar i0 hi (v:=.agg (flat (vs.take n ++ us.drop σs.length) ++ r).toArray) (τ:=ROWS k (σs.take n ++ τs.drop σs.length)) (Shp.rows hEl (fun x hx=>hone x (by rw [← e1];simp;exact .inr hx)) (by
    have:=congrArg List.length (congrArg Array.toList hnew)
    simp only [List.length_append,List.length_drop] at this htot ⊢
    rw [hfl] at this
    rw [← this];omega)) ⟨_,_,rfl,hEl⟩
  have hr : (execOp a.eval o).run P w = .ok (.value (goInt (Nat.min σs.length n))) (w.setRow b (flat (vs.take n ++ us.drop σs.length) ++ r).toArray):=by
    simp only [execOp,ho,resolve,invoke,builtin,Sem.run_bind,Sem.run_pure,Result.andThen_ok,List.map_toArray,List.map_cons,List.map_nil,hx,hye,hrun]
  unfold Oper.wp
  rw [hr]
  simp only [Oper.upon,hd]
  exact hK _ _ (K _ _ _ (hset.put (of_decide_eq_true hdN) hf rfl (Nxt.refl hset.ok)))
theorem Elt.part {n m off : Nat} {k' : Option Nat} {τ' : MT} {b i : Nat} (h : Elt (some n) τ G b i) (hoff : off + k'.getD 1 ≤ n) (hf : ∀ v,τ.t v G → Shaped (some n) v → ∃ u,Shaped k' u ∧ τ'.t u G ∧ ∀ j x,u.cells[j]? = some x → v.cells[off + j]? = some x) : Elt k' τ' G b (i + off):=by
  obtain ⟨cs,h1,h2,h3,h4⟩:=h
  obtain ⟨u,hs,hu,hc⟩:=hf _ h3 ⟨cs,rfl,h1,h4⟩
  have hcell : ∀ j x,u.cells[j]? = some x → Gc G b (i + off + j) = some x:=fun j x hj=>by
    rw [Nat.add_assoc];exact h2 _ x (hc j x hj)
  cases k' with
  | none=>exact ⟨u,by have:=hcell 0 u (by rw [hs.1];rfl);simpa using this,hu,hs⟩
  | some m =>
    obtain ⟨cs',e1,e2,e3⟩:=hs
    rw [e1] at hcell hu
    exact ⟨cs',e2,fun j x hj=>hcell j x hj,hu,e3⟩
theorem OpR.fldE {x : Operand} {s f off n : Nat} {k' : Option Nat} {τ' : MT} (hok : Gok w G) (ho : o.op = .fieldAddr s x f) (hx : (PE (some n) τ).t (a.eval x) G) (hf : fldOff P s f = some off) (hoff : (decide (off + k'.getD 1 ≤ n)) = true)
    (h : ∀ v,τ.t v G → Shaped (some n) v → ∃ u,Shaped k' u ∧ τ'.t u G ∧ ∀ j x,u.cells[j]? = some x → v.cells[off + j]? = some x) : OpR P o a w G (PE k' τ'):=by
  obtain ⟨b,i,hx,hE⟩:=hx
  exact OpR.fldA hok ho hx hf ⟨b,i + off,rfl,hE.part (m:=0) (of_decide_eq_true hoff) h⟩
def PTS (fs : List (Option Nat × MT)) : MT:=⟨fun v G=>∃ us,v = .agg (flat us).toArray ∧ us.length = fs.length ∧ ∀ (i : Nat) (f : Option Nat × MT) (u : Value),fs[i]? = some f → us[i]? = some u → Shaped f.1 u ∧ f.2.t u G,
  fun hle ⟨us,h1,h2,h3⟩=>⟨us,h1,h2,fun i f u hf hu=>⟨(h3 i f u hf hu).1,f.2.mono hle (h3 i f u hf hu).2⟩⟩⟩
def offs (fs : List (Option Nat × MT)) (i : Nat) : Nat:=((fs.take i).map fun f=>f.1.getD 1).sum
theorem flat_at {us : List Value} {i j : Nat} {u : Value} (hu : us[i]? = some u) {x : Value} (hx : u.cells[j]? = some x) : (flat us)[((us.take i).map fun u=>u.cells.size).sum + j]? = some x:=by
  induction us generalizing i with
  | nil=>simp at hu
  | cons v us ih =>
    rw [flat_cons]
    cases i with
    | zero =>
      have e : v = u:=by simpa using hu
      subst e
      have hlt:=(Array.getElem?_eq_some_iff.1 hx).1
      rw [List.getElem?_append_left (by simp;omega)]
      simpa using hx
    | succ i =>
      rw [List.take_succ_cons,List.map_cons,List.sum_cons,List.getElem?_append_right (by simp;omega)]
      have:=ih (i:=i) (by simpa using hu)
      rw [← this];congr 1;simp;omega
theorem sizes_eq {fs : List (Option Nat × MT)} {us : List Value} (hl : us.length = fs.length) (h : ∀ (i : Nat) (f : Option Nat × MT) (u : Value),fs[i]? = some f → us[i]? = some u → u.cells.size = f.1.getD 1) : (us.map fun u=>u.cells.size) = fs.map fun f=>f.1.getD 1:=by
  apply List.ext_getElem?
  intro i
  rw [List.getElem?_map,List.getElem?_map]
  by_cases hi : i < us.length
  · have hi' : i < fs.length:=by omega
    rw [List.getElem?_eq_getElem hi,List.getElem?_eq_getElem hi']
    simp [h i fs[i] us[i] (by simp [hi']) (by simp [hi])]
  · rw [List.getElem?_eq_none (by omega),List.getElem?_eq_none (by omega)];rfl
theorem PTS.part {fs : List (Option Nat × MT)} {f : Option Nat × MT} {off : Nat} (i : Nat) (hi : fs[i]? = some f) (hoff : offs fs i = off) {v : Value} {k0 : Option Nat} (h : (PTS fs).t v G) (_ : Shaped k0 v) : ∃ u,Shaped f.1 u ∧ f.2.t u G ∧ ∀ j x,u.cells[j]? = some x → v.cells[off + j]? = some x:=by
  obtain ⟨us,rfl,h2,h3⟩:=h
  have hlt:=(List.getElem?_eq_some_iff.1 hi).1
  obtain ⟨u,hu⟩ : ∃ u,us[i]? = some u:=⟨us[i]'(by omega),by simp⟩
  obtain ⟨hs,ht⟩:=h3 i f u hi hu
  refine ⟨u,hs,ht,fun j x hx=>?_⟩
  have:=flat_at hu hx
  have e:=sizes_eq h2 fun i f u hf hu=>shaped_size (h3 i f u hf hu).1
  rw [← hoff]
  unfold offs
  rw [List.map_take,← e,← List.map_take]
  simpa [Value.cells] using this
theorem part_load {k' : Option Nat} {τ' : MT} {v : Value} {off : Nat} (h : ∃ u, Shaped k' u ∧ τ'.t u G ∧ ∀ j x, u.cells[j]? = some x → v.cells[off + j]? = some x) (h0 : (decide (0 < k'.getD 1)) = true) : match k' with
    | none=>∃ u,v.cells[off]? = some u ∧ τ'.t u G
    | some n=>off + n ≤ v.cells.size ∧ τ'.t (.agg (v.cells.extract off (off + n))) G:=by
  obtain ⟨u,hs,hu,hc⟩:=h
  cases k' with
  | none=>exact ⟨u,by have:=hc 0 u (by rw [hs.1];rfl);simpa using this,hu⟩
  | some n =>
    obtain ⟨cs,rfl,e2,e3⟩:=hs
    have hsz : off + n ≤ v.cells.size:=by
      have h0 : 0 < n:=of_decide_eq_true h0
      have:=(Array.getElem?_eq_some_iff.1 (hc (n - 1) cs[n - 1] (by simp [Value.cells]))).1;omega
    refine ⟨hsz,?_⟩
    have : v.cells.extract off (off + n) = cs:=by
      apply Array.ext_getElem?
      intro j
      by_cases hj : j < n
      · rw [Array.getElem?_extract,if_pos (by omega)]
        have:=hc j cs[j] (by simp [Value.cells])
        rw [this];simp
      · rw [Array.getElem?_eq_none (by simp;omega),Array.getElem?_eq_none (by omega)]
    rw [this];exact hu
theorem PTS.shaped {fs : List (Option Nat × MT)} {n : Nat} (hn : offs fs fs.length = n) {v : Value} (h : (PTS fs).t v G) : Shaped (some n) v:=by
  obtain ⟨us,rfl,h2,h3⟩:=h
  refine ⟨_,rfl,?_,fun c hc=>?_⟩
  · have e:=sizes_eq h2 fun i f u hf hu=>shaped_size (h3 i f u hf hu).1
    unfold offs at hn
    rw [List.take_length] at hn
    rw [← hn,← e]
    clear h2 h3 e
    induction us with
    | nil=>rfl
    | cons u us ih=>simp [flat_cons];simpa using ih
  · have hc : c ∈ flat us:=by simpa using hc
    obtain ⟨u,hu,hcu⟩:=List.mem_flatMap.1 hc
    obtain ⟨i,hi,e⟩:=List.getElem_of_mem hu
    exact shaped_cells (h3 i fs[i] u (by simp [← h2,hi]) (by simp [hi,e])).1 c hcu
instance {fs : List (Option Nat × MT)} : Shp (PTS fs) (some (offs fs fs.length)):=⟨fun {_ _} h=>PTS.shaped rfl h⟩
theorem OpR.bldP {t : TypeId} {ps : Array (Nat × Operand)} {us : List Value} {fs : List (Option Nat × MT)} (hok : Gok w G) (ho : o.op = .build t ps) (hb : P.built t ((ps.map fun (i, x) => (i, a.eval x)).toList) = some (flat us).toArray) (hl : us.length = fs.length)
    (hE : ∀ (i : Nat) (f : Option Nat × MT) (u : Value),fs[i]? = some f → us[i]? = some u → Shaped f.1 u ∧ f.2.t u G) : OpR P o a w G (PTS fs) :=
  OpR.bld hok ho hb ⟨us,rfl,hl,hE⟩
variable {α : Type} {T : α → MT} {xs ys : List α}
theorem map_get [Inhabited α] {i : Nat} (h : i < xs.length) : (xs.map T)[i]? = some (T (xs.getD i default)):=by simp [h]
theorem OpR.lenM {x : Operand} {t : TypeId} (hok : Gok w G) (ho : o.op = .call { callee := .builtin .len, args := #[x], argTypes := #[t] }) (ht : P.underlying t = some (.slice e)) (hx : (LS k (xs.map T)).t (a.eval x) G)
    (h : τ.t (nv .i64 xs.length) G) : OpR P o a w G τ:=.lenS hok ho ht hx (by rw [List.length_map];exact h)
theorem OpR.ixM [Inhabited α] {x y : Operand} {t i : Nat} {m : Int} {k' : IntKind} (hok : Gok w G) (ho : o.op = .indexAddr t x y) (ht : P.underlying t = some (.slice e)) (hs : tyS P e k = true)
    (hx : (LS k (xs.map T)).t (a.eval x) G) (hy : a.eval y = .int k' m) (hm : m = (i : Int)) (hi : i < xs.length) : OpR P o a w G (PE k (T (xs.getD i default))):=.ixS hok ho ht hs hx hy hm (map_get hi)
theorem OpR.cutHiM {x y : Operand} {t j : Nat} {k' : IntKind} {m : Int} (hok : Gok w G) (ho : o.op = .slice t x none (some y) none) (ht : P.underlying t = some (.slice e)) (hs : tyS P e k = true)
    (hx : (LS k (xs.map T)).t (a.eval x) G) (hy : a.eval y = .int k' m) (hm : m = (j : Int)) (hj : j ≤ xs.length) : OpR P o a w G (LS k ((xs.take j).map T)):=by
  rw [List.map_take];exact .cutHi hok ho ht hs hx hy hm (by rw [List.length_map];exact hj)
theorem OpR.cutLoM {x y : Operand} {t i : Nat} {k' : IntKind} {m : Int} (hok : Gok w G) (ho : o.op = .slice t x (some y) none none) (ht : P.underlying t = some (.slice e)) (hs : tyS P e k = true)
    (hx : (LS k (xs.map T)).t (a.eval x) G) (hy : a.eval y = .int k' m) (hm : m = (i : Int)) (hi : i ≤ xs.length) : OpR P o a w G (LS k ((xs.drop i).map T)):=by
  rw [List.map_drop];exact .cutLo hok ho ht hs hx hy hm (by rw [List.length_map];exact hi)
theorem OpR.cutLHM {x y z : Operand} {t i j : Nat} {k' k2 : IntKind} {m m2 : Int} (hok : Gok w G) (ho : o.op = .slice t x (some y) (some z) none) (ht : P.underlying t = some (.slice e)) (hs : tyS P e k = true)
    (hx : (LS k (xs.map T)).t (a.eval x) G) (hy : a.eval y = .int k' m) (hm : m = (i : Int)) (hz : a.eval z = .int k2 m2) (hm2 : m2 = (j : Int)) (hij : i ≤ j) (hj : j ≤ xs.length) : OpR P o a w G (LS k (((xs.take j).drop i).map T)):=by
  rw [List.map_drop,List.map_take];exact .cutLH hok ho ht hs hx hy hm hz hm2 hij (by rw [List.length_map];exact hj)
theorem St.appSM (S : St W0 G0 N L (Bh ++ own) a w G) {d t bytes : Nat} {x y : Operand} {z : Value} (ho : o.op = .call { callee := .builtin .append, args := #[x, y], argTypes := #[t, t] }) (hd : o.dst = some d) (hg : o.guard = none)
    (ht : P.underlying t = some (.slice e)) (he : elS P e (k.getD 1) bytes z) (hz : Shaped k z) (hx : a.eval x = v) (hr : OWNS k e v own (xs.map T)) (hy : (LS k (ys.map T)).t (a.eval y) G) (hpos : 0 < ys.length) (hlim : xs.length + ys.length ≤ LIM) (hby : (xs.length + ys.length) * bytes ≤ 140737488355328) (hdN : (decide (d < N)) = true) (hf : fresh d L = true)
    (K : ∀ v' own' a' w' G',OWNS k e v' own' ((xs ++ ys).map T) → St W0 G0 N ((d,.ex v') :: L) (Bh ++ own') a' w' G' → wpList P ops Q rest a' w') : wpList P ops Q (o :: rest) a w :=
  S.appS ho hd hg ht he hz hx hr hy (by rw [List.length_map];exact hpos) (by rw [List.length_map,List.length_map];exact hlim) (by rw [List.length_map,List.length_map];exact hby) hdN hf (by rw [← List.map_append];exact K)
theorem St.mkSM (S : St W0 G0 N L B a w G) {d n bytes t : Nat} {x y : Operand} {m m' : Int} {z : Value} {k1 k2 : IntKind} {z0 : α} (ho : o.op = .makeSlice t x y) (hd : o.dst = some d) (hg : o.guard = none) (ht : P.underlying t = some (.slice e)) (he : elS P e (k.getD 1) bytes z) (hz : Shaped k z) (hτ : ∀ G, (T z0).t z G)
    (hx : a.eval x = .int k1 m) (hy : a.eval y = .int k2 m') (hm : m = (n : Int)) (hm' : m' = (n : Int)) (hn : n * bytes ≤ 281474976710656) (hn' : n ≤ 281474976710656) (hdN : (decide (d < N)) = true) (hf : fresh d L = true)
    (K : ∀ b a' w' G',St W0 G0 N ((d,.ex (.slice (some ⟨b,0,none⟩) n n)) :: L) (⟨b,e,some (n * k.getD 1),ROWS k ((List.replicate n z0).map T)⟩ :: B) a' w' G' → wpList P ops Q rest a' w') : wpList P ops Q (o :: rest) a w :=
  S.mkS ho hd hg ht he hz (hτ G) hx hy hm hm' hn hn' hdN hf (by rw [List.map_replicate] at K;exact K)
theorem OpR.ldSM [Inhabited α] {x : Operand} {t ty : TypeId} {b i n : Nat} (hok : Gok w G) (ho : o.op = .load t x) (hx : a.eval x = .pointer (some ⟨b,i * k.getD 1,none⟩)) (hb : BX.ok ⟨b,ty,some n,ROWS k (xs.map T)⟩ W0 w G) (hT : tyS P t k = true) (hi : i < xs.length) : OpR P o a w G (T (xs.getD i default)):=.ldS hok ho hx hb hT (map_get hi)
theorem St.copySM (S : St W0 G0 N L B a w G) (i0 : Nat) {d n b cp t t' bytes nn : Nat} {z : Value} {x y : Operand} (ho : o.op = .call { callee := .builtin .copy, args := #[x, y], argTypes := #[t, t'] }) (hd : o.dst = some d) (hg : o.guard = none) (ht : P.underlying t = some (.slice e)) (he : elS P e (k.getD 1) bytes z)
    (hi : B[i0]? = some ⟨b,e,some nn,ROWS k (xs.map T)⟩) (hx : a.eval x = .slice (some ⟨b,0,none⟩) n cp) (hnn : n = xs.length) (hy : (LS k (ys.map T)).t (a.eval y) G) (hdN : (decide (d < N)) = true) (hf : fresh d L = true)
    (K : ∀ a' w' G',St W0 G0 N ((d,.ex (nv .i64 (Nat.min ys.length n))) :: L) (B.set i0 ⟨b,e,some nn,ROWS k ((ys.take n ++ xs.drop ys.length).map T)⟩) a' w' G' → wpList P ops Q rest a' w') : wpList P ops Q (o :: rest) a w :=
  S.copyS i0 ho hd hg ht he hi hx (by rw [List.length_map];exact hnn) hy hdN hf (by
    rw [List.length_map,← List.map_take,← List.map_drop,← List.map_append];exact K)
theorem ROWS.sl {b n c : Nat} {ty : TypeId} {u : Value} (h : (ROWS k τs).t u G) (hg : G b = some (.cells u.cells ty (0,0))) (hn : n = τs.length) (hc : n ≤ c) (hlim : n ≤ LIM) (hv : v = .slice (some ⟨b,0,none⟩) n c) : (LS k τs).t v G:=by
  obtain ⟨us,r,rfl,hE⟩:=h
  subst hn
  exact LS.of_vals hv hc hlim hE (Lies.block hE.sizes hg)
end
end Go.Proofs.YtboicjlbbbodgaaGreatDoor
namespace Go.Proofs.YtboicjlbbbodgaaGreatDoor
open Go.RowKit (Below)
def QV (n : Nat) (x : Rat) : MT:=⟨fun v G=>1 ≤ n ∧ ∃ s p q,qval s p q = x ∧ val p < 2 ^ n ∧ val q < 2 ^ n ∧ (QR s p q).t v G,fun hle ⟨h,s,p,q,h1,h2,h3,h4⟩=>⟨h,s,p,q,h1,h2,h3,(QR s p q).mono hle h4⟩⟩
instance {n : Nat} {x : Rat} : Shp (QV n x) (some 3):=⟨fun {_ _} ⟨_,_,_,_,_,_,_,h⟩=>Shp.sh h⟩
def cmpQ (x y : Rat) : Int:=if x < y then -1 else if y < x then 1 else 0
section
variable {v : Value} {G : Gh} {n n' m : Nat} {z z' : Int} {x y x' : Rat} {s b : Bool} {p q l : List Nat}
theorem one_le_of_lt {d n : Nat} (hd : d ≠ 0) (h : d < 2 ^ n) : 1 ≤ n:=by
  rcases Nat.eq_zero_or_pos n with e | e
  · subst e;simp at h;omega
  · exact e
theorem one_lt_pow {n : Nat} (h : 1 ≤ n) : 1 < 2 ^ n:=Nat.lt_of_lt_of_le (by decide : 1 < 2 ^ 1) (Nat.pow_le_pow_right (by decide) h)
theorem sgn_dec {z : Int} : decide (z.sign < 0) = decide (z < 0):=by have:=sgn_cases z;rw [Bool.eq_iff_iff];simp only [decide_eq_true_eq];omega
theorem QC.toQV (h : (QC n x).t v G) : (QV n x).t v G:=by
  have h1:=h.1
  refine ⟨one_le_of_lt x.den_nz h1.2,_,_,_,qval_can x,by rw [val_words];exact h1.1,?_,h.2⟩
  unfold dwords;split
  · exact Nat.pow_pos (by decide)
  · rw [val_words];exact h1.2
theorem QV.up (h : (QV n x).t v G) (hn : n ≤ n') : (QV n' x).t v G:=by
  obtain ⟨h0,s,p,q,h1,h2,h3,h4⟩:=h
  have:=Nat.pow_le_pow_right (show 0 < 2 by decide) hn
  exact ⟨by omega,s,p,q,h1,by omega,by omega,h4⟩
theorem QV.eq (h : (QV n x).t v G) (e : x = x') : (QV n x').t v G:=e ▸ h
theorem WC.cast (h : (WC n z).t v G) (e : z = z') (hm : z'.natAbs < 2 ^ n') : (WC n' z').t v G:=⟨hm,e ▸ h.2⟩
theorem WC.f0 {k : Option Nat} (h : (WC n z).t v G) (hs : Shaped k v) : ∃ u,v.cells[0]? = some u ∧ (MT.ex (.bool (decide (z < 0)))).t u G:=WR.f0 h.2 hs
theorem WC.f1 {k : Option Nat} (h : (WC n z).t v G) (hs : Shaped k v) : ∃ u,v.cells[1]? = some u ∧ (SL (words z.natAbs)).t u G:=WR.f1 h.2 hs
theorem QR.lim (h : (QR s p q).t v G) : p.length ≤ LIM ∧ q.length ≤ LIM:=by obtain ⟨_,_,_,h1,h2⟩:=h;exact ⟨SL.lim h1,SL.lim h2⟩
theorem QR.wf (h : (QR s p q).t v G) : wfl p ∧ wfl q:=by obtain ⟨_,_,_,h1,h2⟩:=h;exact ⟨SL.wf h1,SL.wf h2⟩
theorem qok_nil (h : p.length = 0) (h2 : q.length = 0) : (!s) = qok s p q:=by
  have e1:=List.length_eq_zero_iff.1 h;have e2:=List.length_eq_zero_iff.1 h2
  subst e1 e2;simp [qok]
theorem ne_of_len (h : ¬ l.length = 0) : l ≠ []:=fun e=>h (by rw [e];rfl)
theorem wok_f (l : List Nat) : wok false l = (if l = [] then true else canl l):=by unfold wok;rfl
theorem qok_f1 (h : (p.length = 0 ∨ q.length = 0) ∧ ¬ (p.length = 0 ∧ q.length = 0)) : false = qok s p q:=by
  unfold qok
  rw [if_neg (fun e=>h.2 ⟨by rw [e.1];rfl,by rw [e.2];rfl⟩)]
  rcases h.1 with e | e
  · simp [List.length_eq_zero_iff.1 e]
  · simp [List.length_eq_zero_iff.1 e]
theorem qok_f2 (h : (!wok false p) = true) : false = qok s p q:=by
  rw [wok_f] at h
  by_cases e : p = []
  · simp [e] at h
  · simp [e] at h;unfold qok;rw [if_neg (fun e2=>e e2.1)];simp [h]
theorem qok_f3 (h : (!wok false q) = true) : false = qok s p q:=by
  rw [wok_f] at h
  by_cases e : q = []
  · simp [e] at h
  · simp [e] at h;unfold qok;rw [if_neg (fun e2=>e e2.2)];simp [h]
theorem wval_f (h : (!wok false l) = false) : (wval false l).natAbs = val l:=by unfold wval;rw [not_false_of h];simp
theorem cmpZ_eq {a b : Int} : cmpZ a b = 0 ↔ a = b:=by unfold cmpZ;split <;> (try split) <;> omega
theorem qok_t (h1 : ¬ p.length = 0) (h2 : ¬ q.length = 0) (h3 : (!wok false p) = false) (h4 : (!wok false q) = false) : decide (cmpZ ((Nat.gcd (wval false p).natAbs (wval false q).natAbs : Nat) : Int) 1 = 0) = qok s p q:=by
  have e3:=not_false_of h3;have e4:=not_false_of h4
  rw [wok_f,if_neg (ne_of_len h1)] at e3
  rw [wok_f,if_neg (ne_of_len h2)] at e4
  rw [wval_f h3,wval_f h4]
  unfold qok
  rw [if_neg (fun e=>ne_of_len h1 e.1)]
  simp only [ne_of_len h1,ne_of_len h2,e3,e4,ne_eq,not_false_eq_true,decide_true,Bool.and_true,Bool.true_and]
  rw [Bool.eq_iff_iff]
  simp only [decide_eq_true_eq,beq_iff_eq,cmpZ_eq]
  omega
theorem qval_not (h : qok s p q = false) : qval s p q = 0:=by unfold qval;rw [h];simp
theorem qval_nil (h : p.length = 0) : qval s p q = 0:=by unfold qval;rw [List.length_eq_zero_iff.1 h];simp
theorem qval_parts (hw : wfl p ∧ wfl q) (hok : qok s p q = true) (hp : ¬ p.length = 0) : q ≠ [] ∧ canl p = true ∧ canl q = true ∧ (qval s p q).num = sg s (val p) ∧ (qval s p q).den = val q:=by
  have hp':=ne_of_len hp
  have h:=hok
  unfold qok at h
  rw [if_neg (fun e=>hp' e.1)] at h
  simp only [Bool.and_eq_true,decide_eq_true_eq,beq_iff_eq] at h
  obtain ⟨⟨⟨⟨_,h2⟩,h3⟩,h4⟩,h5⟩:=h
  have hq0 : val q ≠ 0:=fun e=>h2 (val_eq_zero h4 e)
  refine ⟨h2,h3,h4,?_,?_⟩ <;> unfold qval <;> rw [if_pos ⟨hok,hp'⟩]
  · rw [Rat.num_mkRat,if_neg hq0]
    have : Nat.gcd (val q) (if s = true then -(val p : Int) else val p).natAbs = 1:=by
      rw [Nat.gcd_comm];cases s <;> simpa using h5
    unfold sg
    rw [this];simp
  · rw [Rat.den_mkRat,if_neg hq0]
    have : Nat.gcd (val q) (if s = true then -(val p : Int) else val p).natAbs = 1:=by
      rw [Nat.gcd_comm];cases s <;> simpa using h5
    rw [this];simp
theorem sg_abs {m : Nat} : (sg s m).natAbs = m:=by unfold sg;split <;> simp
theorem frac_zero {a b : Int} (h : a.sign = 0) : Rat.divInt a b = 0:=by
  have : a = 0:=by have:=sgn_cases a;omega
  subst this;exact Rat.zero_divInt b
theorem QC.zero (h : (QR false [] []).t v G) (e : x = 0) (hn : 1 ≤ n) : (QC n x).t v G:=by
  subst e
  refine ⟨⟨Nat.pow_pos (by decide),?_⟩,?_⟩
  · show 1 < 2 ^ n
    exact Nat.lt_of_lt_of_le (by decide) (Nat.pow_le_pow_right (show 0 < 2 by decide) hn)
  · simpa [dwords,words_zero,show (0 : Rat).num = 0 from rfl] using h
theorem frac_num {a b : Int} (hb : b ≠ 0) : (Rat.divInt a b).num.natAbs = a.natAbs / Nat.gcd a.natAbs b.natAbs:=by
  rw [Rat.num_divInt]
  have hd : ((b.gcd a : Nat) : Int) ∣ b.sign * a:=Int.dvd_mul_of_dvd_right (Int.gcd_dvd_right _ _)
  rw [Int.natAbs_ediv_of_dvd hd,Int.natAbs_mul,Int.natAbs_natCast]
  have : b.sign.natAbs = 1:=by rcases sgn_cases b with h | h | h <;> omega
  rw [this,Nat.one_mul,Int.gcd,Nat.gcd_comm]
theorem frac_den {a b : Int} (hb : b ≠ 0) : (Rat.divInt a b).den = b.natAbs / Nat.gcd a.natAbs b.natAbs:=by
  rw [Rat.den_divInt,if_neg hb,Int.gcd,Nat.gcd_comm]
theorem frac_neg {a b : Int} (ha : a ≠ 0) (hb : b ≠ 0) : Rat.divInt a b < 0 ↔ (if b < 0 then -a else a) < 0:=by
  rw [← num_neg_iff,Rat.num_divInt]
  have hd : ((b.gcd a : Nat) : Int) ∣ b.sign * a:=Int.dvd_mul_of_dvd_right (Int.gcd_dvd_right _ _)
  have hg : 0 < ((b.gcd a : Nat) : Int):=by have:=Int.gcd_pos_of_ne_zero_left a hb;omega
  obtain ⟨c,hc⟩:=hd
  rw [hc,Int.mul_ediv_cancel_left _ (by omega)]
  have e : (if b < 0 then -a else a) = b.sign * a:=by
    rcases sgn_cases b with h | h | h
    · rw [if_pos h.1,h.2];omega
    · exact absurd h.1 hb
    · rw [if_neg (by omega),h.2];omega
  rw [e,hc]
  constructor
  · intro h;exact Int.mul_neg_of_pos_of_neg hg h
  · intro h;exact Int.not_le.1 fun h2=>absurd (Int.mul_nonneg (Int.le_of_lt hg) h2) (Int.not_le.2 h)
theorem frac_mul : Rat.divInt (x.num * y.num) ((x.den : Int) * (y.den : Int)) = x * y:=by
  rw [← Rat.divInt_mul_divInt,Rat.num_divInt_den,Rat.num_divInt_den]
theorem den_ne (x : Rat) : (x.den : Int) ≠ 0:=by have:=x.den_nz;omega
theorem frac_add : Rat.divInt (x.num * (y.den : Int) + y.num * (x.den : Int)) ((x.den : Int) * (y.den : Int)) = x + y:=by
  rw [← Rat.divInt_add_divInt _ _ (den_ne x) (den_ne y),Rat.num_divInt_den,Rat.num_divInt_den]
theorem frac_neg' : Rat.divInt (-x.num) (x.den : Int) = -x:=by rw [← Rat.neg_divInt,Rat.num_divInt_den]
theorem frac_one {a : Int} : Rat.divInt a 1 = (a : Rat):=by
  have:=Rat.num_divInt_den (a : Rat)
  simpa using this
theorem cmp_frac : cmpZ (x.num * (y.den : Int)) (y.num * (x.den : Int)) = cmpQ x y:=by
  unfold cmpZ cmpQ
  simp only [Rat.lt_iff]
def minQ (x y : Rat) : Rat:=if x ≤ y then x else y
def maxQ (x y : Rat) : Rat:=if y ≤ x then x else y
end
end Go.Proofs.YtboicjlbbbodgaaGreatDoor
namespace Go.Proofs.YtboicjlbbbodgaaGreatDoor
open Go.RowKit (Below)
structure FR where
  s : Bool
  p : List Nat
  q : List Nat
instance : Inhabited FR:=⟨⟨false,[],[]⟩⟩
def FR.ok (r : FR) : Bool:=qok r.s r.p r.q
def FR.val (r : FR) : Rat:=qval r.s r.p r.q
def FX (n : Nat) (r : FR) : MT:=⟨fun v G=>1 ≤ n ∧ Go.Proofs.YtboicjlbbbodgaaGreatDoor.val r.p < 2 ^ n ∧ Go.Proofs.YtboicjlbbbodgaaGreatDoor.val r.q < 2 ^ n ∧ (QR r.s r.p r.q).t v G,fun hle ⟨h,h1,h2,h3⟩=>⟨h,h1,h2,(QR _ _ _).mono hle h3⟩⟩
instance {n : Nat} {r : FR} : Shp (FX n r) (some 3):=⟨fun {_ _} ⟨_,_,_,h⟩=>Shp.sh h⟩
section
variable {n m : Nat} {r : FR} {x y : Rat} {v : Value} {G : Gh}
theorem FX.toQV (h : (FX n r).t v G) : (QV n r.val).t v G:=by obtain ⟨h1,h2,h3,h4⟩:=h;exact ⟨h1,_,_,_,rfl,h2,h3,h4⟩
theorem FX.up (h : (FX n r).t v G) (hn : n ≤ m) : (FX m r).t v G:=by
  obtain ⟨h1,h2,h3,h4⟩:=h
  have:=Nat.pow_le_pow_right (show 0 < 2 by decide) hn
  exact ⟨by omega,by omega,by omega,h4⟩
theorem FX.eq {r' : FR} (h : (FX n r).t v G) (e : r = r') : (FX n r').t v G:=e ▸ h
theorem FX.qr (h : (FX n r).t v G) : (QR r.s r.p r.q).t v G:=h.2.2.2
theorem FX.f0 {k : Option Nat} (h : (FX n r).t v G) (hs : Shaped k v) : ∃ u,v.cells[0]? = some u ∧ (MT.ex (.bool r.s)).t u G:=QR.f0 (FX.qr h) hs
theorem FX.f1 {k : Option Nat} (h : (FX n r).t v G) (hs : Shaped k v) : ∃ u,v.cells[1]? = some u ∧ (SL r.p).t u G:=QR.f1 (FX.qr h) hs
theorem FX.f2 {k : Option Nat} (h : (FX n r).t v G) (hs : Shaped k v) : ∃ u,v.cells[2]? = some u ∧ (SL r.q).t u G:=QR.f2 (FX.qr h) hs
def FR.of (x : Rat) : FR:=⟨decide (x < 0),words x.num.natAbs,dwords x⟩
theorem QC.toFX (h : (QC n x).t v G) (hn : 1 ≤ n) : (FX n (FR.of x)).t v G:=by
  refine ⟨hn,?_,?_,h.2⟩
  · show Go.Proofs.YtboicjlbbbodgaaGreatDoor.val (words _) < _;rw [val_words];exact h.1.1
  · show Go.Proofs.YtboicjlbbbodgaaGreatDoor.val (dwords x) < _
    unfold dwords;split
    · exact Nat.pow_pos (by decide)
    · rw [val_words];exact h.1.2
theorem QR.toFX {s : Bool} {p q : List Nat} (h : (QR s p q).t v G) (h0 : p = [] ∧ q = []) (hn : 1 ≤ n) : (FX n ⟨s,p,q⟩).t v G:=by
  obtain ⟨rfl,rfl⟩:=h0
  exact ⟨hn,Nat.pow_pos (by decide),Nat.pow_pos (by decide),h⟩
theorem FR.of_val (x : Rat) : (FR.of x).val = x:=by
  show qval _ _ _ = x
  exact qval_can x
theorem FR.of_ok (x : Rat) : (FR.of x).ok = true:=qok_can x
theorem zero_FX (hn : 1 ≤ n) : (FX n default).t (.agg #[.bool false,.slice none 0 0,.slice none 0 0]) G:=⟨hn,Nat.pow_pos (by decide),Nat.pow_pos (by decide),_,_,rfl,SL.nil,SL.nil⟩
end
theorem LS.conv {k : Option Nat} {τs σs : List MT} {v : Value} {G : Gh} (h : (LS k τs).t v G) (hl : σs.length = τs.length) (hc : ∀ (i : Nat) (τ σ : MT),τs[i]? = some τ → σs[i]? = some σ → ∀ v G,τ.t v G → σ.t v G) : (LS k σs).t v G:=by
  obtain ⟨A,c,us,hx,h1,h2,h3,h4⟩:=LS.vals h
  refine LS.of_vals (by rw [hl];exact hx) (by omega) (by omega) ⟨by rw [h3.1,hl],fun i σ u hs hu=>?_⟩ h4
  have hlt:=(List.getElem?_eq_some_iff.1 hs).1
  have hτ : τs[i]? = some (τs[i]'(by omega)):=by simp
  obtain ⟨a1,a2⟩:=h3.2 i _ u hτ hu
  exact ⟨a1,hc i _ σ hτ hs u G a2⟩
theorem LS.convM {α β : Type} {T : α → MT} {U : β → MT} {f : α → β} {xs : List α} {ys : List β} {k : Option Nat} {v : Value} {G : Gh} (h : (LS k (xs.map T)).t v G) (e : ys = xs.map f) (hc : ∀ x,x ∈ xs → ∀ v G,(T x).t v G → (U (f x)).t v G) : (LS k (ys.map U)).t v G:=by
  subst e
  refine LS.conv h (by simp) fun i τ σ h1 h2=>?_
  rw [List.getElem?_map] at h1 h2
  rw [List.getElem?_map] at h2
  cases hx : xs[i]? with
  | none=>rw [hx] at h1;cases h1
  | some x=>rw [hx] at h1 h2;cases h1;cases h2;exact hc x (List.mem_of_getElem? hx)
theorem LS.lenM {α : Type} {T : α → MT} {xs : List α} {k : Option Nat} {v : Value} {G : Gh} (h : (LS k (xs.map T)).t v G) : xs.length ≤ LIM:=by
  obtain ⟨_,_,_,_,_,h2,_⟩:=LS.vals h;rwa [List.length_map] at h2
section
variable {P : Program} {o : Oper} {a : Act} {w : World} {G : Gh} {τ : MT}
theorem OpR.tass {x : Operand} {t0 t : TypeId} {n : Int} {k : IntKind} (hok : Gok w G) (ho : o.op = .typeAssert x t0 t true) (hx : a.eval x = errV t n) (hn : n ≠ 0) (hi : P.underlying t = some (.int k)) (h : τ.t (.tuple #[.int .i64 n,.bool true]) G) : OpR P o a w G τ:=by
  refine .run hok (v:=.tuple #[.int .i64 n,.bool true]) ?_ h
  rw [errV,if_neg hn] at hx
  simp [execOp,ho,hx,Instr.typeAssert,run_underlying hi]
end
end Go.Proofs.YtboicjlbbbodgaaGreatDoor
namespace Go.Proofs.YtboicjlbbbodgaaGreatDoor
open Go.RowKit (Below)
section
variable {P : Program} {o : Oper} {a : Act} {w : World} {G : Gh} {τ : MT}
theorem OpR.ixAr {x y : Operand} {t e : TypeId} {b n i : Nat} {m : Int} {k : IntKind} {s : Option Nat} (hok : Gok w G) (ho : o.op = .indexAddr t x y) (ht : P.underlying t = some (.array n e)) (hs : tyS P e s = true)
    (hx : a.eval x = .pointer (some ⟨b,0,none⟩)) (hy : a.eval y = .int k m) (hm : m = (i : Int)) (hi : i < n) (h : τ.t (.pointer (some ⟨b,i * s.getD 1,none⟩)) G) : OpR P o a w G τ:=by
  subst hm
  refine .run hok (v:=.pointer (some ⟨b,i * s.getD 1,none⟩)) ?_ h
  simp [execOp,ho,Instr.indexAt,Instr.sureAddr,hx,hy,asIntOf,run_underlying ht,tyS_size hs,addr_add,hi]
theorem OpR.slAr {x : Operand} {t e : TypeId} {b n : Nat} {s : Option Nat} (hok : Gok w G) (ho : o.op = .slice t x none none none) (ht : P.underlying t = some (.array n e)) (hs : tyS P e s = true)
    (hx : a.eval x = .pointer (some ⟨b,0,none⟩)) (hn : (decide (0 < n)) = true) (h : τ.t (.slice (some ⟨b,0,none⟩) n n) G) : OpR P o a w G τ:=by
  have hn:=of_decide_eq_true hn
  refine .run hok (v:=.slice (some ⟨b,0,none⟩) n n) ?_ h
  simp [execOp,ho,Instr.sliceAt,Instr.sureAddr,Instr.sliceBounds,Instr.sliceBound,hx,run_underlying ht,tyS_size hs,addr_add]
end
def ARN (k : Option Nat) (τs : List MT) : MT:=⟨fun v G=>∃ us,v = .agg (flat us).toArray ∧ Els k τs us G,fun hle ⟨us,h1,h2⟩=>⟨us,h1,h2.mono hle⟩⟩
section
variable {k : Option Nat} {τs : List MT} {v : Value} {G : Gh}
theorem ARN.shaped (h : (ARN k τs).t v G) : Shaped (some (τs.length * k.getD 1)) v:=by
  obtain ⟨us,rfl,hE⟩:=h
  exact ⟨_,rfl,by show (flat us).length = _;rw [flat_len hE.sizes,hE.1],flat_one hE.shaped⟩
instance : Shp (ARN k τs) (some (τs.length * k.getD 1)):=⟨fun {_ _} h=>ARN.shaped h⟩
theorem ARN.rows (h : (ARN k τs).t v G) : (ROWS k τs).t v G:=by
  obtain ⟨us,rfl,hE⟩:=h
  exact ⟨us,[],by rw [List.append_nil],hE⟩
theorem ROWS.arn {n : Nat} (h : (ROWS k τs).t v G) (hs : Shaped (some n) v) (hn : τs.length * k.getD 1 = n) : (ARN k τs).t v G:=by
  obtain ⟨us,r,rfl,hE⟩:=h
  obtain ⟨cs,e1,hsz,_⟩:=hs
  injection e1 with e1
  have : (flat us ++ r).length = n:=by rw [← hsz,← e1];simp
  rw [List.length_append,flat_len hE.sizes,hE.1,hn] at this
  have hr : r = []:=List.length_eq_zero_iff.1 (by omega)
  subst hr
  exact ⟨us,by rw [List.append_nil],hE⟩
theorem PTS.arn (h : (PTS (τs.map fun τ=>(k,τ))).t v G) : (ARN k τs).t v G:=by
  obtain ⟨us,rfl,hl,hE⟩:=h
  refine ⟨us,rfl,by simpa using hl,fun i τ u h1 h2=>hE i (k,τ) u (by rw [List.getElem?_map,h1];rfl) h2⟩
theorem ARN.convM {α β : Type} {T : α → MT} {U : β → MT} {f : α → β} {xs : List α} {ys : List β} (h : (ARN k (xs.map T)).t v G) (e : ys = xs.map f) (hc : ∀ x,x ∈ xs → ∀ v G,(T x).t v G → (U (f x)).t v G) : (ARN k (ys.map U)).t v G:=by
  subst e
  obtain ⟨us,rfl,hE⟩:=h
  refine ⟨us,rfl,by rw [hE.1];simp,fun i τ u h1 h2=>?_⟩
  rw [List.map_map,List.getElem?_map] at h1
  cases hx : xs[i]? with
  | none=>rw [hx] at h1;cases h1
  | some x =>
    rw [hx] at h1;cases h1
    have:=hE.2 i (T x) u (by rw [List.getElem?_map,hx];rfl) h2
    exact ⟨this.1,hc x (List.mem_of_getElem? hx) u G this.2⟩
end
end Go.Proofs.YtboicjlbbbodgaaGreatDoor
namespace Go.Proofs.YtboicjlbbbodgaaGreatDoor
open Go.RowKit (Below)
section
variable {P : Program} {W0 : World} {a : Act} {w : World} {G : Gh} {o : Oper}
theorem ARN.shN {k : Option Nat} {τs : List MT} {v : Value} {n : Nat} (h : (ARN k τs).t v G) (e : τs.length * k.getD 1 = n) : Shaped (some n) v:=e ▸ ARN.shaped h
theorem run_part {k : Option Nat} {t : TypeId} {us : List Value} {i : Nat} {u : Value} (hs : tyS P t k = true) (hE : ∀ v ∈ us,Shaped k v) (hi : us[i]? = some u) : (part t (flat us).toArray (i * k.getD 1)).run P w = .ok u w:=by
  have hsz : ∀ v ∈ us,v.cells.size = k.getD 1:=fun v hv=>shaped_size (hE v hv)
  have hu:=hE u (List.mem_of_getElem? hi)
  cases k with
  | none =>
    have h1:=flat_get (j:=0) hsz hi (by decide)
    have hc : u.cells = #[u]:=hu.1
    rw [hc] at h1
    have h2 : (flat us)[i]? = some u:=by simpa using h1
    simp [part,(tyS_none hs w).1,h2]
  | some n =>
    obtain ⟨cs,rfl,hn,_⟩:=hu
    have he : (flat us).toArray.extract (i * n) (i * n + n) = cs:=by
      have hil:=(List.getElem?_eq_some_iff.1 hi).1
      have hfl:=flat_len hsz
      have hle : (i + 1) * n ≤ us.length * n:=Nat.mul_le_mul_right n hil
      rw [Nat.add_mul,Nat.one_mul] at hle
      have hfl' : (flat us).length = us.length * n:=hfl
      apply Array.ext
      · simp;omega
      · intro j h1 h2
        have h3:=flat_get (j:=j) hsz hi (show j < n by omega)
        have h3' : (flat us)[i * n + j]? = cs[j]?:=h3
        rw [Array.getElem?_eq_getElem h2] at h3'
        have h4:=(List.getElem?_eq_some_iff.1 h3').2
        simpa using h4
    have he' : (List.take n (List.drop (i * n) (flat us))).toArray = cs:=by simpa using he
    simp [part,(tyS_some hs w).1,(tyS_some hs w).2,he']
theorem OpR.ixV {α : Type} [Inhabited α] {T : α → MT} {xs : List α} {kk : Option Nat} {x y : Operand} {t e : TypeId} {n i : Nat} {m : Int} {k : IntKind} (hok : Gok w G) (ho : o.op = .index t x y) (ht : P.underlying t = some (.array n e)) (hs : tyS P e kk = true)
    (hx : (ARN kk (xs.map T)).t (a.eval x) G) (hy : a.eval y = .int k m) (hm : m = (i : Int)) (hn : n = xs.length) (hi : i < n) : OpR P o a w G (T (xs.getD i default)):=by
  subst hm
  obtain ⟨us,hu,hE⟩:=hx
  have hl : us.length = n:=by rw [hE.1,List.length_map,hn]
  have hiu : i < us.length:=by omega
  have hE2:=hE.2 i (T (xs.getD i default)) us[i] (by rw [List.getElem?_map,List.getD_eq_getElem?_getD,List.getElem?_eq_getElem (by omega)];rfl) (List.getElem?_eq_getElem hiu)
  refine .run hok (v:=us[i]) ?_ hE2.2
  simp [execOp,ho,Instr.index,hu,hy,asIntOf,run_underlying ht,tyS_size hs,hi,run_part hs hE.shaped (List.getElem?_eq_getElem hiu)]
end
end Go.Proofs.YtboicjlbbbodgaaGreatDoor
namespace Go.Proofs.YtboicjlbbbodgaaGreatDoor
open Go.RowKit (Below)
section
variable {G : Gh}
end
section
variable {P : Program} {W0 w : World} {G0 G : Gh} {N : Nat} {L : List (Nat × MT)} {B : List BX} {a : Act} {o : Oper} {fn : Func} {τ : MT}
theorem run_eqI_nil (d : Nat) {t n : TypeId} {v : Value} (h : P.underlying t = some (.interface (P.methodsAt t))) : (Op.equalIn (d + 1) t .nilIface (.iface n v)).run P w = .ok false w:=by
  simp [Op.equalIn,run_underlying h]
theorem run_eqI_int (d : Nat) {n : TypeId} {k : IntKind} {z c : Int} (hu : P.underlying n = some (.int k)) : (Op.equalIn (d + 1) n (.int .i64 z) (.int .i64 c)).run P w = .ok (z == c) w:=by
  simp [Op.equalIn,run_underlying hu]
theorem run_eqI_held (d : Nat) {t n : TypeId} {i : TypeInfo} {k : IntKind} {z c : Int} (h : P.underlying t = some (.interface (P.methodsAt t))) (hi : P.info? n = some i) (hc : i.comparable = true) (hu : P.underlying n = some (.int k)) : (Op.equalIn (d + 1 + 1) t (.iface n (.int .i64 z)) (.iface n (.int .i64 c))).run P w = .ok (z == c) w:=by
  rw [Op.equalIn]
  simp [run_underlying h,typeInfo,hi,hc,run_eqI_int d hu]
theorem OpR.errEqI {x y : Operand} {t t' n : TypeId} {z c : Int} {i : TypeInfo} {k : IntKind} (hok : Gok w G) (ho : o.op = .binOp .eql t x y t') (ht : ifaceT P t) (hi : P.info? n = some i) (hc : i.comparable = true) (hu : P.underlying n = some (.int k))
    (hx : a.eval x = errV n z) (hy : a.eval y = .iface n (.int .i64 c)) (hc0 : c ≠ 0) (h : τ.t (.bool (decide (z = c))) G) : OpR P o a w G τ:=by
  refine .run hok (v:=.bool (decide (z = c))) ?_ h
  have ht' : P.underlying t = some (.interface (P.methodsAt t)):=ht
  by_cases hz : z = 0
  · have e1 : a.eval x = .nilIface:=by rw [hx];unfold errV;rw [if_pos hz]
    have e2 : decide (z = c) = false:=decide_eq_false (by omega)
    have e3 : (Op.equal t .nilIface (.iface n (.int .i64 c))).run P w = .ok false w:=run_eqI_nil 9999 ht'
    have e4 : (binOp .eql t .nilIface (.iface n (.int .i64 c))).run P w = .ok (.bool false) w:=by simp only [binOp];simp [e3]
    rw [e2]
    simp only [execOp,ho,e1,hy,eqGuard,Sem.run_bind];simp;rw [e4];rfl
  · have e1 : a.eval x = .iface n (.int .i64 z):=by rw [hx];unfold errV;rw [if_neg hz]
    have e2 : (z == c) = decide (z = c):=by rw [Bool.eq_iff_iff];simp
    have e3 : (Op.equal t (.iface n (.int .i64 z)) (.iface n (.int .i64 c))).run P w = .ok (z == c) w:=run_eqI_held 9998 ht' hi hc hu
    have e4 : (binOp .eql t (.iface n (.int .i64 z)) (.iface n (.int .i64 c))).run P w = .ok (.bool (z == c)) w:=by simp only [binOp];simp [e3]
    rw [← e2]
    simp only [execOp,ho,e1,hy,eqGuard,Sem.run_bind];simp;rw [e4];rfl
def CIR (x : Bool × Bool × Int) : MT:=PTS [(none,BT x.1),(none,BT x.2.1),(none,IT x.2.2)]
instance {x : Bool × Bool × Int} : Shp (CIR x) (some 3):=inferInstanceAs (Shp (PTS [(none,BT x.1),(none,BT x.2.1),(none,IT x.2.2)]) (some 3))
theorem CIR.val {x : Bool × Bool × Int} {v : Value} (h : (CIR x).t v G) : v = .agg #[.bool x.1,.bool x.2.1,.int .i64 x.2.2]:=by
  obtain ⟨us,rfl,hl,hE⟩:=h
  match us,hl,hE with
  | [u0,u1,u2],_,hE =>
    obtain ⟨a0,b0⟩:=hE 0 _ u0 rfl rfl
    obtain ⟨a1,b1⟩:=hE 1 _ u1 rfl rfl
    obtain ⟨a2,b2⟩:=hE 2 _ u2 rfl rfl
    have e0 : u0 = .bool x.1:=b0
    have e1 : u1 = .bool x.2.1:=b1
    have e2 : u2 = .int .i64 x.2.2:=b2
    subst e0;subst e1;subst e2
    rfl
theorem run_part1 {t : TypeId} {cs : Array Value} {i : Nat} {v : Value} (hs : tyS P t none = true) (hv : cs[i]? = some v) : (part t cs i).run P w = .ok v w:=by
  simp [part,(tyS_none hs w).1,hv]
theorem run_cir (d : Nat) {t : TypeId} {f0 f1 f2 : Field} {x0 x1 y0 y1 : Bool} {x2 y2 : Int} (hu : P.underlying t = some (.struct #[f0, f1, f2])) (hs : P.stoodInHeld t = false) (hn : (f0.name ≠ "_" ∧ f1.name ≠ "_") ∧ f2.name ≠ "_") (ho : f0.offset = 0 ∧ f1.offset = 1 ∧ f2.offset = 2)
    (s0 : tyS P f0.type none = true) (s1 : tyS P f1.type none = true) (s2 : tyS P f2.type none = true) (u0 : P.underlying f0.type = some .bool) (u1 : P.underlying f1.type = some .bool) (u2 : P.underlying f2.type = some (.int .i64)) :
    (Op.equalIn (d + 1 + 1) t (.agg #[.bool x0,.bool x1,.int .i64 x2]) (.agg #[.bool y0,.bool y1,.int .i64 y2])).run P w = .ok (decide ((x0,x1,x2) = (y0,y1,y2))) w:=by
  have p0 : ∀ {r s u : Value},(part f0.type #[r,s,u] f0.offset).run P w = .ok r w:=run_part1 s0 (by rw [ho.1];rfl)
  have p1 : ∀ {r s u : Value},(part f1.type #[r,s,u] f1.offset).run P w = .ok s w:=run_part1 s1 (by rw [ho.2.1];rfl)
  have p2 : ∀ {r s u : Value},(part f2.type #[r,s,u] f2.offset).run P w = .ok u w:=run_part1 s2 (by rw [ho.2.2];rfl)
  have q0 : (Op.equalIn (d + 1) f0.type (.bool x0) (.bool y0)).run P w = .ok (x0 == y0) w:=by simp [Op.equalIn,run_underlying u0]
  have q1 : (Op.equalIn (d + 1) f1.type (.bool x1) (.bool y1)).run P w = .ok (x1 == y1) w:=by simp [Op.equalIn,run_underlying u1]
  have q2 : (Op.equalIn (d + 1) f2.type (.int .i64 x2) (.int .i64 y2)).run P w = .ok (x2 == y2) w:=run_eqI_int d u2
  rw [Op.equalIn]
  simp [run_underlying hu,hs,hn.1.1,hn.1.2,hn.2,p0,p1,p2,q0,q1,q2]
  by_cases e0 : x0 = y0 <;> by_cases e1 : x1 = y1 <;> by_cases e2 : x2 = y2 <;> simp [e0,e1,e2]
theorem OpR.cirNeq {X Y : Operand} {t t' : TypeId} {f0 f1 f2 : Field} {x y : Bool × Bool × Int} (hok : Gok w G) (ho : o.op = .binOp .neq t X Y t') (hu : P.underlying t = some (.struct #[f0, f1, f2])) (hs : P.stoodInHeld t = false) (hg : P.eqGuardType P.depth t = false)
    (hf : (f0.name != "_" && f1.name != "_" && f2.name != "_") = true ∧ (f0.offset = 0 ∧ f1.offset = 1 ∧ f2.offset = 2) ∧ tyS P f0.type none = true ∧ tyS P f1.type none = true ∧ tyS P f2.type none = true ∧ P.underlying f0.type = some .bool ∧ P.underlying f1.type = some .bool ∧ P.underlying f2.type = some (.int .i64))
    (hx : (CIR x).t (a.eval X) G) (hy : (CIR y).t (a.eval Y) G) (h : τ.t (.bool (decide (x ≠ y))) G) : OpR P o a w G τ:=by
  obtain ⟨hn,⟨o0,o1,o2⟩,s0,s1,s2,u0,u1,u2⟩:=hf
  refine .run hok (v:=.bool (decide (x ≠ y))) ?_ h
  simp only [Bool.and_eq_true,bne_iff_ne] at hn
  obtain ⟨x0,x1,x2⟩:=x
  obtain ⟨y0,y1,y2⟩:=y
  have ex:=CIR.val hx
  have ey:=CIR.val hy
  simp only at ex ey
  have he : (Op.equal t (a.eval X) (a.eval Y)).run P w = .ok (decide ((x0,x1,x2) = (y0,y1,y2))) w:=by
    rw [ex,ey]
    exact run_cir 9998 hu hs hn ⟨o0,o1,o2⟩ s0 s1 s2 u0 u1 u2
  have e4 : (binOp .neq t (a.eval X) (a.eval Y)).run P w = .ok (.bool (decide ((x0,x1,x2) ≠ (y0,y1,y2)))) w:=by
    rw [ex,ey] at he ⊢
    simp only [binOp];simp [he]
  rw [ex,ey] at e4
  simp only [execOp,ho,ex,ey,eqGuard,Sem.run_bind]
  simp [hg]
  rw [e4];simp
end
end Go.Proofs.YtboicjlbbbodgaaGreatDoor
namespace Go.Proofs.YtboicjlbbbodgaaGreatDoor
open Go.RowKit (Below)
def GD (b pol : Bool) (τ : MT) : MT:=⟨fun v G=>(b = pol → τ.t v G) ∧ (b ≠ pol → v = undef),fun hle h=>⟨fun hg=>τ.mono hle (h.1 hg),h.2⟩⟩
def GI (b pol : Bool) (p : Prop) : Prop:=b = pol → p
theorem GI.i {b pol : Bool} {p : Prop} (h : b = pol → p) : GI b pol p:=h
def Env (L : List (Nat × MT)) (u : List Nat) (a : Act) (G : Gh) : Prop:=∀ t τ,t ∈ u → (t,τ) ∈ L → τ.t (tm a t) G
theorem Env.l {L : List (Nat × MT)} {u v : List Nat} {a : Act} {G : Gh} (h : Env L (u ++ v) a G) : Env L u a G:=fun t τ ht=>h t τ (List.mem_append_left _ ht)
theorem Env.r {L : List (Nat × MT)} {u v : List Nat} {a : Act} {G : Gh} (h : Env L (u ++ v) a G) : Env L v a G:=fun t τ ht=>h t τ (List.mem_append_right _ ht)
def Bku (B : List BX) (u : List Nat) (W0 w : World) (G : Gh) : Prop:=∀ i x,1000000 + i ∈ u → B[i]? = some x → x.ok W0 w G
theorem Bku.l {B : List BX} {u v : List Nat} {W0 w : World} {G : Gh} (h : Bku B (u ++ v) W0 w G) : Bku B u W0 w G:=fun i x hi=>h i x (List.mem_append_left _ hi)
class Lk (L : List (Nat × MT)) (t : Nat) (τ : outParam MT) : Prop where
  m : (t,τ) ∈ L
instance (priority:=500) Lk.tl {p : Nat × MT} {L : List (Nat × MT)} {t : Nat} {τ : MT} [h : Lk L t τ] : Lk (p :: L) t τ:=⟨.tail _ h.m⟩
instance Lk.hd {L : List (Nat × MT)} {t : Nat} {τ : MT} : Lk ((t,τ) :: L) t τ:=⟨.head _⟩
class Opd (L : List (Nat × MT)) (x : Operand) (τ : outParam MT) (u : outParam (List Nat)) : Prop where
  h : ∀ {a : Act} {G : Gh},Env L u a G → τ.t (a.eval x) G
instance Opd.tmp {L : List (Nat × MT)} {t : Nat} {τ : MT} [h : Lk L t τ] : Opd L (.tmp t) τ [t]:=⟨fun e=>e t τ (by simp) h.m⟩
instance Opd.const {L : List (Nat × MT)} {v : Value} : Opd L (.const v) (.ex v) []:=⟨fun _=>rfl⟩
class OpdG (L : List (Nat × MT)) (x : Operand) (b pol : Bool) (τ : outParam MT) (u : outParam (List Nat)) : Prop where
  h : ∀ {a : Act} {G : Gh},Env L u a G → b = pol → τ.t (a.eval x) G
instance (priority:=500) OpdG.of {L : List (Nat × MT)} {x : Operand} {b pol : Bool} {τ : MT} {u : List Nat} [h : Opd L x τ u] : OpdG L x b pol τ u:=⟨fun e _=>h.h e⟩
instance OpdG.g {L : List (Nat × MT)} {x : Operand} {b pol : Bool} {τ : MT} {u : List Nat} [h : Opd L x (GD b pol τ) u] : OpdG L x b pol τ u:=⟨fun e hb=>(h.h e).1 hb⟩
class Bx (B : List BX) (b : Nat) (i : outParam Nat) (ty : outParam TypeId) (k : outParam (Option Nat)) (τ : outParam MT) : Prop where
  m : B[i]? = some ⟨b,ty,k,τ⟩
instance (priority:=500) Bx.tl {x : BX} {B : List BX} {b i : Nat} {ty : TypeId} {k : Option Nat} {τ : MT} [h : Bx B b i ty k τ] : Bx (x :: B) b (i + 1) ty k τ:=⟨h.m⟩
instance Bx.hd {B : List BX} {b : Nat} {ty : TypeId} {k : Option Nat} {τ : MT} : Bx (⟨b,ty,k,τ⟩ :: B) b 0 ty k τ:=⟨rfl⟩
class TyS (P : Program) (t : TypeId) (k : outParam (Option Nat)) : Prop where
  h : tyS P t k = true
class FO (P : Program) (s f : Nat) (off : outParam Nat) : Prop where
  h : fldOff P s f = some off
class Und (P : Program) (t : TypeId) (d : outParam TypeDesc) : Prop where
  h : P.underlying t = some d
class Ifc (P : Program) (t : TypeId) : Prop where
  h : ifaceT P t
class NIf (P : Program) (t : TypeId) : Prop where
  h : (match P.underlying t with | some (.interface _)=>false | some _=>true | none=>false) = true
class ErI (P : Program) (n : TypeId) : Prop where
  h : ∃ i k,P.info? n = some i ∧ i.comparable = true ∧ P.underlying n = some (.int k)
theorem ErI.of {P : Program} {n : TypeId} {k : IntKind} (h1 : (P.info? n).map (·.comparable) = some true) (h2 : P.underlying n = some (.int k)) : ErI P n:=⟨by
  cases hi : P.info? n with
  | none=>rw [hi] at h1;cases h1
  | some i=>rw [hi] at h1;exact ⟨i,k,rfl,by simpa using h1,h2⟩⟩
class NZ (k : Option Nat) : Prop where
  h : k ≠ some 0
instance NZ.n : NZ none:=⟨by simp⟩
instance NZ.s {n : Nat} : NZ (some (n + 1)):=⟨by simp⟩
class Prt (τb : MT) (i : Nat) (kt : Option Nat) (τ : outParam MT) : Prop where
  h : ∀ {v : Value} {k : Option Nat} {G : Gh},τb.t v G → Shaped k v → ∃ u,Shaped kt u ∧ τ.t u G ∧ ∀ j x,u.cells[j]? = some x → v.cells[i + j]? = some x
def PF (fs : List (Option Nat × MT)) (us : List Value) (G : Gh) : Prop:=us.length = fs.length ∧ ∀ (i : Nat) (f : Option Nat × MT) (u : Value),fs[i]? = some f → us[i]? = some u → Shaped f.1 u ∧ f.2.t u G
class PrtL (fs : List (Option Nat × MT)) (i : Nat) (kt : Option Nat) (τ : outParam MT) : Prop where
  h : ∀ {us : List Value} {G : Gh},PF fs us G → ∃ u,Shaped kt u ∧ τ.t u G ∧ ∀ j x,u.cells[j]? = some x → (flat us)[i + j]? = some x
theorem PF.cons {k : Option Nat} {τ : MT} {fs : List (Option Nat × MT)} {us : List Value} {G : Gh} (h : PF ((k,τ) :: fs) us G) : ∃ u us',us = u :: us' ∧ Shaped k u ∧ τ.t u G ∧ PF fs us' G:=by
  obtain ⟨h1,h2⟩:=h
  match us,h1 with
  | u :: us',h1=>exact ⟨u,us',rfl,(h2 0 _ u rfl rfl).1,(h2 0 _ u rfl rfl).2,by simpa using h1,fun i f x hf hx=>h2 (i + 1) f x hf hx⟩
theorem flat_cns {u : Value} {us : List Value} : flat (u :: us) = u.cells.toList ++ flat us:=rfl
theorem PrtL.skip {k : Option Nat} {τ' : MT} {fs : List (Option Nat × MT)} {i j : Nat} {kt : Option Nat} {τ : MT} (h : PrtL fs i kt τ) (e : j = i + k.getD 1) : PrtL ((k,τ') :: fs) j kt τ:=⟨fun hp=>by
  obtain ⟨u,us',rfl,hs,_,hp'⟩:=hp.cons
  obtain ⟨x,h1,h2,h3⟩:=h.h hp'
  refine ⟨x,h1,h2,fun m y hm=>?_⟩
  have:=h3 m y hm
  have hsz : u.cells.toList.length = k.getD 1:=by simpa using shaped_size hs
  rw [flat_cns,List.getElem?_append_right (by omega),hsz]
  rw [← this];congr 1;omega⟩
instance PrtL.hd {k : Option Nat} {τ : MT} {fs : List (Option Nat × MT)} : PrtL ((k,τ) :: fs) 0 k τ:=⟨fun hp=>by
  obtain ⟨u,us',rfl,hs,ht,_⟩:=hp.cons
  refine ⟨u,hs,ht,fun m y hm=>?_⟩
  have hm' : u.cells.toList[m]? = some y:=by simpa using hm
  have hl : m < u.cells.toList.length:=(List.getElem?_eq_some_iff.1 hm').1
  rw [flat_cns,Nat.zero_add,List.getElem?_append_left hl];exact hm'⟩
instance (priority:=700) PrtL.inn {k : Option Nat} {gs fs : List (Option Nat × MT)} {i : Nat} {kt : Option Nat} {τ : MT} [h : PrtL gs i kt τ] : PrtL ((k,PTS gs) :: fs) i kt τ:=⟨fun hp=>by
  obtain ⟨u,us',rfl,hs,ht,_⟩:=hp.cons
  obtain ⟨vs,rfl,hl,hE⟩:=ht
  obtain ⟨x,h1,h2,h3⟩:=h.h ⟨hl,hE⟩
  refine ⟨x,h1,h2,fun m y hm=>?_⟩
  have h4:=h3 m y hm
  have hlt : i + m < (flat vs).length:=(List.getElem?_eq_some_iff.1 h4).1
  rw [flat_cns,List.getElem?_append_left (by simpa [Value.cells] using hlt)]
  simpa [Value.cells] using h4⟩
instance (priority:=500) PrtL.s1 {τ' : MT} {fs : List (Option Nat × MT)} {i : Nat} {kt : Option Nat} {τ : MT} [h : PrtL fs i kt τ] : PrtL ((none,τ') :: fs) (i + 1) kt τ:=h.skip rfl
instance (priority:=500) PrtL.s2 {τ' : MT} {fs : List (Option Nat × MT)} {i : Nat} {kt : Option Nat} {τ : MT} [h : PrtL fs i kt τ] : PrtL ((some 2,τ') :: fs) (i + 2) kt τ:=h.skip rfl
instance (priority:=500) PrtL.s3 {τ' : MT} {fs : List (Option Nat × MT)} {i : Nat} {kt : Option Nat} {τ : MT} [h : PrtL fs i kt τ] : PrtL ((some 3,τ') :: fs) (i + 3) kt τ:=h.skip rfl
instance (priority:=500) PrtL.s4 {τ' : MT} {fs : List (Option Nat × MT)} {i : Nat} {kt : Option Nat} {τ : MT} [h : PrtL fs i kt τ] : PrtL ((some 4,τ') :: fs) (i + 4) kt τ:=h.skip rfl
instance (priority:=500) PrtL.s6 {τ' : MT} {fs : List (Option Nat × MT)} {i : Nat} {kt : Option Nat} {τ : MT} [h : PrtL fs i kt τ] : PrtL ((some 6,τ') :: fs) (i + 6) kt τ:=h.skip rfl
instance (priority:=800) Prt.pts {fs : List (Option Nat × MT)} {i : Nat} {kt : Option Nat} {τ : MT} [h : PrtL fs i kt τ] : Prt (PTS fs) i kt τ:=⟨fun ht _=>by
  obtain ⟨us,rfl,h1,h2⟩:=ht
  obtain ⟨u,a1,a2,a3⟩:=h.h ⟨h1,h2⟩
  exact ⟨u,a1,a2,fun j x hx=>by have:=a3 j x hx;simpa [Value.cells] using this⟩⟩
instance Prt.whole {τ : MT} {k : Option Nat} [s : Shp τ k] : Prt τ 0 k τ:=⟨fun ht _=>⟨_,s.sh ht,ht,fun j x hx=>by rw [Nat.zero_add];exact hx⟩⟩
class Op1 (P : Program) (L : List (Nat × MT)) (B : List BX) (op : Op) (pre : outParam Prop) (τ : outParam MT) (u : outParam (List Nat)) : Prop where
  ok : ∀ {W0 w : World} {a : Act} {G : Gh} {o : Oper},o.op = op → Gok w G → Env L u a G → Bku B u W0 w G → pre → OpR P o a w G τ
section
variable {P : Program} {L : List (Nat × MT)} {B : List BX} {x y z : Operand} {u v u' : List Nat} {t t' : TypeId} {τ τ' τ'' : MT} {m n : Int} {b c : Bool}
abbrev I64 (z : Int) : Prop:=-9223372036854775808 ≤ z ∧ z ≤ 9223372036854775807
theorem i64_w {z : Int} (h : I64 z) : IntKind.i64.wrap z = z:=by have:=iw_i64 (z:=z) rfl h;injection this
instance Op1.mv [h : Opd L x τ u] : Op1 P L B (.move x) True τ u:=⟨fun ho hok e _ _=>.mv hok ho (h.h e)⟩
instance Op1.add [h : Opd L x (IT m) u] [k : Opd L y (IT n) v] : Op1 P L B (.binOp .add t x y t') (I64 (m + n)) (IT (m + n)) (u ++ v):=⟨fun ho hok e _ hp=>.iadd hok ho (h.h e.l) (k.h e.r) (by rw [i64_w hp];rfl)⟩
instance Op1.sub [h : Opd L x (IT m) u] [k : Opd L y (IT n) v] : Op1 P L B (.binOp .sub t x y t') (I64 (m - n)) (IT (m - n)) (u ++ v):=⟨fun ho hok e _ hp=>.isub hok ho (h.h e.l) (k.h e.r) (by rw [i64_w hp];rfl)⟩
instance Op1.mul [h : Opd L x (IT m) u] [k : Opd L y (IT n) v] : Op1 P L B (.binOp .mul t x y t') (I64 (m * n)) (IT (m * n)) (u ++ v):=⟨fun ho hok e _ hp=>.imul hok ho (h.h e.l) (k.h e.r) (by rw [i64_w hp];rfl)⟩
instance Op1.neg [h : Opd L x (IT m) u] : Op1 P L B (.unOp .neg t x) (I64 (-m)) (IT (-m)) u:=⟨fun ho hok e _ hp=>.ineg hok ho (h.h e) (by rw [show (0 - m : Int) = -m by omega,i64_w hp];rfl)⟩
theorem beq_dec {m n : Int} : (m == n) = decide (m = n):=by rw [Bool.eq_iff_iff];simp
theorem bne_dec {m n : Int} : (m != n) = decide (m ≠ n):=by rw [Bool.eq_iff_iff];simp
instance Op1.eql [h : Opd L x (IT m) u] [k : Opd L y (IT n) v] : Op1 P L B (.binOp .eql t x y t') True (BT (decide (m = n))) (u ++ v):=⟨fun ho hok e _ _=>.ieql hok ho (h.h e.l) (k.h e.r) (by rw [beq_dec];rfl)⟩
instance Op1.neq [h : Opd L x (IT m) u] [k : Opd L y (IT n) v] : Op1 P L B (.binOp .neq t x y t') True (BT (decide (m ≠ n))) (u ++ v):=⟨fun ho hok e _ _=>.ineq hok ho (h.h e.l) (k.h e.r) (by rw [bne_dec];rfl)⟩
instance Op1.lss [h : Opd L x (IT m) u] [k : Opd L y (IT n) v] : Op1 P L B (.binOp .lss t x y t') True (BT (decide (m < n))) (u ++ v):=⟨fun ho hok e _ _=>.ilss hok ho (h.h e.l) (k.h e.r) rfl⟩
instance Op1.leq [h : Opd L x (IT m) u] [k : Opd L y (IT n) v] : Op1 P L B (.binOp .leq t x y t') True (BT (decide (m ≤ n))) (u ++ v):=⟨fun ho hok e _ _=>.ileq hok ho (h.h e.l) (k.h e.r) rfl⟩
instance Op1.gtr [h : Opd L x (IT m) u] [k : Opd L y (IT n) v] : Op1 P L B (.binOp .gtr t x y t') True (BT (decide (m > n))) (u ++ v):=⟨fun ho hok e _ _=>.igtr hok ho (h.h e.l) (k.h e.r) rfl⟩
instance Op1.geq [h : Opd L x (IT m) u] [k : Opd L y (IT n) v] : Op1 P L B (.binOp .geq t x y t') True (BT (decide (m ≥ n))) (u ++ v):=⟨fun ho hok e _ _=>.igeq hok ho (h.h e.l) (k.h e.r) rfl⟩
instance Op1.beq [i : Und P t .bool] [h : Opd L x (BT b) u] [k : Opd L y (BT c) v] : Op1 P L B (.binOp .eql t x y t') True (BT (b == c)) (u ++ v):=⟨fun ho hok e _ _=>.beql hok ho (h.h e.l) (k.h e.r) i.h rfl⟩
instance Op1.bne [i : Und P t .bool] [h : Opd L x (BT b) u] [k : Opd L y (BT c) v] : Op1 P L B (.binOp .neq t x y t') True (BT (b != c)) (u ++ v):=⟨fun ho hok e _ _=>.bneq hok ho (h.h e.l) (k.h e.r) i.h rfl⟩
instance Op1.not [h : Opd L x (BT b) u] : Op1 P L B (.unOp .not t x) True (BT (!b)) u:=⟨fun ho hok e _ _=>.bnot hok ho (h.h e) rfl⟩
instance (priority:=500) Op1.pick {f g : Bool} [h : Opd L x (BT b) u] [k : OpdG L y b true (BT f) v] [l : OpdG L z b false (BT g) u'] : Op1 P L B (.pick x y z) True (BT (if b = true then f else g)) (u ++ (v ++ u')) :=
  ⟨fun ho hok e _ _=>.pick hok ho (h.h e.l) (by
    cases b with
    | true=>exact k.h e.r.l rfl
    | false=>exact l.h e.r.r rfl)⟩
instance Op1.andb {f : Bool} [h : Opd L x (BT b) u] [k : OpdG L y b true (BT f) v] : Op1 P L B (.pick x y (.const (.bool false))) True (BT (b && f)) (u ++ v) :=
  ⟨fun ho hok e _ _=>.pick hok ho (h.h e.l) (by
    cases b with
    | true=>exact k.h e.r rfl
    | false=>rfl)⟩
instance Op1.orb {f : Bool} [h : Opd L x (BT b) u] [k : OpdG L y b false (BT f) v] : Op1 P L B (.pick x (.const (.bool true)) y) True (BT (b || f)) (u ++ v) :=
  ⟨fun ho hok e _ _=>.pick hok ho (h.h e.l) (by
    cases b with
    | true=>rfl
    | false=>exact k.h e.r rfl)⟩
instance Op1.ex20 [h : Opd L x (.tup2 τ τ') u] : Op1 P L B (.extract x 0) True τ u:=⟨fun ho hok e _ _=>.ext2a hok ho (h.h e)⟩
instance Op1.ex21 [h : Opd L x (.tup2 τ τ') u] : Op1 P L B (.extract x 1) True τ' u:=⟨fun ho hok e _ _=>.ext2b hok ho (h.h e)⟩
instance Op1.ex30 [h : Opd L x (.tup3 τ τ' τ'') u] : Op1 P L B (.extract x 0) True τ u:=⟨fun ho hok e _ _=>.ext3a hok ho (h.h e)⟩
instance Op1.ex31 [h : Opd L x (.tup3 τ τ' τ'') u] : Op1 P L B (.extract x 1) True τ' u:=⟨fun ho hok e _ _=>.ext3b hok ho (h.h e)⟩
instance Op1.ex32 [h : Opd L x (.tup3 τ τ' τ'') u] : Op1 P L B (.extract x 2) True τ'' u:=⟨fun ho hok e _ _=>.ext3c hok ho (h.h e)⟩
theorem errV_nil {n : TypeId} : nilB (errV n m) = decide (m = 0):=by unfold errV;split <;> simp_all [nilB]
instance Op1.erN {n : TypeId} [i : Ifc P t] [h : Opd L x (.ex (errV n m)) u] : Op1 P L B (.binOp .neq t x (.const .nilIface) t') True (BT (decide (m ≠ 0))) u :=
  ⟨fun ho hok e _ _=>.errNeqNil hok ho i.h (h.h e) (errV_or m) (by rw [errV_nil];by_cases hm : m = 0 <;> simp [hm] <;> rfl)⟩
instance Op1.erE {n : TypeId} [i : Ifc P t] [h : Opd L x (.ex (errV n m)) u] : Op1 P L B (.binOp .eql t x (.const .nilIface) t') True (BT (decide (m = 0))) u :=
  ⟨fun ho hok e _ _=>.errEqNil hok ho i.h (h.h e) (errV_or m) (by rw [errV_nil];rfl)⟩
instance Op1.erI {n : TypeId} {c : Int} [i : Ifc P t] [ei : ErI P n] [h : Opd L x (.ex (errV n m)) u] [k : Opd L y (.ex (errV n c)) v] : Op1 P L B (.binOp .eql t x y t') (c ≠ 0) (BT (decide (m = c))) (u ++ v):=⟨fun ho hok e _ hp=>by
  obtain ⟨j,k',h1,h2,h3⟩:=ei.h
  exact .errEqI hok ho i.h h1 h2 h3 (h.h e.l) ((k.h e.r).trans (by unfold errV;rw [if_neg hp])) hp rfl⟩
instance Op1.mkE [i : NIf P t] [h : Opd L x (IT m) u] : Op1 P L B (.makeInterface t x) (m ≠ 0) (.ex (errV t m)) u:=⟨fun ho hok e _ hp=>.mkI hok ho i.h (h.h e) (by unfold errV;rw [if_neg hp];rfl)⟩
instance (priority:=500) Op1.fldA {s f b0 i off : Nat} [k : FO P s f off] [h : Opd L x (.ex (.pointer (some ⟨b0,i,none⟩))) u] : Op1 P L B (.fieldAddr s x f) True (.ex (.pointer (some ⟨b0,i + off,none⟩))) u:=⟨fun ho hok e _ _=>.fldA hok ho (h.h e) k.h rfl⟩
instance Op1.fld0 {s f b0 off : Nat} [k : FO P s f off] [h : Opd L x (PB b0) u] : Op1 P L B (.fieldAddr s x f) True (.ex (.pointer (some ⟨b0,off,none⟩))) u:=⟨fun ho hok e _ _=>.fldA hok ho (h.h e) k.h (by rw [Nat.zero_add];rfl)⟩
theorem prt_load {W0 w : World} {a : Act} {G : Gh} {o : Oper} {b0 i : Nat} {ty : TypeId} {k kt : Option Nat} {τb : MT} (hok : Gok w G) (ho : o.op = .load t x) (hT : tyS P t kt = true) (hk : kt ≠ some 0)
    (hx : a.eval x = .pointer (some ⟨b0,i,none⟩)) (hb : BX.ok ⟨b0,ty,k,τb⟩ W0 w G) (h : Prt τb i kt τ) : OpR P o a w G τ:=by
  have h0 : (decide (0 < kt.getD 1)) = true:=by
    cases kt with
    | none=>rfl
    | some n=>exact decide_eq_true (Nat.pos_of_ne_zero fun e=>hk (by simpa using e))
  cases kt with
  | none=>exact .ldCell hok ho hx hb hT fun v ht hs=>part_load (k':=none) (h.h ht hs) h0
  | some n=>exact .ldPart hok ho hx hb hT fun v ht hs=>part_load (k':=some n) (h.h ht hs) h0
instance Op1.ld {b0 i c : Nat} {ty : TypeId} {k kt : Option Nat} {τb : MT} [h : Opd L x (.ex (.pointer (some ⟨b0,i,none⟩))) u] [hb : Bx B b0 c ty k τb] [hT : TyS P t kt] [hz : NZ kt] [hp : Prt τb i kt τ] : Op1 P L B (.load t x) True τ (u ++ [1000000 + c]) :=
  ⟨fun ho hok e B _=>prt_load hok ho hT.h hz.h (h.h e.l) (B c _ (by simp) hb.m) hp⟩
end
end Go.Proofs.YtboicjlbbbodgaaGreatDoor
namespace Go.Proofs.YtboicjlbbbodgaaGreatDoor
open Go.RowKit (Below)
def Args : List Value → List MT → Gh → Prop
  | [],[],_=>True
  | v :: vs,τ :: τs,G=>τ.t v G ∧ Args vs τs G
  | _,_,_=>False
class Con (P : Program) (f : Nat) (τs : List MT) (pre : outParam Prop) (ρ : outParam MT) : Prop where
  h : ∀ {vs : List Value} {w : World} {G : Gh},Gok w G → Args vs τs G → pre → Calls P f vs.toArray w (Ret w G ρ)
class Cb (P : Program) (f : Nat) : Prop where
  h : callable P f = true
class OpdL (L : List (Nat × MT)) (xs : List Operand) (τs : outParam (List MT)) (u : outParam (List Nat)) : Prop where
  h : ∀ {a : Act} {G : Gh},Env L u a G → Args (xs.map a.eval) τs G
instance OpdL.nil {L : List (Nat × MT)} : OpdL L [] [] []:=⟨fun _=>trivial⟩
instance OpdL.cons {L : List (Nat × MT)} {x : Operand} {xs : List Operand} {τ : MT} {τs : List MT} {u v : List Nat} [h : Opd L x τ u] [k : OpdL L xs τs v] : OpdL L (x :: xs) (τ :: τs) (u ++ v):=⟨fun e=>⟨h.h e.l,k.h e.r⟩⟩
section
variable {P : Program} {f : Nat} {τ1 τ2 τ3 τ4 τ5 τ6 ρ : MT} {pre : Prop}
theorem Con.o0 (h : ∀ {w : World} {G : Gh},Gok w G → pre → Calls P f #[] w (Ret w G ρ)) : Con P f [] pre ρ:=⟨fun {vs _ _} hok ha hp=>match vs,ha with | [],_=>h hok hp⟩
theorem Con.o1 (h : ∀ {v1 : Value} {w : World} {G : Gh},Gok w G → τ1.t v1 G → pre → Calls P f #[v1] w (Ret w G ρ)) : Con P f [τ1] pre ρ:=⟨fun {vs _ _} hok ha hp=>match vs,ha with | [_],ha=>h hok ha.1 hp⟩
theorem Con.o2 (h : ∀ {v1 v2 : Value} {w : World} {G : Gh},Gok w G → τ1.t v1 G → τ2.t v2 G → pre → Calls P f #[v1,v2] w (Ret w G ρ)) : Con P f [τ1,τ2] pre ρ:=⟨fun {vs _ _} hok ha hp=>match vs,ha with | [_,_],ha=>h hok ha.1 ha.2.1 hp⟩
theorem Con.o3 (h : ∀ {v1 v2 v3 : Value} {w : World} {G : Gh},Gok w G → τ1.t v1 G → τ2.t v2 G → τ3.t v3 G → pre → Calls P f #[v1,v2,v3] w (Ret w G ρ)) : Con P f [τ1,τ2,τ3] pre ρ:=⟨fun {vs _ _} hok ha hp=>match vs,ha with | [_,_,_],ha=>h hok ha.1 ha.2.1 ha.2.2.1 hp⟩
section
variable {w : World} {G : Gh} {v1 v2 v3 v4 v5 v6 : Value}
theorem Con.c1 (c : Con P f [τ1] pre ρ) (hok : Gok w G) (h1 : τ1.t v1 G) (hp : pre) : Calls P f #[v1] w (Ret w G ρ):=c.h (vs:=[v1]) hok ⟨h1,trivial⟩ hp
theorem Con.c2 (c : Con P f [τ1,τ2] pre ρ) (hok : Gok w G) (h1 : τ1.t v1 G) (h2 : τ2.t v2 G) (hp : pre) : Calls P f #[v1,v2] w (Ret w G ρ):=c.h (vs:=[v1,v2]) hok ⟨h1,h2,trivial⟩ hp
theorem Con.c3 (c : Con P f [τ1,τ2,τ3] pre ρ) (hok : Gok w G) (h1 : τ1.t v1 G) (h2 : τ2.t v2 G) (h3 : τ3.t v3 G) (hp : pre) : Calls P f #[v1,v2,v3] w (Ret w G ρ):=c.h (vs:=[v1,v2,v3]) hok ⟨h1,h2,h3,trivial⟩ hp
theorem Con.c6 (c : Con P f [τ1,τ2,τ3,τ4,τ5,τ6] pre ρ) (hok : Gok w G) (h1 : τ1.t v1 G) (h2 : τ2.t v2 G) (h3 : τ3.t v3 G) (h4 : τ4.t v4 G) (h5 : τ5.t v5 G) (h6 : τ6.t v6 G) (hp : pre) : Calls P f #[v1,v2,v3,v4,v5,v6] w (Ret w G ρ):=c.h (vs:=[v1,v2,v3,v4,v5,v6]) hok ⟨h1,h2,h3,h4,h5,h6,trivial⟩ hp
end
instance Op1.call {L : List (Nat × MT)} {B : List BX} {xs : List Operand} {ats : Array TypeId} {τs : List MT} {u : List Nat} [h : OpdL L xs τs u] [c : Con P f τs pre ρ] [k : Cb P f] : Op1 P L B (.call { callee:=.value (.func f),args:=xs.toArray,argTypes:=ats }) pre ρ u :=
  ⟨fun ho hok e _ hp=>.call ho k.h (by rw [List.map_toArray];exact c.h hok (h.h e) hp)⟩
end
structure RE where
  d : Nat
  τ : MT
  u : List Nat
class Gs (b pol : Bool) (L : List (Nat × MT)) (L' : outParam (List (Nat × MT))) : Prop where
  h : ∀ (t : Nat) (τ' : MT),(t,τ') ∈ L' → ∃ τ,(t,τ) ∈ L ∧ (b = pol → ∀ v G,τ.t v G → τ'.t v G)
instance Gs.nil {b pol : Bool} : Gs b pol [] []:=⟨fun _ _ h=>by simp at h⟩
instance (priority:=500) Gs.cons {b pol : Bool} {p : Nat × MT} {L L' : List (Nat × MT)} [h : Gs b pol L L'] : Gs b pol (p :: L) (p :: L'):=⟨fun t τ' hm=>by
  rcases List.mem_cons.1 hm with e | e
  · subst e;exact ⟨τ',.head _,fun _ _ _ h=>h⟩
  · obtain ⟨τ,h1,h2⟩:=h.h t τ' e;exact ⟨τ,.tail _ h1,h2⟩⟩
instance Gs.gd {b pol : Bool} {d : Nat} {τ0 : MT} {L L' : List (Nat × MT)} [h : Gs b pol L L'] : Gs b pol ((d,GD b pol τ0) :: L) ((d,τ0) :: L'):=⟨fun t τ' hm=>by
  rcases List.mem_cons.1 hm with e | e
  · cases e;exact ⟨_,.head _,fun hb _ _ h=>h.1 hb⟩
  · obtain ⟨τ,h1,h2⟩:=h.h t τ' e;exact ⟨τ,.tail _ h1,h2⟩⟩
theorem Gs.env {b pol : Bool} {L L' : List (Nat × MT)} (h : Gs b pol L L') {u : List Nat} {a : Act} {G : Gh} (e : Env L u a G) (hb : b = pol) : Env L' u a G:=fun t τ' ht hm=>by
  obtain ⟨τ,h1,h2⟩:=h.h t τ' hm;exact h2 hb _ _ (e t τ ht h1)
class Gw (τg : MT) (pol : Bool) (L : List (Nat × MT)) (L' : outParam (List (Nat × MT))) (wr : outParam (MT → MT)) (wp : outParam (Prop → Prop)) : Prop where
  h : ∀ {v : Value} {G : Gh},τg.t v G → (v = .bool pol ∧ (∀ u a G,Env L u a G → Env L' u a G) ∧ (∀ τ v G,τ.t v G → (wr τ).t v G) ∧ ∀ p,wp p → p) ∨ (v ≠ .bool pol ∧ ∀ τ G,(wr τ).t undef G)
instance Gw.b {b pol : Bool} {L L' : List (Nat × MT)} [g : Gs b pol L L'] : Gw (BT b) pol L L' (GD b pol) (GI b pol):=⟨fun {v G} ht=>by
  have hv : v = .bool b:=ht
  by_cases hb : b = pol
  · exact .inl ⟨by rw [hv,hb],fun u a G e=>g.env e hb,fun τ v G h=>⟨fun _=>h,fun e=>absurd hb e⟩,fun p h=>h hb⟩
  · exact .inr ⟨by rw [hv];simpa using hb,fun τ G=>⟨fun e=>absurd e hb,fun _=>rfl⟩⟩⟩
instance Gw.g {b pol pol' : Bool} {τg : MT} {L L1 L' : List (Nat × MT)} {wr : MT → MT} {wp : Prop → Prop} [g : Gs b pol L L1] [k : Gw τg pol' L1 L' wr wp] : Gw (GD b pol τg) pol' L L' (fun τ=>GD b pol (wr τ)) (fun p=>GI b pol (wp p)):=⟨fun {v G} ht=>by
  by_cases hb : b = pol
  · rcases k.h (ht.1 hb) with ⟨h1,h2,h3,h4⟩ | ⟨h1,h2⟩
    · exact .inl ⟨h1,fun u a G e=>h2 u a G (g.env e hb),fun τ v G h=>⟨fun _=>h3 τ v G h,fun e=>absurd hb e⟩,fun p h=>h4 p (h hb)⟩
    · exact .inr ⟨h1,fun τ G=>⟨fun _=>h2 τ G,fun e=>absurd hb e⟩⟩
  · exact .inr ⟨by rw [ht.2 hb];simp [undef],fun τ G=>⟨fun e=>absurd e hb,fun _=>rfl⟩⟩⟩
class DstAt (all : List Oper) (j : Nat) (d : outParam Nat) : Prop where
  h : (all[j]?).bind (·.dst) = some d
instance DstAt.z {d : Nat} {op : Op} {ty : TypeId} {pos : String} {aft : Array Edge} {g : Option (Nat × Bool)} {l : List Oper} : DstAt (⟨some d,op,ty,pos,aft,g⟩ :: l) 0 d:=⟨rfl⟩
instance DstAt.s {o : Oper} {l : List Oper} {j d : Nat} [h : DstAt l j d] : DstAt (o :: l) (j + 1) d:=⟨h.h⟩
inductive RunI (P : Program) (B : List BX) (all : List Oper) : List (Nat × MT) → List Oper → Prop → List RE → List (Nat × MT) → List Oper → Prop
  | stop {L : List (Nat × MT)} {ops : List Oper} : RunI P B all L ops True [] L ops
  | cons {L : List (Nat × MT)} {ops : List Oper} {d : Nat} {op : Op} {ty : TypeId} {pos : String} {aft : Array Edge} {pre pre' : Prop} {τ : MT} {u : List Nat} {es : List RE} {out : List (Nat × MT)} {rest : List Oper} :
      Op1 P L B op pre τ u → RunI P B all ((d,τ) :: L) ops pre' es out rest → RunI P B all L (⟨some d,op,ty,pos,aft,none⟩ :: ops) (pre ∧ pre') (⟨d,τ,u⟩ :: es) out rest
  | gcons {L L' : List (Nat × MT)} {ops : List Oper} {d : Nat} {op : Op} {ty : TypeId} {pos : String} {aft : Array Edge} {pre pre' : Prop} {τ : MT} {u : List Nat} {es : List RE} {out : List (Nat × MT)} {rest : List Oper} {j dj : Nat} {pol : Bool} {τg : MT} {wr : MT → MT} {wp : Prop → Prop} :
      (all[j]?).bind (·.dst) = some dj → (dj,τg) ∈ L → Gw τg pol L L' wr wp → Op1 P L' B op pre τ u → RunI P B all ((d,wr τ) :: L) ops pre' es out rest →
      RunI P B all L (⟨some d,op,ty,pos,aft,some (j,pol)⟩ :: ops) (wp pre ∧ pre') (⟨d,wr τ,dj :: u⟩ :: es) out rest
class Run (P : Program) (B : List BX) (all : List Oper) (L : List (Nat × MT)) (ops : List Oper) (pre : outParam Prop) (es : outParam (List RE)) (out : outParam (List (Nat × MT))) (rest : outParam (List Oper)) : Prop where
  r : RunI P B all L ops pre es out rest
section
variable {P : Program} {B : List BX} {all : List Oper} {L L' : List (Nat × MT)} {ops : List Oper} {d : Nat} {op : Op} {ty : TypeId} {pos : String} {aft : Array Edge} {pre pre' : Prop} {τ : MT} {u : List Nat} {es : List RE} {out : List (Nat × MT)} {rest : List Oper} {j dj : Nat} {b pol : Bool} {τg : MT} {wr : MT → MT} {wp : Prop → Prop}
instance (priority:=100) Run.stop : Run P B all L ops True [] L ops:=⟨.stop⟩
instance Run.cons [h : Op1 P L B op pre τ u] [k : Run P B all ((d,τ) :: L) ops pre' es out rest] : Run P B all L (⟨some d,op,ty,pos,aft,none⟩ :: ops) (pre ∧ pre') (⟨d,τ,u⟩ :: es) out rest:=⟨.cons h k.r⟩
instance (priority:=1100) Run.smv {x : Operand} : Run P B all L (⟨some d,.move x,ty,pos,aft,none⟩ :: ops) True [] L (⟨some d,.move x,ty,pos,aft,none⟩ :: ops):=⟨.stop⟩
instance Run.gcons [hj : DstAt all j dj] [hb : Lk L dj τg] [g : Gw τg pol L L' wr wp] [h : Op1 P L' B op pre τ u] [k : Run P B all ((d, wr τ) :: L) ops pre' es out rest] :
    Run P B all L (⟨some d,op,ty,pos,aft,some (j,pol)⟩ :: ops) (wp pre ∧ pre') (⟨d,wr τ,dj :: u⟩ :: es) out rest:=⟨.gcons hj.h hb.m g h k.r⟩
variable {W0 : World} {G0 : Gh} {N : Nat} {a : Act} {w : World} {G : Gh} {Q : Exit → Act → World → Prop}
theorem St.env (S : St W0 G0 N L B a w G) (u : List Nat) : Env L u a G:=fun t τ _ hm=>by
  obtain ⟨i,hi⟩:=List.mem_iff_getElem?.1 hm;exact S.ty i _ hi
theorem St.bok (S : St W0 G0 N L B a w G) (u : List Nat) : Bku B u W0 w G:=fun i x _ hi=>S.bx i _ hi
theorem St.mem (S : St W0 G0 N L B a w G) {t : Nat} {τ : MT} (hm : (t,τ) ∈ L) : τ.t (tm a t) G:=S.env [t] t τ (by simp) hm
def frs (N : Nat) : List Nat → List RE → Bool
  | _,[]=>true
  | ks,e :: es=>!ks.contains e.d && decide (e.d < N) && frs N (e.d :: ks) es
theorem fresh_of {d : Nat} {L : List (Nat × MT)} (h : (L.map (·.1)).contains d = false) : fresh d L = true:=by
  unfold fresh
  rw [List.all_eq_true]
  intro p hp
  simp only [bne_iff_ne,ne_eq]
  intro e
  have : (L.map (·.1)).contains d = true:=by simpa using ⟨p.2,by rw [← e];exact hp⟩
  rw [h] at this;cases this
theorem wantedV {o : Oper} (ho : o.guard = some (j,pol)) (hj : (all[j]?).bind (·.dst) = some dj) : (tm a dj = .bool pol → Region.wanted o (yielded all.toArray a.tmps) = true) ∧ (tm a dj ≠ .bool pol → Region.wanted o (yielded all.toArray a.tmps) = false):=by
  have key : Region.wanted o (yielded all.toArray a.tmps) = ((match a.tmps[dj]? with | some (Value.bool b)=>some b | x=>none) == some pol):=by simp [Region.wanted,ho,yielded,hj];rfl
  rw [key]
  rcases Nat.lt_or_ge dj a.tmps.size with h1 | h1
  · have e : tm a dj = a.tmps[dj]:=by simp [tm,h1]
    rw [e,Array.getElem?_eq_getElem h1]
    refine ⟨fun h=>by rw [h];simp,fun h=>?_⟩
    cases hv : a.tmps[dj] <;> rw [hv] at h <;> simp_all
  · have e : tm a dj = undef:=by simp [tm,Array.getElem?_eq_none h1]
    rw [e,Array.getElem?_eq_none h1]
    exact ⟨fun h=>by simp [undef] at h,fun _=>rfl⟩
theorem St.runI (R : RunI P B all L ops pre es out rest) : ∀ {a : Act} {w : World} {G : Gh},St W0 G0 N L B a w G → frs N (L.map (·.1)) es = true → pre → (∀ a w G,St W0 G0 N out B a w G → wpList P all.toArray Q rest a w) → wpList P all.toArray Q ops a w:=by
  induction R with
  | stop=>exact fun S _ _ K=>K _ _ _ S
  | cons h _ ih =>
    intro a w G S hf hp K
    simp only [frs,Bool.and_eq_true,Bool.not_eq_true',decide_eq_true_eq] at hf
    refine S.step (h.ok rfl S.ok (S.env _) (S.bok _) hp.1) rfl rfl (decide_eq_true hf.1.2) (fresh_of hf.1.1) fun a w G S=>ih S hf.2 hp.2 K
  | gcons hj hm g h _ ih =>
    intro a w G S hf hp K
    simp only [frs,Bool.and_eq_true,Bool.not_eq_true',decide_eq_true_eq] at hf
    refine wpList_step fun K' hK=>?_
    rcases g.h (S.mem hm) with ⟨h1,h2,h3,h4⟩ | ⟨h1,h2⟩
    · rw [if_pos ((wantedV rfl hj).1 h1)]
      refine h.ok rfl S.ok (h2 _ _ _ (S.env _)) (S.bok _) (h4 _ hp.1) Q K' fun v w' G' hv hn=>hK _ _ (ih (S.put hf.1.2 (fresh_of hf.1.1) (h3 _ _ _ hv) hn) hf.2 hp.2 K)
    · rw [if_neg (by rw [(wantedV rfl hj).2 h1];simp)]
      exact hK _ _ (ih (S.put (v:=undef) hf.1.2 (fresh_of hf.1.1) (h2 _ _) (Nxt.refl S.ok)) hf.2 hp.2 K)
theorem St.run (S : St W0 G0 N L B a w G) [R : Run P B all L ops pre es out rest] (hp : pre) (K : ∀ a w G,St W0 G0 N out B a w G → wpList P all.toArray Q rest a w) (hn : es.isEmpty = false:=by rfl) (hf : frs N (L.map (·.1)) es = true:=by rfl) : wpList P all.toArray Q ops a w :=
  St.runI R.r S hf hp K
end
end Go.Proofs.YtboicjlbbbodgaaGreatDoor
namespace Go.Proofs.YtboicjlbbbodgaaGreatDoor
open Go.RowKit (Below)
section
variable {P : Program} {B : List BX} {all : List Oper} {L L0 : List (Nat × MT)} {ops : List Oper} {pre : Prop} {es : List RE} {out : List (Nat × MT)} {rest : List Oper}
variable {W0 : World} {G0 : Gh} {N : Nat} {a : Act} {w : World} {G : Gh} {Q : Exit → Act → World → Prop}
theorem OpG.gd {o : Oper} {j dj : Nat} {pol : Bool} {τ τg : MT} {L L' : List (Nat × MT)} {wr : MT → MT} {wp : Prop → Prop} (ho : o.guard = some (j,pol)) (hj : (all[j]?).bind (·.dst) = some dj) (g : Gw τg pol L L' wr wp) (he : τg.t (tm a dj) G) (h : (∀ u a G,Env L u a G → Env L' u a G) → (∀ p,wp p → p) → OpR P o a w G τ) : OpG P all.toArray o a w G (wr τ):=by
  rcases g.h he with ⟨h1,h2,h3,h4⟩ | ⟨h1,h2⟩
  · exact .inl ⟨(wantedV ho hj).1 h1,fun Q K hK=>h h2 h4 Q K fun v w' G' hv hn=>hK v w' G' (h3 _ _ _ hv) hn⟩
  · exact .inr ⟨(wantedV ho hj).2 h1,h2 _ _⟩
end
end Go.Proofs.YtboicjlbbbodgaaGreatDoor
namespace Go.Proofs.YtboicjlbbbodgaaGreatDoor
open Go.RowKit (Below)
class ShN (fs : List (Option Nat × MT)) (n : Nat) : Prop where
  h : offs fs fs.length = n
theorem offs_cons {k : Option Nat} {τ : MT} {fs : List (Option Nat × MT)} : offs ((k,τ) :: fs) ((k,τ) :: fs).length = k.getD 1 + offs fs fs.length:=by simp [offs]
instance ShN.nil : ShN [] 0:=⟨rfl⟩
section
variable {fs : List (Option Nat × MT)} {n i : Nat} {τ τ' τ'' : MT} {k kt : Option Nat}
instance ShN.s1 [h : ShN fs n] : ShN ((none,τ) :: fs) (n + 1):=⟨by rw [offs_cons,h.h];simp;omega⟩
instance ShN.s2 [h : ShN fs n] : ShN ((some 2,τ) :: fs) (n + 2):=⟨by rw [offs_cons,h.h];simp;omega⟩
instance ShN.s3 [h : ShN fs n] : ShN ((some 3,τ) :: fs) (n + 3):=⟨by rw [offs_cons,h.h];simp;omega⟩
instance ShN.s4 [h : ShN fs n] : ShN ((some 4,τ) :: fs) (n + 4):=⟨by rw [offs_cons,h.h];simp;omega⟩
instance ShN.s6 [h : ShN fs n] : ShN ((some 6,τ) :: fs) (n + 6):=⟨by rw [offs_cons,h.h];simp;omega⟩
class ShK (τ : MT) (k : Option Nat) : Prop where
  h : ∀ {v : Value} {G : Gh},τ.t v G → Shaped k v
instance (priority:=500) ShK.of [h : Shp τ k] : ShK τ k:=⟨fun ht=>h.sh ht⟩
instance ShK.pts [h : ShN fs n] : ShK (PTS fs) (some n):=⟨fun ht=>PTS.shaped h.h ht⟩
instance (priority:=900) Prt.ptsw [h : ShN fs n] : Prt (PTS fs) 0 (some n) (PTS fs):=⟨fun ht _=>⟨_,PTS.shaped h.h ht,ht,fun j x hx=>by rw [Nat.zero_add];exact hx⟩⟩
class UpdL (fs : List (Option Nat × MT)) (i : Nat) (kt : Option Nat) (τ : MT) (fs' : outParam (List (Option Nat × MT))) : Prop where
  h : ∀ {us : List Value} {y : Value} {G : Gh},PF fs us G → Shaped kt y → τ.t y G → ∃ us',PF fs' us' G ∧ flat us' = (flat us).take i ++ y.cells.toList ++ (flat us).drop (i + kt.getD 1)
theorem PF.mk {u : Value} {us : List Value} {G : Gh} (hs : Shaped k u) (ht : τ.t u G) (h : PF fs us G) : PF ((k,τ) :: fs) (u :: us) G:=⟨by simp [h.1],fun i f x hf hx=>by
  cases i with
  | zero=>cases hf;cases hx;exact ⟨hs,ht⟩
  | succ i=>exact h.2 i f x hf hx⟩
theorem UpdL.skip {fs' : List (Option Nat × MT)} {j : Nat} (h : UpdL fs i kt τ fs') (e : j = i + k.getD 1) : UpdL ((k,τ') :: fs) j kt τ ((k,τ') :: fs'):=⟨fun hp hy hty=>by
  obtain ⟨u,us',rfl,hs,ht,hp'⟩:=hp.cons
  obtain ⟨us2,h1,h2⟩:=h.h hp' hy hty
  refine ⟨u :: us2,.mk hs ht h1,?_⟩
  have hsz : u.cells.toList.length = k.getD 1:=by simpa using shaped_size hs
  rw [flat_cns,flat_cns,h2,e,← hsz,Nat.add_comm i u.cells.toList.length,List.take_length_add_append,Nat.add_assoc,List.drop_length_add_append]
  simp only [List.append_assoc]⟩
instance UpdL.hd : UpdL ((k,τ') :: fs) 0 k τ ((k,τ) :: fs):=⟨fun {us y G} hp hy hty=>by
  obtain ⟨u,us',rfl,hs,ht,hp'⟩:=hp.cons
  refine ⟨y :: us',.mk hy hty hp',?_⟩
  have hsz : u.cells.toList.length = k.getD 1:=by simpa using shaped_size hs
  rw [flat_cns,flat_cns,Nat.zero_add,← hsz,List.drop_left]
  simp⟩
instance (priority:=500) UpdL.s1 {fs' : List (Option Nat × MT)} [h : UpdL fs i kt τ fs'] : UpdL ((none,τ') :: fs) (i + 1) kt τ ((none,τ') :: fs'):=h.skip rfl
instance (priority:=500) UpdL.s2 {fs' : List (Option Nat × MT)} [h : UpdL fs i kt τ fs'] : UpdL ((some 2,τ') :: fs) (i + 2) kt τ ((some 2,τ') :: fs'):=h.skip rfl
instance (priority:=500) UpdL.s3 {fs' : List (Option Nat × MT)} [h : UpdL fs i kt τ fs'] : UpdL ((some 3,τ') :: fs) (i + 3) kt τ ((some 3,τ') :: fs'):=h.skip rfl
instance (priority:=500) UpdL.s4 {fs' : List (Option Nat × MT)} [h : UpdL fs i kt τ fs'] : UpdL ((some 4,τ') :: fs) (i + 4) kt τ ((some 4,τ') :: fs'):=h.skip rfl
instance (priority:=500) UpdL.s6 {fs' : List (Option Nat × MT)} [h : UpdL fs i kt τ fs'] : UpdL ((some 6,τ') :: fs) (i + 6) kt τ ((some 6,τ') :: fs'):=h.skip rfl
class Upd (τb : MT) (i : Nat) (kt : Option Nat) (τ : MT) (τ' : outParam MT) : Prop where
  h : ∀ {cs : Array Value} {y : Value} {G : Gh},τb.t (.agg cs) G → Shaped kt y → τ.t y G → τ'.t (.agg (cs.toList.take i ++ y.cells.toList ++ cs.toList.drop (i + kt.getD 1)).toArray) G
instance Upd.pts {fs' : List (Option Nat × MT)} [h : UpdL fs i kt τ fs'] : Upd (PTS fs) i kt τ (PTS fs'):=⟨fun ht hy hty=>by
  obtain ⟨us,e,h1,h2⟩:=ht
  injection e with e
  obtain ⟨us',h3,h4⟩:=h.h ⟨h1,h2⟩ hy hty
  exact ⟨us',by rw [e,h4],h3.1,h3.2⟩⟩
end
class BSet (B : List BX) (b : Nat) (x : BX) (B' : outParam (List BX)) : Prop where
  h : ∃ i y,B[i]? = some y ∧ y.b = b ∧ B' = B.set i x
instance BSet.hd {B : List BX} {b : Nat} {ty : TypeId} {k : Option Nat} {τ : MT} {x : BX} : BSet (⟨b,ty,k,τ⟩ :: B) b x (x :: B):=⟨0,_,rfl,rfl,rfl⟩
instance (priority:=500) BSet.tl {y x : BX} {B B' : List BX} {b : Nat} [h : BSet B b x B'] : BSet (y :: B) b x (y :: B'):=⟨by
  obtain ⟨i,z,h1,h2,h3⟩:=h.h
  exact ⟨i + 1,z,h1,h2,by rw [h3];rfl⟩⟩
class Rm (L : List (Nat × MT)) (d : Nat) (L' : outParam (List (Nat × MT))) : Prop where
  h : ∀ p ∈ L',p ∈ L
instance Rm.nil {d : Nat} : Rm [] d []:=⟨fun _ h=>h⟩
instance Rm.hd {d : Nat} {τ : MT} {L L' : List (Nat × MT)} [h : Rm L d L'] : Rm ((d,τ) :: L) d L':=⟨fun p hp=>.tail _ (h.h p hp)⟩
instance (priority:=500) Rm.tl {d : Nat} {q : Nat × MT} {L L' : List (Nat × MT)} [h : Rm L d L'] : Rm (q :: L) d (q :: L'):=⟨fun p hp=>by
  rcases List.mem_cons.1 hp with e | e
  · exact e ▸ .head _
  · exact .tail _ (h.h p e)⟩
class Zer (P : Program) (t : TypeId) (k : outParam (Option Nat)) (τ : outParam MT) : Prop where
  h : ∃ z,(P.info? t).bind (·.zero) = some z ∧ Shaped k z ∧ ∀ G,τ.t z G
section
variable {P : Program} {B : List BX} {L L' : List (Nat × MT)} {d : Nat} {op : Op} {ty t : TypeId} {pos : String} {aft : Array Edge} {τ τ' τ'' τ1 τ2 τ3 : MT} {u : List Nat} {rest : List Oper} {all : Array Oper} {x y : Operand} {k kt : Option Nat}
variable {W0 : World} {G0 : Gh} {N : Nat} {a : Act} {w : World} {G : Gh} {Q : Exit → Act → World → Prop} {fn : Func}
theorem St.only (S : St W0 G0 N L B a w G) (h : ∀ p ∈ L',p ∈ L) : St W0 G0 N L' B a w G:=S.weak fun i p hi=>S.mem (h p (List.mem_of_getElem? hi))
theorem St.asg (S : St W0 G0 N L B a w G) [h : Opd L x τ u] [r : Rm L d L'] (K : ∀ a w G, St W0 G0 N ((d, τ) :: L') B a w G → wpList P all Q rest a w) (hf : fresh d L' = true := by rfl) (hN : (decide (d < N)) = true := by rfl) :
    wpList P all Q (⟨some d,.assign x,ty,pos,aft,none⟩ :: rest) a w :=
  (S.only r.h).step (OpR.asn S.ok rfl (h.h (S.env u))) rfl rfl hN hf fun a w G S=>K a w G S
theorem St.mvk (S : St W0 G0 N L B a w G) [h : Opd L x τ u] [r : Rm L d L'] (K : ∀ a w G, St W0 G0 N ((d, τ) :: L') B a w G → wpList P all Q rest a w) (hf : fresh d L' = true := by rfl) (hN : (decide (d < N)) = true := by rfl) :
    wpList P all Q (⟨some d,.move x,ty,pos,aft,none⟩ :: rest) a w :=
  (S.only r.h).step (OpR.mv S.ok rfl (h.h (S.env u))) rfl rfl hN hf fun a w G S=>K a w G S
theorem St.bx1 (S : St W0 G0 N L B a w G) [h : Opd L x τ u] [hk : TyS P t k] [hs : ShK τ k] (K : ∀ b a w G, St W0 G0 N ((d, PB b) :: L) (⟨b, t, k, τ⟩ :: B) a w G → wpList P all Q rest a w) (hf : fresh d L = true := by rfl) (hN : (decide (d < N)) = true := by rfl) :
    wpList P all Q (⟨some d,.box t x,ty,pos,aft,none⟩ :: rest) a w :=
  S.boxop (h.h (S.env u)) (hs.h (h.h (S.env u))) rfl rfl rfl hN hf K
theorem St.al (S : St W0 G0 N L B a w G) [hz : Zer P t k τ] (K : ∀ b a w G, St W0 G0 N ((d, PB b) :: L) (⟨b, t, k, τ⟩ :: B) a w G → wpList P all Q rest a w) (hf : fresh d L = true := by rfl) (hN : (decide (d < N)) = true := by rfl) :
    wpList P all Q (⟨some d,.alloc t,ty,pos,aft,none⟩ :: rest) a w:=by
  obtain ⟨z,h1,h2,h3⟩:=hz.h
  exact S.alloc rfl rfl rfl h1 h2 hN hf fun b a w G S=>K b a w G (S.castBox 0 rfl fun v hv _=>by cases hv;exact h3 G)
theorem BSet.at {b : Nat} {z : BX} {B' : List BX} (h : BSet B b z B') (S : St W0 G0 N L B a w G) {x0 : BX} {j : Nat} (hj : B[j]? = some x0) (hb : x0.b = b) : ∃ i,B[i]? = some x0 ∧ B' = B.set i z:=by
  obtain ⟨i,y,h1,h2,h3⟩:=h.h
  by_cases hij : i = j
  · subst hij;rw [h1] at hj;cases hj;exact ⟨i,h1,h3⟩
  · exact absurd (h2.trans hb.symm) (S.nd i j y x0 h1 hj hij)
theorem St.st (S : St W0 G0 N L B a w G) {b : Nat} {v : List Nat} {B' : List BX} [hx : Opd L x (PB b) u] {i0 : Nat} [hb : Bx B b i0 ty k τ'] [hT : TyS P t k] [hy : Opd L y τ v] [hs : ShK τ k] [hB : BSet B b ⟨b, ty, k, τ⟩ B'] (K : ∀ w, St W0 G0 N L B' a w G → wpList P all Q rest a w) {ty' : TypeId} :
    wpList P all Q (⟨none,.store t x y,ty',pos,aft,none⟩ :: rest) a w:=by
  obtain ⟨i,h1,h2⟩:=hB.at S hb.m rfl
  exact S.store i rfl rfl rfl h1 (hx.h (S.env u)) hT.h (hy.h (S.env v)) (hs.h (hy.h (S.env v))) fun w' S=>K w' (h2 ▸ S)
theorem St.stp (S : St W0 G0 N L B a w G) {b i n : Nat} {v : List Nat} {B' : List BX} [hx : Opd L x (.ex (.pointer (some ⟨b, i, none⟩))) u] {i0 : Nat} [hb : Bx B b i0 ty (some n) τ'] [hT : TyS P t kt] [hy : Opd L y τ v] [hs : ShK τ kt] [hu : Upd τ' i kt τ τ''] [hB : BSet B b ⟨b, ty, some n, τ''⟩ B'] (K : ∀ w, St W0 G0 N L B' a w G → wpList P all Q rest a w) (hn : i + kt.getD 1 ≤ n := by decide) {ty' : TypeId} :
    wpList P all Q (⟨none,.store t x y,ty',pos,aft,none⟩ :: rest) a w:=by
  obtain ⟨j,h1,h2⟩:=hB.at S hb.m rfl
  exact S.storeAt j rfl rfl rfl h1 (hx.h (S.env u)) hT.h (hs.h (hy.h (S.env v))) hn (fun cs _ hc=>hu.h hc (hs.h (hy.h (S.env v))) (hy.h (S.env v))) fun w' S=>K w' (h2 ▸ S)
theorem St.cd (S : St W0 G0 N L B a w G) {t : Nat} {p : Prop} [i : Decidable p] {c c' : Code} [h : Lk L t (BT (decide p))] (h1 : p → c.wp P Q a w) (h2 : ¬ p → c'.wp P Q a w) : (Code.cond (.tmp t) c c').wp P Q a w :=
  wp_cond_split (S.mem h.m) (fun e=>h1 (of_decide_eq_true e)) (fun e=>h2 (of_decide_eq_false e))
theorem St.cb (S : St W0 G0 N L B a w G) {t : Nat} {b : Bool} {c c' : Code} [h : Lk L t (BT b)] (h1 : b = true → c.wp P Q a w) (h2 : b = false → c'.wp P Q a w) : (Code.cond (.tmp t) c c').wp P Q a w :=
  wp_cond_split (S.mem h.m) h1 h2
class Cv (τ' τ : MT) (pre : outParam Prop) : Prop where
  h : pre → ∀ {v : Value} {G : Gh},τ'.t v G → τ.t v G
instance Cv.refl : Cv τ τ True:=⟨fun _ _ _ h=>h⟩
instance (priority:=800) Cv.b {b c : Bool} : Cv (BT b) (BT c) (b = c):=⟨fun e _ _ h=>e ▸ h⟩
instance (priority:=800) Cv.i {kd : IntKind} {m n : Int} : Cv (.ex (.int kd m)) (.ex (.int kd n)) (m = n):=⟨fun e _ _ h=>e ▸ h⟩
instance (priority:=800) Cv.e {t : TypeId} {m n : Int} : Cv (.ex (errV t m)) (.ex (errV t n)) (m = n):=⟨fun e _ _ h=>e ▸ h⟩
instance (priority:=800) Cv.e0 {t : TypeId} {n : Int} : Cv (.ex .nilIface) (.ex (errV t n)) (n = 0):=⟨fun e _ _ h=>by subst e;exact h⟩
instance (priority:=800) Cv.qc {m n : Nat} {x y : Rat} : Cv (QC m x) (QC n y) (m ≤ n ∧ x = y):=⟨fun e _ _ h=>QC.eq (QC.up h e.1) e.2⟩
instance (priority:=800) Cv.qv {m n : Nat} {x y : Rat} : Cv (QV m x) (QV n y) (m ≤ n ∧ x = y):=⟨fun e _ _ h=>QV.eq (QV.up h e.1) e.2⟩
instance (priority:=800) Cv.cv {m n : Nat} {x y : Rat} : Cv (QC m x) (QV n y) (m ≤ n ∧ x = y):=⟨fun e _ _ h=>QV.eq (QV.up (QC.toQV h) e.1) e.2⟩
instance (priority:=800) Cv.fx {m n : Nat} {r s : FR} : Cv (FX m r) (FX n s) (m ≤ n ∧ r = s):=⟨fun e _ _ h=>FX.eq (FX.up h e.1) e.2⟩
instance (priority:=800) Cv.fv {m n : Nat} {r : FR} {y : Rat} : Cv (FX m r) (QV n y) (m ≤ n ∧ r.val = y):=⟨fun e _ _ h=>QV.eq (QV.up (FX.toQV h) e.1) e.2⟩
instance (priority:=800) Cv.qf {m n : Nat} {x : Rat} {r : FR} : Cv (QC m x) (FX n r) (m ≤ n ∧ FR.of x = r):=⟨fun e _ _ h=>FX.eq (FX.up (QC.toFX h (one_le_of_lt x.den_nz h.1.2)) e.1) e.2⟩
class CvL (fs gs : List (Option Nat × MT)) (pre : outParam Prop) : Prop where
  h : pre → ∀ {us : List Value} {G : Gh},PF fs us G → PF gs us G
instance CvL.nil : CvL [] [] True:=⟨fun _ _ _ h=>h⟩
instance CvL.cons {fs gs : List (Option Nat × MT)} {p q : Prop} [h : Cv τ τ' p] [l : CvL fs gs q] : CvL ((k,τ) :: fs) ((k,τ') :: gs) (p ∧ q):=⟨fun e us G hp=>by
  obtain ⟨v,us',rfl,hs,ht,hp'⟩:=hp.cons
  exact .mk hs (h.h e.1 ht) (l.h e.2 hp')⟩
instance (priority:=800) Cv.pts {fs gs : List (Option Nat × MT)} {p : Prop} [h : CvL fs gs p] : Cv (PTS fs) (PTS gs) p:=⟨fun e v G hv=>by
  obtain ⟨us,e1,h1,h2⟩:=hv
  exact ⟨us,e1,h.h e ⟨h1,h2⟩⟩⟩
def rvRun (r : ResultVar) (tmps : Array Value) : Sem Value :=
  match r with
  | .tmp t=>pure (tmps.getD t undef)
  | .cell c t=>do loadVar t (← asAddr (tmps.getD c undef))
theorem results_rv (fn : Func) (tmps : Array Value) : results fn tmps = (do let vs ← fn.results.mapM (fun r=>rvRun r tmps);pure (if h : vs.size = 1 then vs[0] else .tuple vs)):=by
  unfold results
  congr 1
theorem rv_1 {fn : Func} {r : ResultVar} (hr : fn.results = #[r]) {tmps : Array Value} {P : Program} {w : World} {v : Value} (h : (rvRun r tmps).run P w = .ok v w) : (results fn tmps).run P w = .ok v w:=by
  rw [results_rv];simp [hr,h]
theorem rv_2 {fn : Func} {r r2 : ResultVar} (hr : fn.results = #[r,r2]) {tmps : Array Value} {P : Program} {w : World} {v v2 : Value} (h : (rvRun r tmps).run P w = .ok v w) (h2 : (rvRun r2 tmps).run P w = .ok v2 w) : (results fn tmps).run P w = .ok (.tuple #[v,v2]) w:=by
  rw [results_rv];simp [hr,h,h2]
theorem rv_3 {fn : Func} {r r2 r3 : ResultVar} (hr : fn.results = #[r,r2,r3]) {tmps : Array Value} {P : Program} {w : World} {v v2 v3 : Value} (h : (rvRun r tmps).run P w = .ok v w) (h2 : (rvRun r2 tmps).run P w = .ok v2 w) (h3 : (rvRun r3 tmps).run P w = .ok v3 w) : (results fn tmps).run P w = .ok (.tuple #[v,v2,v3]) w:=by
  rw [results_rv];simp [hr,h,h2,h3]
class Rs1 (P : Program) (L : List (Nat × MT)) (B : List BX) (r : ResultVar) (τ : outParam MT) : Prop where
  h : ∀ {a : Act} {w W0 : World} {G : Gh},(∀ u,Env L u a G) → (∀ u,Bku B u W0 w G) → ∃ v,τ.t v G ∧ (rvRun r a.tmps).run P w = .ok v w
instance Rs1.tmp {t : Nat} [h : Lk L t τ] : Rs1 P L B (.tmp t) τ:=⟨fun e _=>⟨_,e [t] t τ (by simp) h.m,rfl⟩⟩
instance Rs1.cell {c b i0 : Nat} [h : Lk L c (PB b)] [hb : Bx B b i0 ty k τ] [hT : TyS P t k] : Rs1 P L B (.cell c t) τ:=⟨fun {a w W0 G} e hB=>by
  obtain ⟨_,_,v,hv,hs,ht⟩:=hB [1000000 + i0] i0 _ (by simp) hb.m
  have h2 : a.tmps.getD c undef = .pointer (some ⟨b,0,none⟩):=e [c] c (PB b) (by simp) h.m
  refine ⟨v,ht,?_⟩
  have:=load_whole hT.h hv hs
  unfold rvRun;simp only [h2];simp [asAddr];exact this⟩
theorem St.rt1 (S : St W0 G0 N L B a w G) {r : ResultVar} {pre : Prop} (hr : fn.results = #[r]) [h : Rs1 P L B r τ'] [c : Cv τ' τ pre] (hp : pre) : bodyPost P fn (Ret W0 G0 τ) .ret a w:=by
  obtain ⟨v,h1,h2⟩:=h.h (fun u=>S.env u) (fun u=>S.bok u)
  exact bodyPost_ret (rv_1 hr h2) S.dfr ⟨v,G,rfl,c.h hp h1,S.nxt⟩
theorem St.rt2 (S : St W0 G0 N L B a w G) {r r2 : ResultVar} {pre pre2 : Prop} {ρ ρ2 : MT} (hr : fn.results = #[r,r2]) [h : Rs1 P L B r τ'] [c : Cv τ' ρ pre] [h2 : Rs1 P L B r2 τ''] [c2 : Cv τ'' ρ2 pre2] (hp : pre) (hp2 : pre2) : bodyPost P fn (Ret W0 G0 (.tup2 ρ ρ2)) .ret a w:=by
  obtain ⟨v,h1,e1⟩:=h.h (fun u=>S.env u) (fun u=>S.bok u)
  obtain ⟨v2,h3,e2⟩:=h2.h (fun u=>S.env u) (fun u=>S.bok u)
  exact bodyPost_ret (rv_2 hr e1 e2) S.dfr ⟨_,G,rfl,⟨v,v2,rfl,c.h hp h1,c2.h hp2 h3⟩,S.nxt⟩
theorem St.rt3 (S : St W0 G0 N L B a w G) {r r2 r3 : ResultVar} {pre pre2 pre3 : Prop} {ρ ρ2 ρ3 σ : MT} (hr : fn.results = #[r,r2,r3]) [h : Rs1 P L B r τ'] [c : Cv τ' ρ pre] [h2 : Rs1 P L B r2 τ''] [c2 : Cv τ'' ρ2 pre2] [h3 : Rs1 P L B r3 σ] [c3 : Cv σ ρ3 pre3] (hp : pre) (hp2 : pre2) (hp3 : pre3) : bodyPost P fn (Ret W0 G0 (.tup3 ρ ρ2 ρ3)) .ret a w:=by
  obtain ⟨v,h1,e1⟩:=h.h (fun u=>S.env u) (fun u=>S.bok u)
  obtain ⟨v2,h4,e2⟩:=h2.h (fun u=>S.env u) (fun u=>S.bok u)
  obtain ⟨v3,h5,e3⟩:=h3.h (fun u=>S.env u) (fun u=>S.bok u)
  exact bodyPost_ret (rv_3 hr e1 e2 e3) S.dfr ⟨_,G,rfl,⟨v,v2,v3,rfl,c.h hp h1,c2.h hp2 h4,c3.h hp3 h5⟩,S.nxt⟩
end
end Go.Proofs.YtboicjlbbbodgaaGreatDoor
namespace Go.Proofs.YtboicjlbbbodgaaGreatDoor
open Go.RowKit (Below)
def LSC (k : Option Nat) (τs : List MT) : MT:=⟨fun v G=>(LS k τs).t v G ∧ ∃ b,v = .slice (some b) τs.length τs.length,fun hle ⟨h,h2⟩=>⟨(LS k τs).mono hle h,h2⟩⟩
theorem LSC.ls {k : Option Nat} {τs : List MT} {v : Value} {G : Gh} (h : (LSC k τs).t v G) : (LS k τs).t v G:=h.1
section
variable {P : Program} {o : Oper} {a : Act} {w : World} {G : Gh} {e : TypeId} {k : Option Nat} {τs σs : List MT}
theorem OpR.buildSC {t bytes n : Nat} {z : Value} {ps : Array (Nat × Operand)} {us : List Value} (hok : Gok w G) (ho : o.op = .buildSlice t n ps) (ht : P.underlying t = some (.slice e)) (he : elS P e (k.getD 1) bytes z) (hk : (decide (0 < k.getD 1)) = true) (hn : n * k.getD 1 ≤ 16777216) (hn0 : 0 < n)
    (hps : (ps.map fun (i,x)=>(i,a.eval x)).toList = (us.zipIdx 0).map fun x=>(x.2,x.1)) (hl : us.length = n) (hE : Els k τs us G) : OpR P o a w G (LSC k τs):=by
  obtain ⟨i,hi,h1,h2,h3⟩:=elS_of he
  have hk:=of_decide_eq_true hk
  have hsz:=hE.sizes
  have hfill:=Great.fill_whole (s:=k.getD 1) hk us ((Array.range (n * i.size)).map (z.cells[· % z.cells.size]!)) hsz (by simp [hl,h1])
  rw [← h1] at hfill
  have hps2 : (ps.map fun (i,x)=>(i,a.eval x)) = ((us.zipIdx 0).map fun x=>(x.2,x.1)).toArray:=by rw [← hps]
  have hb:=run_buildSlice (P:=P) w t e n ((us.zipIdx 0).map fun x=>(x.2,x.1)).toArray (us.flatMap fun v=>v.cells.toList).toArray i z ht hi h3 (by rw [h1];omega) (by rw [h1];have:=Nat.mul_pos hn0 hk;omega) (by simpa using hfill)
  refine .run' (w':=w.alloc (.cells (flat us ++ []).toArray e)) (G':=Gput G w.heap.size (.cells (flat us ++ []).toArray e)) (v:=.slice (some ⟨w.heap.size,0,none⟩) n n) ?_ (Nxt.allocPut hok _) ?_
  · rw [List.append_nil]
    simp only [execOp,ho,Sem.run_bind,hps2]
    rw [hb];rfl
  · have hle:=(Nxt.allocPut (w:=w) hok (.cells (flat us ++ []).toArray e)).le
    have hlen : n = τs.length:=by rw [← hl,hE.1]
    subst hlen
    refine ⟨LS.of_vals rfl (Nat.le_refl _) ?_ (hE.mono hle) (Lies.block (rest:=[]) (ty:=e) (fr:=(0,0)) hsz (by simp [Gput])),_,rfl⟩
    have : τs.length * 1 ≤ τs.length * k.getD 1:=Nat.mul_le_mul_left _ hk
    simp only [LIM];omega
theorem OpR.appSC {x y : Operand} {t bytes : Nat} {z : Value} (hok : Gok w G) (ho : o.op = .call { callee := .builtin .append, args := #[x, y], argTypes := #[t, t] }) (ht : P.underlying t = some (.slice e)) (he : elS P e (k.getD 1) bytes z) (hz : Shaped k z)
    (hx : (LSC k τs).t (a.eval x) G) (hy : (LS k σs).t (a.eval y) G) (hlim : τs.length + σs.length ≤ LIM) (hby : (τs.length + σs.length) * bytes ≤ 140737488355328) : OpR P o a w G (LS k (τs ++ σs)):=by
  obtain ⟨i,hi,h1,h2,h3⟩:=elS_of he
  obtain ⟨hx1,b,hxe⟩:=hx
  obtain ⟨A,c,vs,hye,hlc,_,hE,hL⟩:=LS.vals hy
  obtain ⟨A1,c1,us,hxe1,_,_,hE1,hL1⟩:=LS.vals hx1
  have hA : A1 = some b:=by rw [hxe] at hxe1;injection hxe1 with h _ _;exact h.symm
  subst hA
  have hvl : vs.length = σs.length:=hE.1
  have hul : us.length = τs.length:=hE1.1
  have hsz:=hE.sizes
  have hsz1:=hE1.sizes
  by_cases h0 : σs = []
  · subst h0
    refine .run hok (v:=.slice (some b) τs.length τs.length) ?_ (by rw [List.append_nil,← hxe];exact hx1)
    have hf : (Builtin.firstCells i.size 0 (.slice A 0 c)).run P w = .ok #[] w:=by
      cases A with
      | none=>simp [Builtin.firstCells]
      | some ad=>simp [Builtin.firstCells,loadCells,loadCellsFrom]
    simp only [List.length_nil] at hye
    simp [execOp,ho,resolve,invoke,builtin,hxe,hye,Builtin.append_,run_underlying ht,sizeOf,typeInfo,hi,Builtin.lenOf,hf,storeCells]
  · have hpos : 0 < σs.length:=List.length_pos_iff.2 h0
    obtain ⟨b2,off2,rfl,_⟩:=hL 0 vs[0] (by rw [List.getElem?_eq_getElem (by omega)])
    have hnl : (flat vs).length = σs.length * i.size:=by rw [flat_len hsz,hvl,h1]
    have hol : (flat us).length = τs.length * i.size:=by rw [flat_len hsz1,hul,h1]
    have hnews : ∀ j u,(flat vs)[j]? = some u → w.cell? ((⟨b2,off2,none⟩ : Addr).add j) = some u:=fun j u hj=>by rw [addr_add];exact Gc.cell hok (hL.all hsz j u hj)
    have holds : ∀ j u,(flat us)[j]? = some u → w.cell? (b.add j) = some u:=fun j u hj=>by
      have hne : 0 < us.length:=by
        rcases Nat.eq_zero_or_pos us.length with h | h
        · rw [List.length_eq_zero_iff] at h;subst h;simp [flat] at hj
        · exact h
      obtain ⟨b3,off3,e3,_⟩:=hL1 0 us[0] (by rw [List.getElem?_eq_getElem hne])
      cases e3
      rw [addr_add];exact Gc.cell hok (hL1.all hsz1 j u hj)
    simp only [LIM] at hlim
    have hg:=run_append_grow (P:=P) w t o.type e i z ht hi h3 b τs.length τs.length (flat us) hol holds ⟨b2,off2,none⟩ σs.length c (flat vs) hnl hnews (by omega) (by omega) (growslice_fits (by omega) (by rw [h2];exact hby))
    have hge:=grownCap_ge w (τs.length + σs.length) τs.length e
    generalize grownCap w (τs.length + σs.length) τs.length e = q at *
    have hcells : (flat us).toArray ++ (flat vs).toArray ++ Builtin.zeroCells z.cells (q - (τs.length + σs.length)) = (flat (us ++ vs) ++ (Builtin.zeroCells z.cells (q - (τs.length + σs.length))).toList).toArray:=by
      rw [flat_app];simp
    rw [hcells] at hg
    have hN:=(Nxt.drew hok).trans (Nxt.allocPut (w:=w.drew) (Nxt.drew hok).ok (.cells (flat (us ++ vs) ++ (Builtin.zeroCells z.cells (q - (τs.length + σs.length))).toList).toArray e))
    have hUV:=hE1.app hE
    refine .run' ?_ hN (v:=.slice (some ⟨w.heap.size,0,none⟩) (τs.length + σs.length) q) ?_
    · simp only [execOp,ho,resolve,Sem.run_bind,Sem.run_pure,Result.andThen_ok,invoke,builtin,List.map_toArray,List.map_cons,List.map_nil,hxe,hye,hg]
    · refine LS.of_vals (by rw [List.length_append]) (by rw [List.length_append];exact hge) (by rw [List.length_append];simp only [LIM];omega) (hUV.mono hN.le) (Lies.block (rest:=(Builtin.zeroCells z.cells (q - (τs.length + σs.length))).toList) (ty:=e) (fr:=(0,0)) hUV.sizes (by rw [show w.drew.heap.size = w.heap.size from rfl];simp [Gput]))
end
end Go.Proofs.YtboicjlbbbodgaaGreatDoor
namespace Go.Proofs.YtboicjlbbbodgaaGreatDoor
open Go.RowKit (Below)
structure ZE where
  k : Option Nat
  z : Value
  τ : MT
class ZV (e : ZE) : Prop where
  s : Shaped e.k e.z
  t : ∀ G,e.τ.t e.z G
class ZVL (zs : List ZE) : Prop where
  h : ∀ e ∈ zs,ZV e
instance ZVL.nil : ZVL []:=⟨fun _ h=>by simp at h⟩
instance ZVL.cons {e : ZE} {zs : List ZE} [h : ZV e] [k : ZVL zs] : ZVL (e :: zs):=⟨fun x hx=>by
  rcases List.mem_cons.1 hx with rfl | hx
  · exact h
  · exact k.h x hx⟩
instance ZV.b : ZV ⟨none,.bool false,BT false⟩:=⟨⟨rfl,rfl⟩,fun _=>rfl⟩
instance ZV.i {k : IntKind} : ZV ⟨none,.int k 0,.ex (.int k 0)⟩:=⟨⟨rfl,rfl⟩,fun _=>rfl⟩
instance ZV.sl : ZV ⟨none,.slice none 0 0,.ex (.slice none 0 0)⟩:=⟨⟨rfl,rfl⟩,fun _=>rfl⟩
instance ZV.n : ZV ⟨none,.nilIface,.ex .nilIface⟩:=⟨⟨rfl,rfl⟩,fun _=>rfl⟩
instance ZV.q : ZV ⟨some 3,.agg #[.bool false,.slice none 0 0,.slice none 0 0],FX 1 default⟩:=⟨⟨_,rfl,rfl,by simp [Value.oneCell']⟩,fun _=>zero_FX (Nat.le_refl _)⟩
theorem ZV.pts {n : Nat} {z : Array Value} (zs : List ZE) (h : ZVL zs) (hz : z = (flat (zs.map (·.z))).toArray) (hn : z.size = n) (h1 : (z.toList.all (·.oneCell')) = true) : ZV ⟨some n,.agg z,PTS (zs.map fun e=>(e.k,e.τ))⟩ :=
  ⟨⟨z,rfl,hn,fun c hc=>List.all_eq_true.1 h1 c hc⟩,fun G=>⟨zs.map (·.z),by rw [hz],by simp,fun i f u hf hu=>by
    rw [List.getElem?_map] at hf hu
    cases he : zs[i]? with
    | none=>rw [he] at hf;cases hf
    | some e =>
      rw [he] at hf hu;cases hf;cases hu
      have:=h.h e (List.mem_of_getElem? he)
      exact ⟨this.s,this.t G⟩⟩⟩
theorem Zer.of {P : Program} {t : TypeId} (e : ZE) [h : ZV e] (hz : (P.info? t).bind (·.zero) = some e.z) : Zer P t e.k e.τ:=⟨_,hz,h.s,h.t⟩
def plc : Nat → List (Option Nat) → List (Nat × Nat)
  | _,[]=>[]
  | o,k :: ks=>(o,k.getD 1) :: plc (o + k.getD 1) ks
class ZFl (P : Program) (t : TypeId) (zs : outParam (List ZE)) : Prop where
  z : ((P.info? t).bind (·.zero)).map (·.cells) = some (flat (zs.map (·.z))).toArray
  p : (match P.underlying t with | some (.struct fs)=>fs.toList.mapM (fun f=>(P.info? f.type).map fun i=>(f.offset,i.size)) | _=>none) = some (plc 0 (zs.map (·.k))) ∨
    ∃ n e s,P.underlying t = some (.array n e) ∧ (P.info? e).map (·.size) = some s ∧ plc 0 (zs.map (·.k)) = (List.range zs.length).map fun i=>(i * s,s)
  h : ZVL zs
theorem fill_sub {p q : Nat → Option (Nat × Nat)} (h : ∀ i x,p i = some x → q i = some x) : ∀ {ps : List (Nat × Value)} {cs r : Array Value},Instr.fill p cs ps = some r → Instr.fill q cs ps = some r
  | [],_,_,e=>e
  | (i,v) :: ps,cs,r,e=>by
    unfold Instr.fill at e ⊢
    cases hp : p i with
    | none=>rw [hp] at e;simp at e
    | some x =>
      rw [hp] at e;rw [h i x hp]
      revert e
      simp only [Option.bind_some,Option.bind_eq_bind]
      split <;> intro e <;> first | exact fill_sub h e | exact e
theorem built_arr {P : Program} {t : TypeId} {ps : List (Nat × Value)} {cs r : Array Value} {pl : List (Nat × Nat)} (h1 : ((P.info? t).bind (·.zero)).map (·.cells) = some cs) {n : Nat} {e : TypeId} {s m : Nat}
    (h2 : P.underlying t = some (.array n e)) (h3 : (P.info? e).map (·.size) = some s) (h4 : pl = (List.range m).map fun i=>(i * s,s)) (hr : Instr.fill (pl.toArray[·]?) cs ps = some r) : P.built t ps = some r:=by
  unfold Program.built
  cases hi : P.info? t with
  | none=>rw [hi] at h1;cases h1
  | some it =>
    rw [hi] at h1
    cases hz : it.zero with
    | none=>simp [hz] at h1
    | some z =>
      simp [hz] at h1
      cases hj : P.info? e with
      | none=>rw [hj] at h3;cases h3
      | some ie =>
        rw [hj] at h3
        have h3 : ie.size = s:=by simpa using h3
        subst h1
        simp only [h2,hz,hj,h3]
        refine fill_sub (fun i x hx=>?_) hr
        subst h4
        simp only [List.getElem?_toArray,List.getElem?_map] at hx
        cases hk : (List.range m)[i]? with
        | none=>rw [hk] at hx;cases hx
        | some k =>
          rw [hk] at hx
          have:=List.getElem?_eq_some_iff.1 hk
          obtain ⟨h5,h6⟩:=this
          simp at h6 hx
          rw [h6];rw [hx]
theorem built_eq {P : Program} {t : TypeId} {ps : List (Nat × Value)} {cs : Array Value} {pl : List (Nat × Nat)} (h1 : ((P.info? t).bind (·.zero)).map (·.cells) = some cs)
    (h2 : (match P.underlying t with | some (.struct fs)=>fs.toList.mapM (fun f=>(P.info? f.type).map fun i=>(f.offset,i.size)) | _=>none) = some pl) : P.built t ps = Instr.fill (pl.toArray[·]?) cs ps:=by
  unfold Program.built
  cases hi : P.info? t with
  | none=>rw [hi] at h1;cases h1
  | some it =>
    rw [hi] at h1
    cases hz : it.zero with
    | none=>simp [hz] at h1
    | some z =>
      simp [hz] at h1
      cases hu : P.underlying t with
      | none=>rw [hu] at h2;cases h2
      | some d =>
        rw [hu] at h2
        cases d <;> simp at h2
        simp only [hz,List.getElem?_toArray]
        simp [h2,h1]
theorem plc_get : ∀ {ks : List (Option Nat)} {o i : Nat} {k : Option Nat},ks[i]? = some k → (plc o ks)[i]? = some (o + ((ks.take i).map (·.getD 1)).sum,k.getD 1)
  | [],_,_,_,h=>by simp at h
  | k0 :: ks,o,0,k,h=>by cases h;simp [plc]
  | k0 :: ks,o,i + 1,k,h=>by
    have:=plc_get (ks:=ks) (o:=o + k0.getD 1) (i:=i) (k:=k) h
    simp only [plc,List.getElem?_cons_succ,this,List.take_succ_cons,List.map_cons,List.sum_cons]
    rw [Nat.add_assoc]
theorem fill_set {l1 l2 : List Value} {z v : Value} {n : Nat} (hz : z.cells.size = n) (hv : v.cells.size = n) :
    v.cells.zipIdx.foldl (fun cs (x : Value × Nat)=>cs.setIfInBounds ((flat l1).length + x.2) x.1) (flat (l1 ++ z :: l2)).toArray = (flat (l1 ++ v :: l2)).toArray:=by
  have e : ∀ u : Value,flat (l1 ++ u :: l2) = flat l1 ++ (u.cells.toList ++ flat l2):=fun u=>by simp [flat]
  rw [← Array.foldl_toList,Array.toList_zipIdx]
  obtain ⟨h1,h2⟩:=Great.foldl_set (flat l1).length v.cells.toList 0 (flat (l1 ++ z :: l2)).toArray
  apply Array.ext_getElem?
  intro k
  rw [h2 k,e,e]
  simp only [Nat.add_zero,Array.length_toList,hv,List.getElem?_toArray,List.size_toArray,List.length_append]
  have hz' : z.cells.toList.length = n:=by simpa using hz
  have hv' : v.cells.toList.length = n:=by simpa using hv
  by_cases hk : k < (flat l1).length
  · rw [if_neg (by omega),List.getElem?_append_left hk,List.getElem?_append_left hk]
  · have e2 : (flat l1 ++ (v.cells.toList ++ flat l2))[k]? = (v.cells.toList ++ flat l2)[k - (flat l1).length]?:=List.getElem?_append_right (by omega)
    rw [e2]
    by_cases hk2 : k < (flat l1).length + n
    · rw [if_pos (by omega),List.getElem?_append_left (by omega)]
    · rw [if_neg (by omega),List.getElem?_append_right (by omega),List.getElem?_append_right (by omega),List.getElem?_append_right (by omega),hz',hv']
class BldL (L : List (Nat × MT)) (zs : List ZE) (i : Nat) (ps : List (Nat × Operand)) (fs : outParam (List (Option Nat × MT))) (u : outParam (List Nat)) : Prop where
  h : ∀ {a : Act} {G : Gh} {ks : List (Option Nat)} {l : List Value} {pl : List (Nat × Nat)},Env L u a G → ZVL zs → l.length = i → ks.length = i → (∀ (j : Nat) (k : Option Nat) (x : Value),ks[j]? = some k → l[j]? = some x → Shaped k x) → pl = plc 0 (ks ++ zs.map (·.k)) →
    ∃ us,PF fs us G ∧ Instr.fill (pl.toArray[·]?) (flat (l ++ zs.map (·.z))).toArray (ps.map fun p=>(p.1,a.eval p.2)) = some (flat (l ++ us)).toArray
section
variable {L : List (Nat × MT)} {zs : List ZE} {i : Nat} {ps : List (Nat × Operand)} {fs : List (Option Nat × MT)} {u v : List Nat} {x : Operand} {τ : MT} {e : ZE} {P : Program} {B : List BX} {t : TypeId}
instance BldL.nil : BldL L [] i [] [] []:=⟨fun {a G ks l pl} _ _ _ _ _ _=>⟨[],⟨rfl,fun i f u h=>by simp at h⟩,rfl⟩⟩
theorem snoc_shp {ks : List (Option Nat)} {l : List Value} {k : Option Nat} {x : Value} (hl : l.length = i) (hk : ks.length = i) (h : ∀ (j : Nat) (k : Option Nat) (x : Value), ks[j]? = some k → l[j]? = some x → Shaped k x) (hs : Shaped k x) :
    ∀ (j : Nat) (k' : Option Nat) (x' : Value),(ks ++ [k])[j]? = some k' → (l ++ [x])[j]? = some x' → Shaped k' x':=fun j k' x' h1 h2=>by
  by_cases hj : j < i
  · rw [List.getElem?_append_left (by omega)] at h1 h2;exact h j k' x' h1 h2
  · rw [List.getElem?_append_right (by omega)] at h1 h2
    rw [hk] at h1;rw [hl] at h2
    cases hd : j - i with
    | zero=>rw [hd] at h1 h2;cases h1;cases h2;exact hs
    | succ m=>rw [hd] at h1;cases h1
instance (priority:=500) BldL.skip {k0 : Option Nat} {z0 : Value} {τ0 : MT} [k : BldL L zs (i + 1) ps fs u] : BldL L (⟨k0,z0,τ0⟩ :: zs) i ps ((k0,τ0) :: fs) u:=⟨fun {a G ks l pl} hE hz hl hk hs hp=>by
  have he : ZV ⟨k0,z0,τ0⟩:=hz.h _ (.head _)
  obtain ⟨us,h1,h2⟩:=k.h (ks:=ks ++ [k0]) (l:=l ++ [z0]) (pl:=pl) hE ⟨fun x hx=>hz.h x (.tail _ hx)⟩ (by simp [hl]) (by simp [hk]) (snoc_shp hl hk hs he.s) (by rw [hp];simp)
  exact ⟨z0 :: us,.mk he.s (he.t G) h1,by simpa using h2⟩⟩
theorem flat_lenS : ∀ {ks : List (Option Nat)} {l : List Value},ks.length = l.length → (∀ (j : Nat) (k : Option Nat) (x : Value),ks[j]? = some k → l[j]? = some x → Shaped k x) → (flat l).length = (ks.map (·.getD 1)).sum
  | [],[],_,_=>rfl
  | k :: ks,x :: l,h,hs=>by
    rw [flat_cns,List.length_append,List.map_cons,List.sum_cons,flat_lenS (by simpa using h) fun j k' x' h1 h2=>hs (j + 1) k' x' h1 h2]
    have:=shaped_size (hs 0 k x rfl rfl)
    simp [this]
instance BldL.take {k0 : Option Nat} {z0 : Value} {τ0 : MT} [h : Opd L x τ u] [sh : ShK τ k0] [k : BldL L zs (i + 1) ps fs v] : BldL L (⟨k0,z0,τ0⟩ :: zs) i ((i,x) :: ps) ((k0,τ) :: fs) (u ++ v):=⟨fun {a G ks l pl} hE hz hl hk hs hp=>by
  have he : ZV ⟨k0,z0,τ0⟩:=hz.h _ (.head _)
  have hx:=h.h hE.l
  have hxs:=sh.h hx
  obtain ⟨us,h1,h2⟩:=k.h (ks:=ks ++ [k0]) (l:=l ++ [a.eval x]) (pl:=pl) hE.r ⟨fun x hx=>hz.h x (.tail _ hx)⟩ (by simp [hl]) (by simp [hk]) (snoc_shp hl hk hs hxs) (by rw [hp];simp)
  refine ⟨a.eval x :: us,.mk hxs hx h1,?_⟩
  have hpl : pl.toArray[i]? = some ((flat l).length,k0.getD 1):=by
    have:=plc_get (ks:=ks ++ ((⟨k0,z0,τ0⟩ : ZE) :: zs).map (·.k)) (o:=0) (i:=i) (k:=k0) (by rw [List.getElem?_append_right (by omega),hk];simp)
    rw [hp]
    simp only [List.getElem?_toArray,this]
    rw [flat_lenS (hk.trans hl.symm) hs]
    rw [show i = ks.length from hk.symm,List.take_left,Nat.zero_add]
  simp only [List.map_cons]
  rw [Instr.fill,hpl]
  simp only [shaped_size hxs]
  have hle : (flat l).length + k0.getD 1 ≤ (flat (l ++ z0 :: List.map (fun x=>x.z) zs)).length:=by
    have : flat (l ++ z0 :: zs.map (·.z)) = flat l ++ (z0.cells.toList ++ flat (zs.map (·.z))):=by simp [flat]
    rw [this]
    have:=shaped_size he.s
    simp [this]
  rw [if_neg (by simp;omega),fill_set (shaped_size he.s) (shaped_size hxs)]
  simpa using h2⟩
instance Op1.bld {ps : List (Nat × Operand)} [z : ZFl P t zs] [k : BldL L zs 0 ps fs u] : Op1 P L B (.build t ps.toArray) True (PTS fs) u:=⟨fun {W0 w a G o} ho hok e _ _=>by
  obtain ⟨us,h1,h2⟩:=k.h (ks:=[]) (l:=[]) (pl:=plc 0 (zs.map (·.k))) e z.h rfl rfl (fun j k x h=>by simp at h) rfl
  refine .bldP hok ho (us:=us) ?_ h1.1 h1.2
  have : ((ps.toArray.map fun (i,x)=>(i,a.eval x)).toList : List (Nat × Value)) = ps.map fun p=>(p.1,a.eval p.2):=by simp only [List.map_toArray]
  rw [this]
  rcases z.p with hp | ⟨n,e,s,h3,h4,h5⟩
  · rw [built_eq z.z hp];simpa using h2
  · exact built_arr z.z h3 h4 h5 (by simpa using h2)⟩
class BZ (P : Program) (t : TypeId) (τ : outParam MT) : Prop where
  h : ∃ cs,P.built t [] = some cs ∧ ∀ G,τ.t (.agg cs) G
instance Op1.bz {τ : MT} {P : Program} {B : List BX} {L : List (Nat × MT)} {t : TypeId} [z : BZ P t τ] : Op1 P L B (.build t (List.toArray [])) True τ []:=⟨fun ho hok e _ _=>by
  obtain ⟨cs,h1,h2⟩:=z.h
  exact .bld hok ho (by simpa using h1) (h2 _)⟩
class SlE (P : Program) (t : TypeId) (k : outParam (Option Nat)) : Prop where
  h : ∃ e,P.underlying t = some (.slice e) ∧ tyS P e k = true
theorem SlE.of {P : Program} {t : TypeId} {k : Option Nat} (e : TypeId) (h1 : P.underlying t = some (.slice e)) (h2 : tyS P e k = true) : SlE P t k:=⟨e,h1,h2⟩
class ElS (P : Program) (t : TypeId) (e : outParam TypeId) (k : outParam (Option Nat)) (bytes : outParam Nat) (z : outParam Value) : Prop where
  h1 : P.underlying t = some (.slice e)
  h2 : elS P e (k.getD 1) bytes z
  h3 : (decide (0 < k.getD 1)) = true
class AsLS (τ : MT) (k : Option Nat) (τs : outParam (List MT)) : Prop where
  h : ∀ {v : Value} {G : Gh},τ.t v G → (LS k τs).t v G
instance AsLS.l {k : Option Nat} {τs : List MT} : AsLS (LS k τs) k τs:=⟨fun h=>h⟩
instance AsLS.c {k : Option Nat} {τs : List MT} : AsLS (LSC k τs) k τs:=⟨fun h=>h.1⟩
instance AsLS.n {k : Option Nat} : AsLS (.ex (.slice none 0 0)) k []:=⟨fun h=>by cases h;exact ⟨none,0,rfl,Nat.le_refl _,Nat.zero_le _,fun i τ h=>by simp at h⟩⟩
class AsT {α : Type} (τ : MT) (T : α → MT) (x : outParam α) : Prop where
  h : ∀ {v : Value} {G : Gh},τ.t v G → (T x).t v G
class AsTL {α : Type} (τs : List MT) (T : α → MT) (xs : outParam (List α)) : Prop where
  h : τs.length = xs.length ∧ ∀ (i : Nat) (τ : MT),τs[i]? = some τ → ∃ x,xs[i]? = some x ∧ ∀ {v : Value} {G : Gh},τ.t v G → (T x).t v G
instance AsTL.m {α : Type} {T : α → MT} {xs : List α} : AsTL (xs.map T) T xs:=⟨by simp,fun i τ h=>by
  rw [List.getElem?_map] at h
  cases hx : xs[i]? with
  | none=>rw [hx] at h;cases h
  | some x=>rw [hx] at h;cases h;exact ⟨x,rfl,fun h=>h⟩⟩
instance AsTL.nil {α : Type} {T : α → MT} : AsTL [] T []:=⟨rfl,fun i τ h=>by simp at h⟩
instance AsTL.cons {α : Type} {T : α → MT} {τ : MT} {τs : List MT} {x : α} {xs : List α} [h : AsT τ T x] [l : AsTL τs T xs] : AsTL (τ :: τs) T (x :: xs):=⟨by simp [l.h.1],fun i σ hi=>by
  cases i with
  | zero=>cases hi;exact ⟨x,rfl,h.h⟩
  | succ i=>exact l.h.2 i σ (by simpa using hi)⟩
theorem Elt.cv {k : Option Nat} {τ τ' : MT} {G : Gh} {b i : Nat} (h : Elt k τ G b i) (f : ∀ {v : Value},τ.t v G → τ'.t v G) : Elt k τ' G b i:=by
  cases k with
  | none=>obtain ⟨u,h1,h2,h3⟩:=h;exact ⟨u,h1,f h2,h3⟩
  | some n=>obtain ⟨cs,h1,h2,h3,h4⟩:=h;exact ⟨cs,h1,h2,f h3,h4⟩
theorem AsTL.ls {α : Type} {T : α → MT} {τs : List MT} {xs : List α} (l : AsTL τs T xs) {k : Option Nat} {v : Value} {G : Gh} (h : (LS k τs).t v G) : (LS k (xs.map T)).t v G:=by
  obtain ⟨A,c,h1,h2,h3,h4⟩:=h
  obtain ⟨l1,l2⟩:=l.h
  refine ⟨A,c,by rw [h1,List.length_map,l1],by rw [List.length_map,← l1];exact h2,by rw [List.length_map,← l1];exact h3,fun i σ hi=>?_⟩
  rw [List.getElem?_map] at hi
  cases hx : xs[i]? with
  | none=>rw [hx] at hi;cases hi
  | some x =>
    rw [hx] at hi;cases hi
    have hlt : i < τs.length:=by rw [l1];exact (List.getElem?_eq_some_iff.1 hx).1
    have hτ : τs[i]? = some τs[i]:=List.getElem?_eq_getElem hlt
    obtain ⟨x',e1,e2⟩:=l2 i _ hτ
    rw [hx] at e1;cases e1
    obtain ⟨b,off,e3,e4⟩:=h4 i _ hτ
    exact ⟨b,off,e3,e4.cv e2⟩
instance (priority:=800) Prt.cir {x : Bool × Bool × Int} {i : Nat} {kt : Option Nat} {τ : MT} [h : PrtL [(none,BT x.1),(none,BT x.2.1),(none,IT x.2.2)] i kt τ] : Prt (CIR x) i kt τ:=(inferInstance : Prt (PTS [(none,BT x.1),(none,BT x.2.1),(none,IT x.2.2)]) i kt τ)
instance {a b : Bool} {z : Int} : AsT (PTS [(none,BT a),(none,BT b),(none,IT z)]) CIR (a,b,z):=⟨fun h=>h⟩
instance {n : Nat} {r : FR} : AsT (FX n r) (FX n) r:=⟨fun h=>h⟩
instance {n : Nat} {x : Rat} : AsT (QC n x) (QC n) x:=⟨fun h=>h⟩
instance {n : Nat} {x : Rat} : AsT (QV n x) (QV n) x:=⟨fun h=>h⟩
instance {z : Int} : AsT (IT z) (fun z=>IT z) z:=⟨fun h=>h⟩
instance (priority:=800) Cv.lc {k : Option Nat} {τs : List MT} {α : Type} {T : α → MT} {xs ys : List α} [h : AsTL τs T xs] : Cv (LSC k τs) (LS k (ys.map T)) (xs = ys):=⟨fun e v G hv=>by
  subst e;exact h.ls hv.1⟩
instance (priority:=800) Cv.ll {k : Option Nat} {τs : List MT} {α : Type} {T : α → MT} {xs ys : List α} [h : AsTL τs T xs] : Cv (LS k τs) (LS k (ys.map T)) (xs = ys):=⟨fun e v G hv=>by
  subst e;exact h.ls hv⟩
instance (priority:=800) Cv.ln {k : Option Nat} {α : Type} {T : α → MT} {ys : List α} : Cv (.ex (.slice none 0 0)) (LS k (ys.map T)) (ys = []):=⟨fun e v G hv=>by
  cases hv;subst e;exact LS.nil⟩
class AsLM {α : Type} (τ : MT) (k : Option Nat) (T : α → MT) (xs : outParam (List α)) : Prop where
  h : ∀ {v : Value} {G : Gh},τ.t v G → (LS k (xs.map T)).t v G
class SlL (L : List (Nat × MT)) (i n : Nat) (ps : List (Nat × Operand)) (k : Option Nat) (τs : outParam (List MT)) (u : outParam (List Nat)) : Prop where
  h : i + ps.length = n ∧ ∀ {a : Act} {G : Gh},Env L u a G → ∃ us,us.length = ps.length ∧ Els k τs us G ∧ ps.map (fun p=>(p.1,a.eval p.2)) = (us.zipIdx i).map fun x=>(x.2,x.1)
class KS (k : Option Nat) (s : outParam Nat) : Prop where
  h : k.getD 1 = s
instance KS.n : KS none 1:=⟨rfl⟩
instance KS.s {n : Nat} : KS (some n) n:=⟨rfl⟩
section
variable {k : Option Nat} {τs σs : List MT} {ps : List (Nat × Operand)}
instance SlL.nil {n : Nat} : SlL L n n [] k [] []:=⟨rfl,fun _=>⟨[],rfl,⟨rfl,fun i τ u h=>by simp at h⟩,rfl⟩⟩
instance SlL.cons {n : Nat} [h : Opd L x τ u] [sh : ShK τ k] [l : SlL L (i + 1) n ps k τs v] : SlL L i n ((i,x) :: ps) k (τ :: τs) (u ++ v):=⟨by have:=l.h.1;simp only [List.length_cons];omega,fun {a G} e=>by
  obtain ⟨us,h1,⟨h2,h3⟩,h4⟩:=l.h.2 e.r
  have hx:=h.h e.l
  refine ⟨a.eval x :: us,by simp [h1],⟨by simp [h2],fun j σ y hj hy=>?_⟩,by simp [h4]⟩
  cases j with
  | zero=>cases hj;cases hy;exact ⟨sh.h hx,hx⟩
  | succ j=>exact h3 j σ y hj hy⟩
variable {e0 : TypeId} {by0 n s0 : Nat} {z0 : Value}
instance Op1.bsl [e : ElS P t e0 k by0 z0] [ks : KS k s0] [l : SlL L 0 n ps k τs u] : Op1 P L B (.buildSlice t n ps.toArray) (n * s0 ≤ 16777216 ∧ 0 < n) (LSC k τs) u:=⟨fun {W0 w a G o} ho hok hE _ hp=>by
  obtain ⟨us,h1,h2,h3⟩:=l.h.2 hE
  have hl:=l.h.1
  refine .buildSC hok ho e.h1 e.h2 e.h3 (by rw [ks.h];exact hp.1) hp.2 (us:=us) (?_ : _ = _) (by omega) h2
  have : ((ps.toArray.map fun (i,x)=>(i,a.eval x)).toList : List (Nat × Value)) = ps.map fun p=>(p.1,a.eval p.2):=by simp only [List.map_toArray]
  rw [this,h3]⟩
variable {y : Operand} {α : Type} {T : α → MT} {xs : List α} {m : Int}
instance Op1.len [s : SlE P t k] [h : Opd L x τ u] [l : AsLS τ k τs] : Op1 P L B (.call { callee:=.builtin .len,args:=#[x],argTypes:=#[t] }) True (IT τs.length) u:=⟨fun ho hok e _ _=>by obtain ⟨e',h1,h2⟩:=s.h;exact .lenS hok ho h1 (l.h (h.h e)) rfl⟩
instance (priority:=1100) Op1.lenM [s : SlE P t k] [h : Opd L x (LS k (xs.map T)) u] : Op1 P L B (.call { callee:=.builtin .len,args:=#[x],argTypes:=#[t] }) True (IT xs.length) u:=⟨fun ho hok e _ _=>by obtain ⟨e',h1,h2⟩:=s.h;exact .lenM hok ho h1 (h.h e) rfl⟩
instance Op1.ixM [Inhabited α] [s : SlE P t k] [h : Opd L x (LS k (xs.map T)) u] [h2 : Opd L y (IT m) v] : Op1 P L B (.indexAddr t x y) (0 ≤ m ∧ m < xs.length) (PE k (T (xs.getD m.toNat default))) (u ++ v):=⟨fun ho hok e _ hp=>by
  obtain ⟨e',h3,h4⟩:=s.h
  exact .ixM hok ho h3 h4 (h.h e.l) (h2.h e.r) (i:=m.toNat) (by omega) (by omega)⟩
instance (priority:=1100) Op1.ixN [Inhabited α] {j : Nat} [s : SlE P t k] [h : Opd L x (LS k (xs.map T)) u] [h2 : Opd L y (NT j) v] : Op1 P L B (.indexAddr t x y) (j < xs.length) (PE k (T (xs.getD j default))) (u ++ v):=⟨fun ho hok e _ hp=>by
  obtain ⟨e',h3,h4⟩:=s.h
  exact .ixM hok ho h3 h4 (h.h e.l) (h2.h e.r) (i:=j) rfl hp⟩
instance (priority:=1200) Op1.ixC [Inhabited α] {j : Nat} [s : SlE P t k] [h : Opd L x (LS k (xs.map T)) u] : Op1 P L B (.indexAddr t x (.const (.int .i64 (OfNat.ofNat j)))) (j < xs.length) (PE k (T (xs.getD j default))) u:=⟨fun ho hok e _ hp=>by
  obtain ⟨e',h3,h4⟩:=s.h
  exact .ixM hok ho h3 h4 (h.h e) (y:=.const (.int .i64 (OfNat.ofNat j))) (m:=OfNat.ofNat j) rfl (i:=j) rfl hp⟩
class FS (P : Program) (s f : Nat) (k : outParam (Option Nat)) : Prop where
  h : True
instance Op1.fldE {s f off n s0 : Nat} {k' : Option Nat} {τ' : MT} [ko : FO P s f off] [FS P s f k'] [ks : KS k' s0] [h : Opd L x (PE (some n) τ) u] [hp : Prt τ off k' τ'] : Op1 P L B (.fieldAddr s x f) (off + s0 ≤ n) (PE k' τ') u :=
  ⟨fun ho hok e _ hle=>.fldE hok ho (h.h e) ko.h (by rw [ks.h];exact decide_eq_true hle) fun v ht hs=>hp.h ht hs⟩
instance Op1.ldE [s : TyS P t k] [h : Opd L x (PE k τ) u] : Op1 P L B (.load t x) True τ u:=⟨fun ho hok e _ _=>.ldE hok ho s.h (h.h e)⟩
end
end
end Go.Proofs.YtboicjlbbbodgaaGreatDoor
namespace Go.Proofs.YtboicjlbbbodgaaGreatDoor
open Go.RowKit (Below)
inductive SE where
  | g (d : Nat) (τ : MT) (u : List Nat)
  | al (d : Nat) (ty : TypeId) (k : Option Nat) (τ : MT)
  | st (j : Nat) (τ : MT) (u : List Nat)
  | sx (j : Nat) (τ : MT) (u : List Nat)
def depS : Nat → List SE → List Nat → List Nat
  | _,[],_=>[]
  | i,.g d _ _ :: es,u=>if u.contains d then i :: depS (i + 1) es u else depS (i + 1) es u
  | i,_ :: es,u=>depS (i + 1) es u
def poS (nB : Nat) (all : List SE) : SE → PO3
  | .g d τ u=>⟨d,.g τ,depS 0 all u⟩
  | .al d ty k τ=>⟨d,.al mkP ty k τ,[]⟩
  | .st j τ u=>⟨9998,.st (nB + j) τ,j :: depS 0 all u⟩
  | .sx j τ u=>⟨9998,.st j τ,depS 0 all u⟩
def plS (nB : Nat) (all : List SE) : List PO3:=all.map (poS nB all)
theorem plS_get {nB : Nat} {all : List SE} {i : Nat} {e : SE} (h : all[i]? = some e) : (plS nB all)[i]? = some (poS nB all e):=by simp [plS,h]
theorem depS_mem : ∀ {es : List SE} {o i d : Nat} {τ : MT} {v u : List Nat},es[i]? = some (.g d τ v) → d ∈ u → o + i ∈ depS o es u
  | e :: es,o,0,d,τ,v,u,h,hu=>by cases h;simp [depS,hu]
  | e :: es,o,i + 1,d,τ,v,u,h,hu=>by
    have ih : o + 1 + i ∈ depS (o + 1) es u:=depS_mem (es:=es) (by simpa using h) hu
    rw [show o + (i + 1) = o + 1 + i by omega]
    cases e with
    | g d' τ' u'=>unfold depS;split <;> simp [ih]
    | al=>exact ih
    | st=>exact ih
    | sx=>exact ih
  | [],_,_,_,_,_,_,h,_=>by simp at h
def tgt (nB : Nat) : SE → Option (Nat × MT)
  | .st j τ _=>some (nB + j,τ)
  | .sx j τ _=>some (j,τ)
  | _=>none
def tgs (nB : Nat) (es : List SE) : List Nat:=es.filterMap fun e=>(tgt nB e).map (·.1)
def nodupB : List Nat → Bool
  | []=>true
  | j :: l=>!l.contains j && nodupB l
def uniqS (nB : Nat) (es : List SE) : Bool:=nodupB (tgs nB es)
theorem tgs_mem {nB v : Nat} {τ : MT} {e : SE} {es : List SE} {i : Nat} (h : es[i]? = some e) (ht : tgt nB e = some (v,τ)) : v ∈ tgs nB es:=List.mem_filterMap.2 ⟨e,List.mem_of_getElem? h,by rw [ht];rfl⟩
theorem storeOf_st {nB v : Nat} {τ : MT} {all : List SE} {e : SE} (ht : tgt nB e = some (v,τ)) : ∀ {es : List SE} {o i : Nat},nodupB (tgs nB es) = true → es[i]? = some e → storeOf (es.map (poS nB all)) o v = some (o + i,τ)
  | x :: es,o,0,hu,h=>by
    obtain rfl : x = e:=by simpa using h
    cases x with
    | g=>cases ht
    | al=>cases ht
    | st j' τ' u'=>cases ht;simp [storeOf,poS]
    | sx j' τ' u'=>cases ht;simp [storeOf,poS]
  | x :: es,o,i + 1,hu,h=>by
    have h' : es[i]? = some e:=by simpa using h
    have hm : v ∈ tgs nB es:=tgs_mem h' ht
    rw [show o + (i + 1) = o + 1 + i by omega]
    have key : ∀ w τ',tgt nB x = some (w,τ') → w ≠ v ∧ nodupB (tgs nB es) = true:=fun w τ' hx=>by
      have e1 : tgs nB (x :: es) = w :: tgs nB es:=by simp [tgs,hx]
      rw [e1] at hu
      simp only [nodupB,Bool.and_eq_true,Bool.not_eq_true'] at hu
      exact ⟨fun e=>(by rw [e] at hu;have:=List.contains_iff_mem.2 hm;rw [hu.1] at this;cases this),hu.2⟩
    cases x with
    | g d τ' u'=>exact storeOf_st ht (es:=es) hu h'
    | al d ty k τ'=>exact storeOf_st ht (es:=es) hu h'
    | st j τ' u' =>
      obtain ⟨h1,h2⟩:=key _ _ rfl
      simp only [List.map_cons,storeOf,poS]
      rw [if_neg (by simpa using h1)]
      exact storeOf_st ht (es:=es) h2 h'
    | sx j τ' u' =>
      obtain ⟨h1,h2⟩:=key _ _ rfl
      simp only [List.map_cons,storeOf,poS]
      rw [if_neg (by simpa using h1)]
      exact storeOf_st ht (es:=es) h2 h'
  | [],_,_,_,h=>by simp at h
theorem storeOf_no {nB v : Nat} {all : List SE} : ∀ {es : List SE} {o : Nat},(tgs nB es).contains v = false → storeOf (es.map (poS nB all)) o v = none
  | [],_,_=>rfl
  | x :: es,o,h=>by
    have key : ∀ w τ',tgt nB x = some (w,τ') → w ≠ v ∧ (tgs nB es).contains v = false:=fun w τ' hx=>by
      have e1 : tgs nB (x :: es) = w :: tgs nB es:=by simp [tgs,hx]
      rw [e1,List.contains_cons,Bool.or_eq_false_iff] at h
      exact ⟨fun e=>by rw [e] at h;simp at h,h.2⟩
    cases x with
    | g d τ' u'=>exact storeOf_no (es:=es) h
    | al d ty k τ'=>exact storeOf_no (es:=es) h
    | st j τ' u' =>
      obtain ⟨h1,h2⟩:=key _ _ rfl
      simp only [List.map_cons,storeOf,poS]
      rw [if_neg (by simpa using h1)]
      exact storeOf_no (es:=es) h2
    | sx j τ' u' =>
      obtain ⟨h1,h2⟩:=key _ _ rfl
      simp only [List.map_cons,storeOf,poS]
      rw [if_neg (by simpa using h1)]
      exact storeOf_no (es:=es) h2
def bxOk (ops : Array Oper) (nB : Nat) (es : List SE) : Bool :=
  (List.range es.length).all fun i=>match es[i]? with
    | some (.g _ _ u)=>u.all fun c=>decide (c < 1000000) || freeB ops (plS nB es) i (c - 1000000)
    | _=>true
theorem seeB_at {ops : Array Oper} {PL : List PO3} {i : Nat} : ∀ {B : List BX} {v c : Nat} {x : BX},B[c]? = some x → freeB ops PL i (v + c) = true → (seeB ops PL i v B)[c]? = some x
  | y :: B,v,0,x,h,hf=>by cases h;rw [Nat.add_zero] at hf;simp [seeB,hf]
  | y :: B,v,c + 1,x,h,hf=>by
    have:=seeB_at (ops:=ops) (PL:=PL) (i:=i) (B:=B) (v:=v + 1) (c:=c) (x:=x) (by simpa using h) (by rw [show v + 1 + c = v + (c + 1) by omega];exact hf)
    simpa [seeB] using this
  | [],_,_,_,h,_=>by simp at h
theorem bxOk_at {ops : Array Oper} {nB i d : Nat} {τ : MT} {u : List Nat} {es : List SE} {B : List BX} (h : bxOk ops nB es = true) (hi : es[i]? = some (.g d τ u)) {W0 w : World} {G0 : Gh} {N : Nat} {L : List (Nat × MT)} {a : Act} {G : Gh} (S : St W0 G0 N L (seeB ops (plS nB es) i 0 B) a w G) : Bku B u W0 w G:=fun c x hc hx=>by
  have h1:=List.all_eq_true.1 h i (List.mem_range.2 (List.getElem?_eq_some_iff.1 hi).1)
  rw [hi] at h1
  have h2:=List.all_eq_true.1 h1 _ hc
  simp only [Bool.or_eq_true,decide_eq_true_eq,Nat.add_sub_cancel_left] at h2
  rcases h2 with h2 | h2
  · omega
  · exact S.bx c x (seeB_at hx (by rw [Nat.zero_add];exact h2))
class Sto (P : Program) (L : List (Nat × MT)) (B : List BX) (t : TypeId) (x y : Operand) (j : outParam Nat) (τ : outParam MT) (pre : outParam Prop) (u : outParam (List Nat)) : Prop where
  h : ∃ xb,B[j]? = some xb ∧ (∀ {a : Act} {w : World} {G : Gh} {v0 : Value},pre → Env L u a G → w.heap[xb.b]? = some (.cells v0.cells xb.ty (0,0)) → Shaped xb.k v0 → xb.τ.t v0 G →
    ∃ v1,Shaped xb.k v1 ∧ τ.t v1 G ∧ ∀ {o : Oper} (Q : Exit → Act → World → Prop) (K : Act → World → Prop),o.op = .store t x y → o.dst = none → K a (w.setRow xb.b v1.cells) → o.wp P a w K Q)
inductive RunSI (P : Program) (B : List BX) (all : List Oper) : Nat → List (Nat × MT) → List (Nat × Nat × Option Nat) → List Oper → Prop → List SE → List Oper → Prop
  | stop {i : Nat} {L : List (Nat × MT)} {als : List (Nat × Nat × Option Nat)} {ops : List Oper} : RunSI P B all i L als ops True [] ops
  | cons {i : Nat} {L : List (Nat × MT)} {als : List (Nat × Nat × Option Nat)} {ops : List Oper} {d : Nat} {op : Op} {ty : TypeId} {pos : String} {aft : Array Edge} {pre pre' : Prop} {τ : MT} {u : List Nat} {es : List SE} {rest : List Oper} :
      Op1 P L B op pre τ u → RunSI P B all (i + 1) ((d,τ) :: L) als ops pre' es rest → RunSI P B all i L als (⟨some d,op,ty,pos,aft,none⟩ :: ops) (pre ∧ pre') (.g d τ u :: es) rest
  | gcons {i : Nat} {L L' : List (Nat × MT)} {als : List (Nat × Nat × Option Nat)} {ops : List Oper} {d : Nat} {op : Op} {ty : TypeId} {pos : String} {aft : Array Edge} {pre pre' : Prop} {τ : MT} {u : List Nat} {es : List SE} {rest : List Oper} {j dj : Nat} {pol : Bool} {τg : MT} {wr : MT → MT} {wp : Prop → Prop} :
      (all[j]?).bind (·.dst) = some dj → (dj,τg) ∈ L → Gw τg pol L L' wr wp → Op1 P L' B op pre τ u → RunSI P B all (i + 1) ((d,wr τ) :: L) als ops pre' es rest →
      RunSI P B all i L als (⟨some d,op,ty,pos,aft,some (j,pol)⟩ :: ops) (wp pre ∧ pre') (.g d (wr τ) (dj :: u) :: es) rest
  | al {i : Nat} {L : List (Nat × MT)} {als : List (Nat × Nat × Option Nat)} {ops : List Oper} {d : Nat} {t ty : TypeId} {pos : String} {aft : Array Edge} {pre : Prop} {z : Value} {k : Option Nat} {es : List SE} {rest : List Oper} :
      (P.info? t).bind (·.zero) = some z → Shaped k z → RunSI P B all (i + 1) L ((d,i,k) :: als) ops pre es rest → RunSI P B all i L als (⟨some d,.alloc t,ty,pos,aft,none⟩ :: ops) pre (.al d t k (.ex z) :: es) rest
  | st {i j : Nat} {L : List (Nat × MT)} {als : List (Nat × Nat × Option Nat)} {ops : List Oper} {d : Nat} {t ty : TypeId} {pos : String} {aft : Array Edge} {pre : Prop} {τ : MT} {k : Option Nat} {y : Operand} {u : List Nat} {es : List SE} {rest : List Oper} :
      (d,j,k) ∈ als → tyS P t k = true → Opd L y τ u → ShK τ k → RunSI P B all (i + 1) L als ops pre es rest → RunSI P B all i L als (⟨none,.store t (.tmp d) y,ty,pos,aft,none⟩ :: ops) pre (.st j τ u :: es) rest
  | sx {i j b : Nat} {L : List (Nat × MT)} {als : List (Nat × Nat × Option Nat)} {ops : List Oper} {t ty tb : TypeId} {pos : String} {aft : Array Edge} {pre : Prop} {τ τb : MT} {k : Option Nat} {x y : Operand} {u v : List Nat} {es : List SE} {rest : List Oper} :
      Opd L x (PB b) u → B[j]? = some ⟨b,tb,k,τb⟩ → tyS P t k = true → Opd L y τ v → ShK τ k → RunSI P B all (i + 1) L als ops pre es rest → RunSI P B all i L als (⟨none,.store t x y,ty,pos,aft,none⟩ :: ops) pre (.sx j τ (u ++ v) :: es) rest
  | si {i j : Nat} {L : List (Nat × MT)} {als : List (Nat × Nat × Option Nat)} {ops : List Oper} {t ty : TypeId} {pos : String} {aft : Array Edge} {pre pre' : Prop} {τ : MT} {x y : Operand} {u : List Nat} {es : List SE} {rest : List Oper} :
      Sto P L B t x y j τ pre u → RunSI P B all (i + 1) L als ops pre' es rest → RunSI P B all i L als (⟨none,.store t x y,ty,pos,aft,none⟩ :: ops) (pre ∧ pre') (.sx j τ u :: es) rest
section
variable {P : Program} {B : List BX} {all : List Oper} {L L0 : List (Nat × MT)} {als : List (Nat × Nat × Option Nat)} {ops : List Oper} {pre : Prop} {es : List SE} {rest : List Oper} {i : Nat}
variable {W0 : World} {G0 : Gh} {N : Nat} {a : Act} {w : World} {G : Gh} {Q : Exit → Act → World → Prop}
theorem mem_dep3 {nB i d : Nat} {τ : MT} {v u : List Nat} (h : es[i]? = some (.g d τ v)) (hu : d ∈ u) {l : List Nat} (hl : ∀ x ∈ depS 0 es u,x ∈ l) : (d,τ) ∈ depL3 (plS nB es) l:=by
  refine List.mem_filterMap.2 ⟨i,hl i (by have:=depS_mem (o:=0) h hu;rwa [Nat.zero_add] at this),?_⟩
  rw [plS_get h];rfl
theorem RunSI.obls (R : RunSI P B all i L als ops pre es rest) : ∀ {e0 : List SE}, (∀ p ∈ L, p ∈ L0 ∨ ∃ v, SE.g p.1 p.2 v ∈ e0) → (∀ x ∈ als, ∃ t z, e0[x.2.1]? = some (.al x.1 t x.2.2 z)) → e0.length = i → ops = all.drop i → pre → uniqS B.length (e0 ++ es) = true → bxOk all.toArray B.length (e0 ++ es) = true →
    Obls3 P W0 G0 N L0 B all.toArray (plS B.length (e0 ++ es)) i ((plS B.length (e0 ++ es)).drop i):=by
  induction R with
  | stop =>
    intro e0 _ _ hi _ _ _ _
    subst hi
    rw [List.append_nil,plS,List.drop_eq_nil_of_le (by simp)];trivial
  | @cons i L als ops d op ty pos aft pre pre' τ u es rest h _ ih =>
    intro e0 hL hA hi hops hp hu hx
    have hg : (e0 ++ .g d τ u :: es)[i]? = some (.g d τ u):=by subst hi;simp
    have hpl:=plS_get (nB:=B.length) hg
    have hlt : i < (plS B.length (e0 ++ .g d τ u :: es)).length:=(List.getElem?_eq_some_iff.1 hpl).1
    have ho : all[i]? = some ⟨some d,op,ty,pos,aft,none⟩:=by
      have:=congrArg (fun l : List Oper=>l[0]?) hops
      simpa using this.symm
    rw [List.drop_eq_getElem_cons hlt,(List.getElem?_eq_some_iff.1 hpl).2]
    have hn:=ih (e0:=e0 ++ [.g d τ u]) (fun p hp=>by
      rcases List.mem_cons.1 hp with rfl | hp
      · exact .inr ⟨u,by simp⟩
      · rcases hL p hp with h | ⟨v,h1⟩
        · exact .inl h
        · exact .inr ⟨v,List.mem_append_left _ h1⟩) (fun x hx=>by obtain ⟨t,z,h⟩:=hA x hx;exact ⟨t,z,by rw [List.getElem?_append_left (List.getElem?_eq_some_iff.1 h).1];exact h⟩) (by simp [hi]) (by rw [← List.drop_drop,← hops];rfl) hp.2 (by simpa using hu) (by simpa using hx)
    rw [List.append_assoc] at hn
    refine ⟨⟨by simp [ho,poS],fun a w G S=>?_⟩,hn⟩
    have hgo : (all.toArray.getD i default) = ⟨some d,op,ty,pos,aft,none⟩:=by simp [ho]
    rw [hgo]
    refine .of rfl (h.ok rfl S.ok (fun t τ' ht hm=>?_) (bxOk_at hx hg S) hp.1)
    rcases hL _ hm with h | ⟨v,h1⟩
    · exact S.mem (List.mem_append_right _ h)
    · obtain ⟨k,hk⟩:=List.mem_iff_getElem?.1 h1
      exact S.mem (List.mem_append_left _ (mem_dep3 (by rw [List.getElem?_append_left (List.getElem?_eq_some_iff.1 hk).1];exact hk) ht fun x hx=>hx))
  | @gcons i L L' als ops d op ty pos aft pre pre' τ u es rest j dj pol τg wr wp hj hm g h _ ih =>
    intro e0 hL hA hi hops hp hu hx
    have hg : (e0 ++ .g d (wr τ) (dj :: u) :: es)[i]? = some (.g d (wr τ) (dj :: u)):=by subst hi;simp
    have hpl:=plS_get (nB:=B.length) hg
    have hlt : i < (plS B.length (e0 ++ .g d (wr τ) (dj :: u) :: es)).length:=(List.getElem?_eq_some_iff.1 hpl).1
    have ho : all[i]? = some ⟨some d,op,ty,pos,aft,some (j,pol)⟩:=by
      have:=congrArg (fun l : List Oper=>l[0]?) hops
      simpa using this.symm
    rw [List.drop_eq_getElem_cons hlt,(List.getElem?_eq_some_iff.1 hpl).2]
    have hn:=ih (e0:=e0 ++ [.g d (wr τ) (dj :: u)]) (fun p hp=>by
      rcases List.mem_cons.1 hp with rfl | hp
      · exact .inr ⟨dj :: u,by simp⟩
      · rcases hL p hp with h | ⟨v,h1⟩
        · exact .inl h
        · exact .inr ⟨v,List.mem_append_left _ h1⟩) (fun x hx=>by obtain ⟨t,z,h⟩:=hA x hx;exact ⟨t,z,by rw [List.getElem?_append_left (List.getElem?_eq_some_iff.1 h).1];exact h⟩) (by simp [hi]) (by rw [← List.drop_drop,← hops];rfl) hp.2 (by simpa using hu) (by simpa using hx)
    rw [List.append_assoc] at hn
    refine ⟨⟨by simp [ho,poS],fun a w G S=>?_⟩,hn⟩
    have hgo : (all.toArray.getD i default) = ⟨some d,op,ty,pos,aft,some (j,pol)⟩:=by simp [ho]
    rw [hgo]
    have hE : Env L (dj :: u) a G:=fun t τ' ht hm=>by
      rcases hL _ hm with h | ⟨v,h1⟩
      · exact S.mem (List.mem_append_right _ h)
      · obtain ⟨k,hk⟩:=List.mem_iff_getElem?.1 h1
        exact S.mem (List.mem_append_left _ (mem_dep3 (by rw [List.getElem?_append_left (List.getElem?_eq_some_iff.1 hk).1];exact hk) ht fun x hx=>hx))
    exact .gd rfl hj g (hE dj τg (by simp) hm) fun h2 h4=>h.ok rfl S.ok (h2 _ _ _ (fun t τ ht=>hE t τ (List.mem_cons_of_mem _ ht))) (fun c x hc hb=>bxOk_at hx hg S c x (List.mem_cons_of_mem _ hc) hb) (h4 _ hp.1)
  | @al i L als ops d t ty pos aft pre z k es rest hz hs _ ih =>
    intro e0 hL hA hi hops hp hu hx
    have hg : (e0 ++ .al d t k (.ex z) :: es)[i]? = some (.al d t k (.ex z)):=by subst hi;simp
    have hpl:=plS_get (nB:=B.length) hg
    have hlt : i < (plS B.length (e0 ++ .al d t k (.ex z) :: es)).length:=(List.getElem?_eq_some_iff.1 hpl).1
    have ho : all[i]? = some ⟨some d,.alloc t,ty,pos,aft,none⟩:=by
      have:=congrArg (fun l : List Oper=>l[0]?) hops
      simpa using this.symm
    rw [List.drop_eq_getElem_cons hlt,(List.getElem?_eq_some_iff.1 hpl).2]
    have hn:=ih (e0:=e0 ++ [.al d t k (.ex z)]) (fun p hp=>by
      rcases hL p hp with h | ⟨v,h1⟩
      · exact .inl h
      · exact .inr ⟨v,List.mem_append_left _ h1⟩) (fun x hx=>by
      rcases List.mem_cons.1 hx with rfl | hx
      · exact ⟨t,.ex z,by subst hi;simp⟩
      · obtain ⟨t,z,h⟩:=hA x hx;exact ⟨t,z,by rw [List.getElem?_append_left (List.getElem?_eq_some_iff.1 h).1];exact h⟩) (by simp [hi]) (by rw [← List.drop_drop,← hops];rfl) hp (by simpa using hu) (by simpa using hx)
    rw [List.append_assoc] at hn
    have hgo : (all.toArray.getD i default) = ⟨some d,.alloc t,ty,pos,aft,none⟩:=by simp [ho]
    refine ⟨⟨by simp [ho,poS],fun b=>rfl,by rw [hgo],fun a w G S=>?_⟩,hn⟩
    rw [hgo]
    exact .alloc S.ok rfl hz hs
  | @st i j L als ops d t ty pos aft pre τ k y u es rest hm hT hy hs _ ih =>
    intro e0 hL hA hi hops hp hu hx
    have hg : (e0 ++ .st j τ u :: es)[i]? = some (.st j τ u):=by subst hi;simp
    have hpl:=plS_get (nB:=B.length) hg
    have hlt : i < (plS B.length (e0 ++ .st j τ u :: es)).length:=(List.getElem?_eq_some_iff.1 hpl).1
    have ho : all[i]? = some ⟨none,.store t (.tmp d) y,ty,pos,aft,none⟩:=by
      have:=congrArg (fun l : List Oper=>l[0]?) hops
      simpa using this.symm
    rw [List.drop_eq_getElem_cons hlt,(List.getElem?_eq_some_iff.1 hpl).2]
    have hn:=ih (e0:=e0 ++ [.st j τ u]) (fun p hp=>by
      rcases hL p hp with h | ⟨v,h1⟩
      · exact .inl h
      · exact .inr ⟨v,List.mem_append_left _ h1⟩) (fun x hx=>by obtain ⟨t,z,h⟩:=hA x hx;exact ⟨t,z,by rw [List.getElem?_append_left (List.getElem?_eq_some_iff.1 h).1];exact h⟩) (by simp [hi]) (by rw [← List.drop_drop,← hops];rfl) hp (by simpa using hu) (by simpa using hx)
    rw [List.append_assoc] at hn
    have hgo : (all.toArray.getD i default) = ⟨none,.store t (.tmp d) y,ty,pos,aft,none⟩:=by simp [ho]
    have hst : storeOf (plS B.length (e0 ++ .st j τ u :: es)) 0 (B.length + j) = some (i,τ):=by
      have:=storeOf_st (nB:=B.length) (all:=e0 ++ .st j τ u :: es) (o:=0) rfl hu hg
      rwa [Nat.zero_add] at this
    refine ⟨⟨hst,by rw [hgo],by rw [hgo],.inl ⟨t,.tmp d,y,k,by rw [hgo],hT,fun a w G S=>?_,?_⟩⟩,hn⟩
    · have hv := hy.h (a := a) (G := G) fun t τ' ht hm => by
        rcases hL _ hm with h | ⟨v,h1⟩
        · exact S.mem (List.mem_append_right _ h)
        · obtain ⟨k,hk⟩:=List.mem_iff_getElem?.1 h1
          exact S.mem (List.mem_append_left _ (mem_dep3 (by rw [List.getElem?_append_left (List.getElem?_eq_some_iff.1 hk).1];exact hk) ht fun x hx=>.tail _ hx))
      exact ⟨hv,hs.h hv⟩
    · rw [if_neg (by omega)]
      obtain ⟨t',z,h⟩:=hA _ hm
      refine ⟨_,t',z,by rw [Nat.add_sub_cancel_left];exact plS_get (by rw [List.getElem?_append_left (List.getElem?_eq_some_iff.1 h).1];exact h),rfl,rfl,by simp [poS]⟩
  | @sx i j b L als ops t ty tb pos aft pre τ τb k x y u v es rest hxo hb hT hy hs _ ih =>
    intro e0 hL hA hi hops hp hu hx
    have hg : (e0 ++ .sx j τ (u ++ v) :: es)[i]? = some (.sx j τ (u ++ v)):=by subst hi;simp
    have hpl:=plS_get (nB:=B.length) hg
    have hlt : i < (plS B.length (e0 ++ .sx j τ (u ++ v) :: es)).length:=(List.getElem?_eq_some_iff.1 hpl).1
    have ho : all[i]? = some ⟨none,.store t x y,ty,pos,aft,none⟩:=by
      have:=congrArg (fun l : List Oper=>l[0]?) hops
      simpa using this.symm
    rw [List.drop_eq_getElem_cons hlt,(List.getElem?_eq_some_iff.1 hpl).2]
    have hn:=ih (e0:=e0 ++ [.sx j τ (u ++ v)]) (fun p hp=>by
      rcases hL p hp with h | ⟨v,h1⟩
      · exact .inl h
      · exact .inr ⟨v,List.mem_append_left _ h1⟩) (fun x hx=>by obtain ⟨t,z,h⟩:=hA x hx;exact ⟨t,z,by rw [List.getElem?_append_left (List.getElem?_eq_some_iff.1 h).1];exact h⟩) (by simp [hi]) (by rw [← List.drop_drop,← hops];rfl) hp (by simpa using hu) (by simpa using hx)
    rw [List.append_assoc] at hn
    have hgo : (all.toArray.getD i default) = ⟨none,.store t x y,ty,pos,aft,none⟩:=by simp [ho]
    have hst : storeOf (plS B.length (e0 ++ .sx j τ (u ++ v) :: es)) 0 j = some (i,τ):=by
      have:=storeOf_st (nB:=B.length) (all:=e0 ++ .sx j τ (u ++ v) :: es) (o:=0) rfl hu hg
      rwa [Nat.zero_add] at this
    have hE : ∀ a w G,St W0 G0 N (depL3 (plS B.length (e0 ++ .sx j τ (u ++ v) :: es)) (poS B.length (e0 ++ .sx j τ (u ++ v) :: es) (.sx j τ (u ++ v))).dep ++ L0) (seeB all.toArray (plS B.length (e0 ++ .sx j τ (u ++ v) :: es)) i 0 B) a w G → Env L (u ++ v) a G:=fun a w G S t τ' ht hm=>by
      rcases hL _ hm with h | ⟨v,h1⟩
      · exact S.mem (List.mem_append_right _ h)
      · obtain ⟨k,hk⟩:=List.mem_iff_getElem?.1 h1
        exact S.mem (List.mem_append_left _ (mem_dep3 (by rw [List.getElem?_append_left (List.getElem?_eq_some_iff.1 hk).1];exact hk) ht fun x hx=>hx))
    refine ⟨⟨hst,by rw [hgo],by rw [hgo],.inl ⟨t,x,y,k,by rw [hgo],hT,fun a w G S=>?_,?_⟩⟩,hn⟩
    · have hv:=hy.h (hE a w G S).r
      exact ⟨hv,hs.h hv⟩
    · rw [if_pos (List.getElem?_eq_some_iff.1 hb).1]
      refine ⟨by rw [hb];rfl,fun a w G S=>?_⟩
      have hv : a.eval x = mkP b:=hxo.h (hE a w G S).l
      rw [hb,hv];rfl
  | @si i j L als ops t ty pos aft pre pre' τ x y u es rest hst0 _ ih =>
    intro e0 hL hA hi hops hp hu hx
    have hg : (e0 ++ .sx j τ u :: es)[i]? = some (.sx j τ u):=by subst hi;simp
    have hpl:=plS_get (nB:=B.length) hg
    have hlt : i < (plS B.length (e0 ++ .sx j τ u :: es)).length:=(List.getElem?_eq_some_iff.1 hpl).1
    have ho : all[i]? = some ⟨none,.store t x y,ty,pos,aft,none⟩:=by
      have:=congrArg (fun l : List Oper=>l[0]?) hops
      simpa using this.symm
    rw [List.drop_eq_getElem_cons hlt,(List.getElem?_eq_some_iff.1 hpl).2]
    have hn:=ih (e0:=e0 ++ [.sx j τ u]) (fun p hp=>by
      rcases hL p hp with h | ⟨v,h1⟩
      · exact .inl h
      · exact .inr ⟨v,List.mem_append_left _ h1⟩) (fun x hx=>by obtain ⟨t,z,h⟩:=hA x hx;exact ⟨t,z,by rw [List.getElem?_append_left (List.getElem?_eq_some_iff.1 h).1];exact h⟩) (by simp [hi]) (by rw [← List.drop_drop,← hops];rfl) hp.2 (by simpa using hu) (by simpa using hx)
    rw [List.append_assoc] at hn
    have hgo : (all.toArray.getD i default) = ⟨none,.store t x y,ty,pos,aft,none⟩:=by simp [ho]
    have hst : storeOf (plS B.length (e0 ++ .sx j τ u :: es)) 0 j = some (i,τ):=by
      have:=storeOf_st (nB:=B.length) (all:=e0 ++ .sx j τ u :: es) (o:=0) rfl hu hg
      rwa [Nat.zero_add] at this
    obtain ⟨xb,h1,h2⟩:=hst0.h
    refine ⟨⟨hst,by rw [hgo],by rw [hgo],.inr ⟨(List.getElem?_eq_some_iff.1 h1).1,xb,h1,fun a w G v0 S hv hs ht=>?_⟩⟩,hn⟩
    obtain ⟨v1,h5,h6,h7⟩:=h2 hp.1 (fun t τ' ht hm=>by
      rcases hL _ hm with h | ⟨v,h1⟩
      · exact S.mem (List.mem_append_right _ h)
      · obtain ⟨k,hk⟩:=List.mem_iff_getElem?.1 h1
        exact S.mem (List.mem_append_left _ (mem_dep3 (by rw [List.getElem?_append_left (List.getElem?_eq_some_iff.1 hk).1];exact hk) ht fun x hx=>hx))) hv hs ht
    exact ⟨v1,h5,h6,fun Q K hK=>h7 Q K (by rw [hgo]) (by rw [hgo]) hK⟩
theorem RunSI.tl (R : RunSI P B all i L als ops pre es rest) : rest = ops.drop es.length:=by
  induction R with
  | stop=>rfl
  | cons _ _ ih=>exact ih
  | gcons _ _ _ _ _ ih=>exact ih
  | al _ _ _ ih=>exact ih
  | st _ _ _ _ _ ih=>exact ih
  | si _ _ ih=>exact ih
  | sx _ _ _ _ _ _ ih=>exact ih
def fL (β : Nat → Nat) : Nat → List SE → List (Nat × MT) → List (Nat × MT)
  | _,[],L=>L
  | i,.g d τ _ :: es,L=>fL β (i + 1) es ((d,τ) :: L)
  | i,.al d _ _ _ :: es,L=>fL β (i + 1) es ((d,PB (β i)) :: L)
  | i,.st _ _ _ :: es,L=>fL β (i + 1) es L
  | i,.sx _ _ _ :: es,L=>fL β (i + 1) es L
def ft (β : Nat → Nat) (i : Nat) : SE → Option (Nat × MT)
  | .g d τ _=>some (d,τ)
  | .al d _ _ _=>some (d,PB (β i))
  | _=>none
theorem fL_mem {β : Nat → Nat} : ∀ {es : List SE} {i : Nat} {L : List (Nat × MT)} {p : Nat × MT},p ∈ fL β i es L → p ∈ L ∨ ∃ j e,es[j]? = some e ∧ ft β (i + j) e = some p
  | [],_,_,_,h=>.inl h
  | e :: es,i,L,p,h=>by
    have key : ∀ L',fL β i (e :: es) L = fL β (i + 1) es L' → (∀ p ∈ L',p ∈ L ∨ ft β i e = some p) → p ∈ L ∨ ∃ j e',(e :: es)[j]? = some e' ∧ ft β (i + j) e' = some p:=fun L' h1 h2=>by
      rw [h1] at h
      rcases fL_mem h with h | ⟨j,e',h3,h4⟩
      · rcases h2 p h with h | h
        · exact .inl h
        · exact .inr ⟨0,e,rfl,h⟩
      · exact .inr ⟨j + 1,e',by simpa using h3,by rw [show i + (j + 1) = i + 1 + j by omega];exact h4⟩
    cases e with
    | g d τ u=>exact key _ rfl fun p hp=>(List.mem_cons.1 hp).elim (fun e=>.inr (by rw [e];rfl)) .inl
    | al d t k τ=>exact key _ rfl fun p hp=>(List.mem_cons.1 hp).elim (fun e=>.inr (by rw [e];rfl)) .inl
    | st j τ u=>exact key _ rfl fun p hp=>.inl hp
    | sx j τ u=>exact key _ rfl fun p hp=>.inl hp
theorem LF3_all {β : Nat → Nat} {nB : Nat} : ∀ {m : Nat} {p : Nat × MT},(p ∈ L0 ∨ ∃ j e,j < m ∧ es[j]? = some e ∧ ft β j e = some p) → p ∈ LF3 (plS nB es) β L0 m
  | 0,p,h=>by
    rcases h with h | ⟨j,e,h,_⟩
    · exact h
    · omega
  | m + 1,p,h=>by
    have ih:=fun h=>LF3_all (β:=β) (nB:=nB) (m:=m) (p:=p) h
    unfold LF3
    cases hm : es[m]? with
    | none =>
      have : (plS nB es)[m]? = none:=by simp [plS,hm]
      rw [this]
      refine ih ?_
      rcases h with h | ⟨j,e,h1,h2,h3⟩
      · exact .inl h
      · refine .inr ⟨j,e,?_,h2,h3⟩
        rcases Nat.lt_or_ge j m with hlt | hge
        · exact hlt
        · have : j = m:=by omega
          subst this;rw [h2] at hm;cases hm
    | some e0 =>
      rw [plS_get hm]
      have hcase : p ∈ LF3 (plS nB es) β L0 m ∨ ft β m e0 = some p:=by
        rcases h with h | ⟨j,e,h1,h2,h3⟩
        · exact .inl (ih (.inl h))
        · by_cases hj : j = m
          · subst hj;rw [h2] at hm;cases hm;exact .inr h3
          · exact .inl (ih (.inr ⟨j,e,by omega,h2,h3⟩))
      rcases hcase with h | h
      · cases e0 <;> simp [poS,h]
      · cases e0 <;> simp [ft] at h <;> simp [poS,h]
class SameB (a b : Bool) : Prop
instance SameB.r {b : Bool} : SameB b b:={}
class NIx (l : List Nat) (j : Nat) : Prop
instance NIx.nil {j : Nat} : NIx [] j:={}
instance NIx.cons {j e : Nat} {l : List Nat} [s : SameB (Nat.beq e j) false] [r : NIx l j] : NIx (e :: l) j:={}
class RunS (P : Program) (B : List BX) (all : List Oper) (i : Nat) (L : List (Nat × MT)) (als : List (Nat × Nat × Option Nat)) (sd : List Nat) (ops : List Oper) (pre : outParam Prop) (es : outParam (List SE)) (rest : outParam (List Oper)) : Prop where
  r : RunSI P B all i L als ops pre es rest
class AlAt (als : List (Nat × Nat × Option Nat)) (d : Nat) (j : outParam Nat) (k : outParam (Option Nat)) : Prop where
  m : (d,j,k) ∈ als
instance AlAt.hd {d j : Nat} {k : Option Nat} : AlAt ((d,j,k) :: als) d j k:=⟨.head _⟩
instance (priority:=500) AlAt.tl {x : Nat × Nat × Option Nat} {d j : Nat} {k : Option Nat} [h : AlAt als d j k] : AlAt (x :: als) d j k:=⟨.tail _ h.m⟩
class Zr (P : Program) (t : TypeId) (k : outParam (Option Nat)) (z : outParam Value) : Prop where
  hz : (P.info? t).bind (·.zero) = some z
  s : Shaped k z
theorem Zr.of {t : TypeId} (e : ZE) [h : ZV e] (hz : (P.info? t).bind (·.zero) = some e.z) : Zr P t e.k e.z:=⟨hz,h.s⟩
section
variable {sd : List Nat} {L' : List (Nat × MT)} {d : Nat} {op : Op} {ty t : TypeId} {pos : String} {aft : Array Edge} {pre' : Prop} {τ : MT} {u : List Nat} {j dj : Nat} {b pol : Bool} {τg : MT} {wr : MT → MT} {wp : Prop → Prop} {z : Value} {k : Option Nat} {y : Operand}
instance (priority:=100) RunS.stop : RunS P B all i L als sd ops True [] ops:=⟨.stop⟩
instance RunS.cons [h : Op1 P L B op pre τ u] [k : RunS P B all (i + 1) ((d,τ) :: L) als sd ops pre' es rest] : RunS P B all i L als sd (⟨some d,op,ty,pos,aft,none⟩ :: ops) (pre ∧ pre') (.g d τ u :: es) rest:=⟨.cons h k.r⟩
instance RunS.gcons [hj : DstAt all j dj] [hb : Lk L dj τg] [g : Gw τg pol L L' wr wp] [h : Op1 P L' B op pre τ u] [k : RunS P B all (i + 1) ((d, wr τ) :: L) als sd ops pre' es rest] :
    RunS P B all i L als sd (⟨some d,op,ty,pos,aft,some (j,pol)⟩ :: ops) (wp pre ∧ pre') (.g d (wr τ) (dj :: u) :: es) rest:=⟨.gcons hj.h hb.m g h k.r⟩
class NI (L : List (Nat × MT)) (d : Nat) : Prop
instance NI.nil {d : Nat} : NI [] d:={}
instance NI.cons {d e : Nat} {σ : MT} {L : List (Nat × MT)} [s : SameB (Nat.beq e d) false] [r : NI L d] : NI ((e,σ) :: L) d:={}
instance (priority:=1050) RunS.asg {x : Operand} [h : Opd L x τ u] [r : NI L d] [k : RunS P B all (i + 1) ((d,τ) :: L) als sd ops pre' es rest] : RunS P B all i L als sd (⟨some d,.assign x,ty,pos,aft,none⟩ :: ops) (True ∧ pre') (.g d τ u :: es) rest:=⟨.cons (pre:=True) ⟨fun ho hok e _ _=>.asn hok ho (h.h e)⟩ k.r⟩
instance RunS.al [h : Zr P t k z] [r : RunS P B all (i + 1) L ((d,i,k) :: als) sd ops pre es rest] : RunS P B all i L als sd (⟨some d,.alloc t,ty,pos,aft,none⟩ :: ops) pre (.al d t k (.ex z) :: es) rest:=⟨.al h.hz h.s r.r⟩
instance RunS.st [ha : AlAt als d j k] [hT : TyS P t k] [hy : Opd L y τ u] [hs : ShK τ k] [r : RunS P B all (i + 1) L als sd ops pre es rest] : RunS P B all i L als sd (⟨none,.store t (.tmp d) y,ty,pos,aft,none⟩ :: ops) pre (.st j τ u :: es) rest:=⟨.st ha.m hT.h hy hs r.r⟩
instance (priority:=400) RunS.si {x : Operand} [h : Sto P L B t x y j τ pre u] [ni : NIx sd j] [r : RunS P B all (i + 1) L als (j :: sd) ops pre' es rest] : RunS P B all i L als sd (⟨none,.store t x y,ty,pos,aft,none⟩ :: ops) (pre ∧ pre') (.sx j τ u :: es) rest:=⟨.si h r.r⟩
instance (priority:=500) RunS.sx {x : Operand} {b : Nat} {tb : TypeId} {τb : MT} {v : List Nat} [hx : Opd L x (PB b) u] [hb : Bx B b j tb k τb] [hT : TyS P t k] [hy : Opd L y τ v] [hs : ShK τ k] [ni : NIx sd j] [r : RunS P B all (i + 1) L als (j :: sd) ops pre es rest] : RunS P B all i L als sd (⟨none,.store t x y,ty,pos,aft,none⟩ :: ops) pre (.sx j τ (u ++ v) :: es) rest:=⟨.sx hx hb.m hT.h hy hs r.r⟩
end
theorem St.ds {id : Nat} (S : St W0 G0 N L B a w G) [R : RunS P B all 0 L [] [] all pre es rest] (hp : pre)
    (K : ∀ β a w G,uniqS B.length es = true → St W0 G0 N (fL β 0 es L) (BF3 (plS B.length es) β B es.length) a w G → wpList P all.toArray Q rest a w) (hm : P.follows .mixedOrders = true)
    (hd : (drawOk3 all.toArray (plS B.length es) (L.map (·.1)) N && (uniqS B.length es && bxOk all.toArray B.length es)) = true) : (Code.region id all.toArray true).wp P Q a w:=by
  rw [Bool.and_eq_true,Bool.and_eq_true] at hd
  have hO:=R.r.obls (e0:=[]) (W0:=W0) (G0:=G0) (N:=N) (L0:=L) (fun p h=>.inl h) (fun x h=>by simp at h) rfl rfl hp hd.2.1 hd.2.2
  refine S.drawnS (plS B.length es) hm hd.1 hO fun β a w G S=>?_
  have hlen : (plS B.length es).length = es.length:=by simp [plS]
  rw [hlen] at S ⊢
  simp only [List.toList_toArray]
  rw [← R.r.tl]
  refine K β a w G hd.2.1 (S.weak fun i p hi=>S.mem (LF3_all ?_))
  rcases fL_mem (List.mem_of_getElem? hi) with h | ⟨j,e,h1,h2⟩
  · exact .inl h
  · rw [Nat.zero_add] at h2
    exact .inr ⟨j,e,(List.getElem?_eq_some_iff.1 h1).1,h1,h2⟩
class FinL (β : Nat → Nat) (i : Nat) (es : List SE) (L : List (Nat × MT)) (L' : outParam (List (Nat × MT))) : Prop where
  h : L' = fL β i es L
instance FinL.nil {β : Nat → Nat} : FinL β i [] L L:=⟨rfl⟩
instance FinL.g {β : Nat → Nat} {d : Nat} {τ : MT} {u : List Nat} {L' : List (Nat × MT)} [h : FinL β (i + 1) es ((d,τ) :: L) L'] : FinL β i (.g d τ u :: es) L L':=⟨h.h⟩
instance FinL.al {β : Nat → Nat} {d : Nat} {t : TypeId} {k : Option Nat} {τ : MT} {L' : List (Nat × MT)} [h : FinL β (i + 1) es ((d,PB (β i)) :: L) L'] : FinL β i (.al d t k τ :: es) L L':=⟨h.h⟩
instance FinL.st {β : Nat → Nat} {j : Nat} {τ : MT} {u : List Nat} {L' : List (Nat × MT)} [h : FinL β (i + 1) es L L'] : FinL β i (.st j τ u :: es) L L':=⟨h.h⟩
instance FinL.sx {β : Nat → Nat} {j : Nat} {τ : MT} {u : List Nat} {L' : List (Nat × MT)} [h : FinL β (i + 1) es L L'] : FinL β i (.sx j τ u :: es) L L':=⟨h.h⟩
class FT (es : List SE) (j : Nat) (τ : outParam MT) : Prop where
  h : ∃ u,SE.st j τ u ∈ es
instance FT.hd {j : Nat} {τ : MT} {u : List Nat} : FT (.st j τ u :: es) j τ:=⟨u,.head _⟩
instance (priority:=500) FT.tl {j : Nat} {τ : MT} {e : SE} [h : FT es j τ] : FT (e :: es) j τ:=⟨by obtain ⟨u,h⟩:=h.h;exact ⟨u,.tail _ h⟩⟩
class FX1 (es : List SE) (j : Nat) (τ : outParam MT) : Prop where
  h : ∃ u,SE.sx j τ u ∈ es
instance FX1.hd {j : Nat} {τ : MT} {u : List Nat} : FX1 (.sx j τ u :: es) j τ:=⟨u,.head _⟩
instance (priority:=500) FX1.tl {j : Nat} {τ : MT} {e : SE} [h : FX1 es j τ] : FX1 (e :: es) j τ:=⟨by obtain ⟨u,h⟩:=h.h;exact ⟨u,.tail _ h⟩⟩
def nowr (nB : Nat) (es : List SE) (un : List Nat) : Bool:=un.all fun v=>!(tgs nB es).contains v
class FinZ (nB : Nat) (es0 : List SE) (v : Nat) (B : List BX) (B' : outParam (List BX)) (un : outParam (List Nat)) : Prop where
  h : uniqS nB es0 = true → nowr nB es0 un = true → B' = BZ3 (plS nB es0) v B
class FinB (B0 : List BX) (β : Nat → Nat) (es0 : List SE) (i : Nat) (es : List SE) (B : List BX) (B' : outParam (List BX)) (un : outParam (List Nat)) : Prop where
  h : uniqS B0.length es0 = true → nowr B0.length es0 un = true → es = es0.drop i → B = BF3 (plS B0.length es0) β B0 i → B' = BF3 (plS B0.length es0) β B0 (i + es.length)
section
variable {B0 B' : List BX} {β : Nat → Nat} {es0 : List SE} {d nB v : Nat} {τ τz : MT} {u un : List Nat} {t : TypeId} {k : Option Nat} {j b : Nat}
instance FinZ.nil : FinZ nB es0 v [] [] []:=⟨fun _ _=>rfl⟩
instance FinZ.wr [f : FX1 es0 v τ] [h : FinZ nB es0 (v + 1) B B' un] : FinZ nB es0 v (⟨b,t,k,τz⟩ :: B) (⟨b,t,k,τ⟩ :: B') un:=⟨fun hu hn=>by
  obtain ⟨u,hm⟩:=f.h
  obtain ⟨m,hm⟩:=List.mem_iff_getElem?.1 hm
  unfold BZ3 finT
  rw [plS,storeOf_st rfl hu hm,← plS,← h.h hu hn]⟩
instance (priority:=500) FinZ.o {x : BX} [h : FinZ nB es0 (v + 1) B B' un] : FinZ nB es0 v (x :: B) (x :: B') (v :: un):=⟨fun hu hn=>by
  simp only [nowr,List.all_cons,Bool.and_eq_true,Bool.not_eq_true'] at hn
  unfold BZ3 finT
  rw [plS,storeOf_no hn.1,← plS,← h.h hu hn.2]⟩
theorem drop_at {e : SE} (h : e :: es = es0.drop i) : es0[i]? = some e ∧ es = es0.drop (i + 1):=by
  refine ⟨?_,by rw [← List.drop_drop,← h];rfl⟩
  have:=congrArg (fun l : List SE=>l[0]?) h
  simpa using this.symm
instance FinB.nil : FinB B0 β es0 i [] B B []:=⟨fun _ _ _ h=>h⟩
theorem FinB.pass {e : SE} (h : FinB B0 β es0 (i + 1) es B B' un) (hb : ∀ PL : List PO3,PL[i]? = some (poS B0.length es0 e) → BF3 PL β B0 (i + 1) = BF3 PL β B0 i) : FinB B0 β es0 i (e :: es) B B' un:=⟨fun hu hn he hB=>by
  obtain ⟨h1,h2⟩:=drop_at he
  rw [h.h hu hn h2 (by rw [hB,hb _ (plS_get h1)])]
  rw [List.length_cons,Nat.add_assoc,Nat.add_comm 1]⟩
instance FinB.g [h : FinB B0 β es0 (i + 1) es B B' un] : FinB B0 β es0 i (.g d τ u :: es) B B' un:=FinB.pass h fun PL hp=>by
  conv=>lhs;unfold BF3
  rw [hp];rfl
instance FinB.st [h : FinB B0 β es0 (i + 1) es B B' un] : FinB B0 β es0 i (.st j τ u :: es) B B' un:=FinB.pass h fun PL hp=>by
  conv=>lhs;unfold BF3
  rw [hp];rfl
instance FinB.sx [h : FinB B0 β es0 (i + 1) es B B' un] : FinB B0 β es0 i (.sx j τ u :: es) B B' un:=FinB.pass h fun PL hp=>by
  conv=>lhs;unfold BF3
  rw [hp];rfl
instance FinB.al [f : FT es0 i τ] [h : FinB B0 β es0 (i + 1) es (⟨β i,t,k,τ⟩ :: B) B' un] : FinB B0 β es0 i (.al d t k τz :: es) B B' un:=⟨fun hu hn he hB=>by
  obtain ⟨h1,h2⟩:=drop_at he
  obtain ⟨u,hm⟩:=f.h
  obtain ⟨m,hm⟩:=List.mem_iff_getElem?.1 hm
  have hs : finT (plS B0.length es0) (B0.length + i) τz = τ:=by
    unfold finT
    rw [plS,storeOf_st rfl hu hm]
  rw [h.h hu hn h2 (by rw [hB]; conv => rhs; unfold BF3
                       rw [plS_get h1];simp only [poS];rw [hs])]
  rw [List.length_cons,Nat.add_assoc,Nat.add_comm 1]⟩
theorem St.fins {L' : List (Nat × MT)} {Bz : List BX} {un2 : List Nat} {q : Prop} (hu : uniqS B0.length es = true) (S : St W0 G0 N (fL β 0 es L) (BF3 (plS B0.length es) β B0 es.length) a w G) [hl : FinL β 0 es L L'] [hz : FinZ B0.length es 0 B0 Bz un] [hb : FinB B0 β es 0 es Bz B' un2] (hn : (nowr B0.length es un && nowr B0.length es un2) = true) (K : St W0 G0 N L' B' a w G → q) : q:=by
  rw [Bool.and_eq_true] at hn
  have h1:=hl.h
  have h2:=hb.h hu hn.2 rfl (hz.h hu hn.1)
  rw [Nat.zero_add] at h2
  rw [← h1,← h2] at S
  exact K S
end
end
end Go.Proofs.YtboicjlbbbodgaaGreatDoor
namespace Go.Proofs.YtboicjlbbbodgaaGreatDoor.W
open Go.RowKit (Below)
section
variable {P : Program} {B B' : List BX} {L L' out : List (Nat × MT)} {d : Nat} {ty t : TypeId} {pos : String} {aft : Array Edge} {τ τ' τ'' ρ ρ2 ρ3 σ : MT} {u v : List Nat} {ops rest all : List Oper} {x y : Operand} {k kt : Option Nat} {pre pre2 pre3 : Prop} {es : List RE} {ss : List SE}
variable {W0 : World} {G0 : Gh} {N : Nat} {a : Act} {w : World} {G : Gh} {Q : Exit → Act → World → Prop} {fn : Func} {p : Prop} {K R : Act → World → Prop} {id : Nat} {c c' : Code} {l : List Oper} {arr : Array Oper}
theorem run [R : Run P B all L ops pre es out rest] (hp : pre) (K : ∀ a w G,St W0 G0 N out B a w G → wpList P all.toArray Q rest a w) (hn : es.isEmpty = false:=by rfl) (hf : frs N (L.map (·.1)) es = true:=by rfl) : St W0 G0 N L B a w G → wpList P all.toArray Q ops a w:=fun S=>S.run hp K hn hf
theorem asg [h : Opd L x τ u] [r : Rm L d L'] (K : ∀ a w G,St W0 G0 N ((d,τ) :: L') B a w G → wpList P arr Q rest a w) (hf : fresh d L' = true:=by rfl) (hN : (decide (d < N)) = true:=by rfl) : St W0 G0 N L B a w G → wpList P arr Q (⟨some d,.assign x,ty,pos,aft,none⟩ :: rest) a w:=fun S=>S.asg K hf hN
theorem mv [h : Opd L x τ u] [r : Rm L d L'] (K : ∀ a w G,St W0 G0 N ((d,τ) :: L') B a w G → wpList P arr Q rest a w) (hf : fresh d L' = true:=by rfl) (hN : (decide (d < N)) = true:=by rfl) : St W0 G0 N L B a w G → wpList P arr Q (⟨some d,.move x,ty,pos,aft,none⟩ :: rest) a w:=fun S=>S.mvk K hf hN
theorem bx [h : Opd L x τ u] [hk : TyS P t k] [hs : ShK τ k] (K : ∀ b a w G,St W0 G0 N ((d,PB b) :: L) (⟨b,t,k,τ⟩ :: B) a w G → wpList P arr Q rest a w) (hf : fresh d L = true:=by rfl) (hN : (decide (d < N)) = true:=by rfl) : St W0 G0 N L B a w G → wpList P arr Q (⟨some d,.box t x,ty,pos,aft,none⟩ :: rest) a w:=fun S=>S.bx1 K hf hN
theorem al [hz : Zer P t k τ] (K : ∀ b a w G,St W0 G0 N ((d,PB b) :: L) (⟨b,t,k,τ⟩ :: B) a w G → wpList P arr Q rest a w) (hf : fresh d L = true:=by rfl) (hN : (decide (d < N)) = true:=by rfl) : St W0 G0 N L B a w G → wpList P arr Q (⟨some d,.alloc t,ty,pos,aft,none⟩ :: rest) a w:=fun S=>S.al K hf hN
theorem st {b : Nat} [hx : Opd L x (PB b) u] {i0 : Nat} [hb : Bx B b i0 ty k τ'] [hT : TyS P t k] [hy : Opd L y τ v] [hs : ShK τ k] [hB : BSet B b ⟨b,ty,k,τ⟩ B'] (K : ∀ w,St W0 G0 N L B' a w G → wpList P arr Q rest a w) {ty' : TypeId} : St W0 G0 N L B a w G → wpList P arr Q (⟨none,.store t x y,ty',pos,aft,none⟩ :: rest) a w:=fun S=>S.st K
theorem stp {b i n : Nat} [hx : Opd L x (.ex (.pointer (some ⟨b, i, none⟩))) u] {i0 : Nat} [hb : Bx B b i0 ty (some n) τ'] [hT : TyS P t kt] [hy : Opd L y τ v] [hs : ShK τ kt] [hu : Upd τ' i kt τ τ''] [hB : BSet B b ⟨b, ty, some n, τ''⟩ B'] (K : ∀ w, St W0 G0 N L B' a w G → wpList P arr Q rest a w) (hn : i + kt.getD 1 ≤ n := by decide) {ty' : TypeId} :
    St W0 G0 N L B a w G → wpList P arr Q (⟨none,.store t x y,ty',pos,aft,none⟩ :: rest) a w:=fun S=>S.stp K hn
theorem ds [R : RunS P B all 0 L [] [] all pre ss rest] (hp : pre) (K : ∀ β a w G, uniqS B.length ss = true → St W0 G0 N (fL β 0 ss L) (BF3 (plS B.length ss) β B ss.length) a w G → wpList P all.toArray Q rest a w) (hm : P.follows .mixedOrders = true) (hd : (drawOk3 all.toArray (plS B.length ss) (L.map (·.1)) N && (uniqS B.length ss && bxOk all.toArray B.length ss)) = true) :
    St W0 G0 N L B a w G → (Code.region id all.toArray true).wp P Q a w:=fun S=>S.ds hp K hm hd
theorem fin {β : Nat → Nat} {B0 Bz : List BX} {un un2 : List Nat} {q : Prop} [hl : FinL β 0 ss L L'] [hz : FinZ B0.length ss 0 B0 Bz un] [hb : FinB B0 β ss 0 ss Bz B' un2] (K : St W0 G0 N L' B' a w G → q) (hu : uniqS B0.length ss = true) (hn : (nowr B0.length ss un && nowr B0.length ss un2) = true:=by rfl) : St W0 G0 N (fL β 0 ss L) (BF3 (plS B0.length ss) β B0 ss.length) a w G → q:=fun S=>S.fins hu hn K
theorem cd {q : Prop} [i : Decidable q] [h : Lk L t (BT (decide q))] (h1 : q → St W0 G0 N L B a w G → c.wp P Q a w) (h2 : ¬ q → St W0 G0 N L B a w G → c'.wp P Q a w) : St W0 G0 N L B a w G → (Code.cond (.tmp t) c c').wp P Q a w:=fun S=>S.cd (fun e=>h1 e S) (fun e=>h2 e S)
theorem cb {b : Bool} [h : Lk L t (BT b)] (h1 : b = true → St W0 G0 N L B a w G → c.wp P Q a w) (h2 : b = false → St W0 G0 N L B a w G → c'.wp P Q a w) : St W0 G0 N L B a w G → (Code.cond (.tmp t) c c').wp P Q a w:=fun S=>S.cb (fun e=>h1 e S) (fun e=>h2 e S)
theorem rt1 {r : ResultVar} (hr : fn.results = #[r]) [h : Rs1 P L B r τ'] [c : Cv τ' τ pre] (hp : pre) : St W0 G0 N L B a w G → bodyPost P fn (Ret W0 G0 τ) .ret a w:=fun S=>S.rt1 hr hp
theorem rt2 {r r2 : ResultVar} (hr : fn.results = #[r,r2]) [h : Rs1 P L B r τ'] [c : Cv τ' ρ pre] [h2 : Rs1 P L B r2 τ''] [c2 : Cv τ'' ρ2 pre2] (hp : pre) (hp2 : pre2) : St W0 G0 N L B a w G → bodyPost P fn (Ret W0 G0 (.tup2 ρ ρ2)) .ret a w:=fun S=>S.rt2 hr hp hp2
theorem rt3 {r r2 r3 : ResultVar} (hr : fn.results = #[r,r2,r3]) [h : Rs1 P L B r τ'] [c : Cv τ' ρ pre] [h2 : Rs1 P L B r2 τ''] [c2 : Cv τ'' ρ2 pre2] [h3 : Rs1 P L B r3 σ] [c3 : Cv σ ρ3 pre3] (hp : pre) (hp2 : pre2) (hp3 : pre3) : St W0 G0 N L B a w G → bodyPost P fn (Ret W0 G0 (.tup3 ρ ρ2 ρ3)) .ret a w:=fun S=>S.rt3 hr hp hp2 hp3
theorem nn (hK : ∀ a w,R a w → K a w) (h : p → R a w) : p → wpList P arr (Exit.then K Q) [] a w:=fun S=>wn hK (h S)
theorem reg (h : ∀ K : Act → World → Prop,(∀ a w,c.wp P Q a w → K a w) → p → wpList P l.toArray (Exit.then K Q) l a w) : p → (Code.seq (.region id l.toArray false) c).wp P Q a w:=fun S=>wp_reg fun K hK=>h K hK S
theorem reg1 (h : p → wpList P l.toArray Q l a w) : p → (Code.region id l.toArray false).wp P Q a w:=fun S=>wp_region_lit (h S)
theorem sq (h : ∀ K : Act → World → Prop,(∀ a w,c'.wp P Q a w → K a w) → p → c.wp P (Exit.then K Q) a w) : p → (Code.seq c c').wp P Q a w:=fun S=>wp_seq_k fun K hK=>h K hK S
theorem sk (h : p → Q .normal a w) : p → Code.skip.wp P Q a w:=fun S=>wp_skip (h S)
theorem kn (hK : ∀ a w,R a w → K a w) (h : p → R a w) : p → Exit.then K Q .normal a w:=fun S=>hK _ _ (h S)
theorem rt (h : p → Q .ret a w) : p → Code.ret.wp P Q a w:=fun S=>wp_ret (h S)
theorem tr (h : p → Q .ret a w) : p → Exit.then K Q .ret a w:=h
theorem br (h : p → Q .ret a w) : p → Exit.inBlock id Q .ret a w:=h
theorem bn (h : p → Q .normal a w) : p → Exit.inBlock id Q .normal a w:=h
theorem bl (h : p → c.wp P (Exit.inBlock id Q) a w) : p → (Code.block id c).wp P Q a w:=fun S=>wp_block (h S)
theorem nl (h : p → Q .normal a w) : p → wpList P arr Q [] a w:=fun S=>wpList_nil (h S)
end
end Go.Proofs.YtboicjlbbbodgaaGreatDoor.W
namespace Go.Proofs.YtboicjlbbbodgaaGreatDoor
open Go.RowKit (Below)
class AppL (l1 l2 : List (Nat × MT)) (l : outParam (List (Nat × MT))) : Prop where
  h : l = l1 ++ l2
instance AppL.nil {l : List (Nat × MT)} : AppL [] l l:=⟨rfl⟩
instance AppL.cons {x : Nat × MT} {l1 l2 l : List (Nat × MT)} [h : AppL l1 l2 l] : AppL (x :: l1) l2 (x :: l):=⟨by rw [h.h];rfl⟩
class In (l : List Nat) (x : Nat) : Prop where
  h : True
instance In.hd {l : List Nat} {x : Nat} : In (x :: l) x:=⟨trivial⟩
instance (priority:=500) In.tl {l : List Nat} {x y : Nat} [In l x] : In (y :: l) x:=⟨trivial⟩
class Rms (L : List (Nat × MT)) (ws : List Nat) (L' : outParam (List (Nat × MT))) : Prop where
  h : True
instance Rms.nil {ws : List Nat} : Rms [] ws []:=⟨trivial⟩
instance Rms.hd {L L' : List (Nat × MT)} {ws : List Nat} {t : Nat} {τ : MT} [In ws t] [Rms L ws L'] : Rms ((t,τ) :: L) ws L':=⟨trivial⟩
instance (priority:=500) Rms.tl {L L' : List (Nat × MT)} {ws : List Nat} {x : Nat × MT} [Rms L ws L'] : Rms (x :: L) ws (x :: L'):=⟨trivial⟩
class BlkOf (ρ : MT) (b : outParam Nat) : Prop where
  h : True
instance BlkOf.p {b : Nat} : BlkOf (PB b) b:=⟨trivial⟩
instance BlkOf.s {b n c : Nat} : BlkOf (.ex (.slice (some ⟨b,0,none⟩) n c)) b:=⟨trivial⟩
class HeadD (c : Code) (d : outParam Nat) : Prop where
  h : True
instance HeadD.s {c c' : Code} {d : Nat} [HeadD c d] : HeadD (.seq c c') d:=⟨trivial⟩
instance HeadD.r {id d : Nat} {op : Op} {ty : TypeId} {pos : String} {aft : Array Edge} {g : Option (Nat × Bool)} {l : List Oper} {dr : Bool} : HeadD (.region id (List.toArray (⟨some d,op,ty,pos,aft,g⟩ :: l)) dr) d:=⟨trivial⟩
instance HeadD.b {id d : Nat} {c : Code} [HeadD c d] : HeadD (.block id c) d:=⟨trivial⟩
instance HeadD.l {d : Nat} {c : Code} [HeadD c d] : HeadD (.loop c) d:=⟨trivial⟩
instance HeadD.c {x : Operand} {d : Nat} {c c' : Code} [HeadD c d] : HeadD (.cond x c c') d:=⟨trivial⟩
class BSetL (L : List (Nat × MT)) (B : List BX) (l : List (Nat × MT)) (B' : outParam (List BX)) : Prop where
  h : True
instance BSetL.nil {L : List (Nat × MT)} {B : List BX} : BSetL L B [] B:=⟨trivial⟩
instance BSetL.cons {L : List (Nat × MT)} {B B1 B' : List BX} {t b i : Nat} {ty : TypeId} {k : Option Nat} {τ0 σ ρ : MT} {l : List (Nat × MT)} [Lk L t ρ] [BlkOf ρ b] [Bx B b i ty k τ0] [BSet B b ⟨b,ty,k,σ⟩ B1] [BSetL L B1 l B'] : BSetL L B ((t,σ) :: l) B':=⟨trivial⟩
class Wk (L L' : List (Nat × MT)) (pre : outParam Prop) : Prop where
  h : pre → ∀ {a : Act} {G : Gh},(∀ u,Env L u a G) → ∀ p ∈ L',p.2.t (tm a p.1) G
instance Wk.nil {L : List (Nat × MT)} : Wk L [] True:=⟨fun _ _ _ _ p hp=>by simp at hp⟩
instance Wk.cons {L L' : List (Nat × MT)} {t : Nat} {τ τ' : MT} {q r : Prop} [h : Lk L t τ] [c : Cv τ τ' q] [k : Wk L L' r] : Wk L ((t,τ') :: L') (q ∧ r):=⟨fun hp a G hE p hm=>by
  rcases List.mem_cons.1 hm with e | e
  · subst e;exact c.h hp.1 (hE [t] t τ (by simp) h.m)
  · exact k.h hp.2 hE p e⟩
class WkB (B B' : List BX) (js : outParam (List Nat)) (pre : outParam Prop) : Prop where
  h : pre → ∀ {W0 w : World} {G : Gh},(∀ u,Bku B u W0 w G) → ∀ (i : Nat) (x : BX),B'[i]? = some x → x.ok W0 w G ∧ ∃ j y,js[i]? = some j ∧ B[j]? = some y ∧ y.b = x.b
instance WkB.nil {B : List BX} : WkB B [] [] True:=⟨fun _ _ _ _ _ i x h=>by simp at h⟩
instance WkB.cons {B B' : List BX} {b i : Nat} {ty : TypeId} {k : Option Nat} {τ τ' : MT} {js : List Nat} {q r : Prop} [h : Bx B b i ty k τ] [c : Cv τ τ' q] [l : WkB B B' js r] : WkB B (⟨b,ty,k,τ'⟩ :: B') (i :: js) (q ∧ r):=⟨fun hp W0 w G hB n x hx=>by
  cases n with
  | zero =>
    cases hx
    obtain ⟨h1,h2,v,h3,h4,h5⟩:=hB [1000000 + i] i _ (by simp) h.m
    exact ⟨⟨h1,h2,v,h3,h4,c.h hp.1 h5⟩,i,_,rfl,h.m,rfl⟩
  | succ n =>
    obtain ⟨h1,j,y,h2,h3,h4⟩:=l.h hp.2 hB n x hx
    exact ⟨h1,j,y,h2,h3,h4⟩⟩
theorem nodupB_ne : ∀ {js : List Nat} {i j a b : Nat},nodupB js = true → js[i]? = some a → js[j]? = some b → i ≠ j → a ≠ b
  | _ :: _,0,0,_,_,_,_,_,h=>absurd rfl h
  | x :: js,0,j + 1,a,b,hn,ha,hb,_=>fun e=>by
    simp only [nodupB,Bool.and_eq_true,Bool.not_eq_true'] at hn
    have ha : x = a:=by simpa using ha
    have : js.contains b = true:=List.contains_iff_mem.2 (List.mem_of_getElem? (by simpa using hb))
    rw [← e,← ha,hn.1] at this;cases this
  | x :: js,i + 1,0,a,b,hn,ha,hb,_=>fun e=>by
    simp only [nodupB,Bool.and_eq_true,Bool.not_eq_true'] at hn
    have hb : x = b:=by simpa using hb
    have : js.contains a = true:=List.contains_iff_mem.2 (List.mem_of_getElem? (by simpa using ha))
    rw [e,← hb,hn.1] at this;cases this
  | x :: js,i + 1,j + 1,a,b,hn,ha,hb,h=>by
    simp only [nodupB,Bool.and_eq_true] at hn
    exact nodupB_ne hn.2 (by simpa using ha) (by simpa using hb) (by omega)
  | [],_,_,_,_,_,h,_,_=>by simp at h
section
variable {P : Program} {B B' : List BX} {L L' : List (Nat × MT)} {js : List Nat} {p1 p2 : Prop} {W0 : World} {G0 : Gh} {N : Nat} {a : Act} {w : World} {G : Gh} {Q : Exit → Act → World → Prop}
theorem St.wk (S : St W0 G0 N L B a w G) [h : Wk L L' p1] [hb : WkB B B' js p2] (hp : p1) (hp2 : p2) (hn : nodupB js = true) : St W0 G0 N L' B' a w G where
  nxt:=S.nxt
  size:=S.size
  dfr:=S.dfr
  ty:=fun i p hi=>h.h hp (fun u=>S.env u) p (List.mem_of_getElem? hi)
  bx:=fun i x hi=>(hb.h hp2 (fun u=>S.bok u) i x hi).1
  nd:=fun i j x y hx hy hij=>by
    obtain ⟨_,m,u,h1,h2,h3⟩:=hb.h hp2 (fun u=>S.bok u) i x hx
    obtain ⟨_,m',u',h1',h2',h3'⟩:=hb.h hp2 (fun u=>S.bok u) j y hy
    rw [← h3,← h3']
    exact S.nd m m' u u' h2 h2' (nodupB_ne hn h1 h1' hij)
namespace W
variable {id i : Nat} {c : Code} {p : Prop} {K : Act → World → Prop}
def Inv {α : Type} (W0 : World) (G0 : Gh) (N : Nat) (φ : α → Prop) (L : α → List (Nat × MT)) (B : α → List BX) (x : α) (a : Act) (w : World) : Prop:=φ x ∧ ∃ G,St W0 G0 N (L x) (B x) a w G
theorem wk {L' : List (Nat × MT)} {B' : List BX} [h : Wk L L' p1] [hb : WkB B B' js p2] {r : Prop} (hp : p1) (hp2 : p2) (K : St W0 G0 N L' B' a w G → r) (hn : nodupB js = true:=by rfl) : St W0 G0 N L B a w G → r:=fun S=>K (S.wk hp hp2 hn)
theorem lp (dh : Nat) {α : Type} (m : α → Nat) (φ : α → Prop) (ws : List Nat) (nw bw : α → List (Nat × MT)) (x0 : α) {L1 : List (Nat × MT)} {L' : α → List (Nat × MT)} {B' : α → List BX} [HeadD c dh] [Rms L ws L1] [∀ x, AppL (nw x) L1 (L' x)] [∀ x, BSetL L B (bw x) (B' x)]
    [h : Wk L (L' x0) p1] [hb : WkB B (B' x0) js p2] (h0 : φ x0) (hp : p1) (hp2 : p2)
    (round : ∀ x,φ x → ∀ a w G,St W0 G0 N (L' x) (B' x) a w G → c.wp P (Exit.then (fun a w=>∃ y,m y < m x ∧ Inv W0 G0 N φ L' B' y a w) Q) a w) (hn : nodupB js = true:=by rfl) : St W0 G0 N L B a w G → (Code.loop c).wp P Q a w:=fun S =>
  wp_loopJ (fun μ a w=>∃ x,μ = m x ∧ Inv W0 G0 N φ L' B' x a w) (m x0) ⟨x0,rfl,h0,G,S.wk hp hp2 hn⟩ fun μ a w ⟨x,e,hx,G,S⟩=>by
    subst e
    refine Code.wp_mono ?_ (round x hx a w G S)
    intro e a w h
    cases e <;> first | exact h | skip
    obtain ⟨y,h1,h2⟩:=h
    exact ⟨m y,h1,y,rfl,h2⟩
theorem ag {α : Type} {m : α → Nat} {φ : α → Prop} {L' : α → List (Nat × MT)} {B' : α → List BX} {x : α} (y : α) [h : Wk L (L' y) p1] [hb : WkB B (B' y) js p2] (hm : m y < m x) (hy : φ y) (hp : p1) (hp2 : p2) (hn : nodupB js = true := by rfl) :
    St W0 G0 N L B a w G → Exit.then (fun a w=>∃ y,m y < m x ∧ Inv W0 G0 N φ L' B' y a w) Q .normal a w:=fun S=>⟨y,hm,hy,G,S.wk hp hp2 hn⟩
theorem ex (h : p → Q (.exit id) a w) : p → (Code.exit id).wp P Q a w:=fun S=>wp_exit (h S)
theorem xt (h : p → Q (.exit i) a w) : p → Exit.then K Q (.exit i) a w:=h
theorem xb (h : p → Q .normal a w) : p → Exit.inBlock id Q (.exit id) a w:=by
  intro hp
  simp only [Exit.inBlock,if_true]
  exact h hp
theorem xo (h : p → Q (.exit i) a w) (hne : (i == id) = false:=by rfl) : p → Exit.inBlock id Q (.exit i) a w:=by
  intro hp
  simp only [Exit.inBlock]
  rw [if_neg (by simpa using hne)]
  exact h hp
end W
end
end Go.Proofs.YtboicjlbbbodgaaGreatDoor
namespace Go.Proofs.YtboicjlbbbodgaaGreatDoor
open Go.RowKit (Below)
abbrev RX (r : FR) : MT:=QR r.s r.p r.q
def shortR (r : FR) : Bool:=decide (r.p.length ≤ 2) && decide (r.q.length ≤ 2)
def shortF (l : List FR) : Bool:=l.all shortR && decide (l.length < 60)
theorem val64 {l : List Nat} (hw : wfl l) (h : l.length ≤ 2) : Go.Proofs.YtboicjlbbbodgaaGreatDoor.val l < 2 ^ 64:=by
  have h1:=val_lt hw
  have h2 : 4294967296 ^ l.length ≤ 4294967296 ^ 2:=Nat.pow_le_pow_right (by decide) h
  have h3 : (4294967296 : Nat) ^ 2 = 2 ^ 64:=by decide
  omega
theorem RX.toFX {r : FR} {v : Value} {G : Gh} (h : (RX r).t v G) (hs : shortR r = true) : (FX 64 r).t v G:=by
  unfold shortR at hs;simp at hs
  obtain ⟨x,y,e,hp,hq⟩:=h
  exact ⟨by decide,val64 (SL.wf hp) hs.1,val64 (SL.wf hq) hs.2,x,y,e,hp,hq⟩
theorem RX.f0 {r : FR} {v : Value} {G : Gh} {k : Option Nat} (h : (RX r).t v G) (hs : Shaped k v) : ∃ u,v.cells[0]? = some u ∧ (MT.ex (.bool r.s)).t u G:=QR.f0 h hs
theorem RX.f1 {r : FR} {v : Value} {G : Gh} {k : Option Nat} (h : (RX r).t v G) (hs : Shaped k v) : ∃ u,v.cells[1]? = some u ∧ (SL r.p).t u G:=QR.f1 h hs
theorem RX.f2 {r : FR} {v : Value} {G : Gh} {k : Option Nat} (h : (RX r).t v G) (hs : Shaped k v) : ∃ u,v.cells[2]? = some u ∧ (SL r.q).t u G:=QR.f2 h hs
theorem LS.toFX {l : List FR} {v : Value} {G : Gh} (h : (LS (some 3) (l.map RX)).t v G) (hs : shortF l = true) : (LS (some 3) (l.map (FX 64))).t v G:=by
  unfold shortF at hs;simp at hs
  exact LS.convM (T:=RX) (U:=FX 64) (f:=fun r=>r) h (by simp) fun x hx v G hv=>RX.toFX hv (hs.1 x hx)
class NR (τ : MT) (τ' : outParam MT) : Prop where
  h : ∀ {v : Value} {G : Gh},τ.t v G → τ'.t v G
instance (priority:=500) NR.id {τ : MT} : NR τ τ:=⟨fun h=>h⟩
theorem FX.toRX {n : Nat} {r : FR} {v : Value} {G : Gh} (h : (FX n r).t v G) : (RX r).t v G:=h.2.2.2
instance NR.f {n : Nat} {r : FR} : NR (FX n r) (RX r):=⟨FX.toRX⟩
instance NR.q {n : Nat} {x : Rat} : NR (QC n x) (RX (FR.of x)):=⟨fun h=>FX.toRX (QC.toFX h (one_le_of_lt x.den_nz h.1.2))⟩
class NRL (fs : List (Option Nat × MT)) (gs : outParam (List (Option Nat × MT))) : Prop where
  h : ∀ {us : List Value} {G : Gh},PF fs us G → PF gs us G
instance NRL.nil : NRL [] []:=⟨fun h=>h⟩
instance NRL.cons {k : Option Nat} {τ τ' : MT} {fs gs : List (Option Nat × MT)} [h : NR τ τ'] [l : NRL fs gs] : NRL ((k,τ) :: fs) ((k,τ') :: gs):=⟨fun hp=>by
  obtain ⟨v,us',rfl,hs,ht,hp'⟩:=hp.cons
  exact .mk hs (h.h ht) (l.h hp')⟩
instance NR.pts {fs gs : List (Option Nat × MT)} [l : NRL fs gs] : NR (PTS fs) (PTS gs):=⟨fun hv=>by
  obtain ⟨us,e1,h1,h2⟩:=hv
  exact ⟨us,e1,l.h ⟨h1,h2⟩⟩⟩
instance NR.l {k : Option Nat} {n : Nat} {xs : List FR} : NR (LS k (xs.map (FX n))) (LS k (xs.map RX)):=⟨fun h=>LS.convM (T:=FX n) (U:=RX) (f:=fun r=>r) h (by simp) fun x hx v G hv=>FX.toRX hv⟩
class NS (τ : MT) (τ' : MT) (p : outParam Prop) : Prop where
  h : ∀ {v : Value} {G : Gh},p → τ.t v G → τ'.t v G
instance (priority:=500) NS.id {τ : MT} : NS τ τ True:=⟨fun _ h=>h⟩
instance NS.f {r : FR} : NS (RX r) (FX 64 r) (shortR r = true):=⟨fun hs h=>RX.toFX h hs⟩
class NSL (fs : List (Option Nat × MT)) (gs : List (Option Nat × MT)) (p : outParam Prop) : Prop where
  h : ∀ {us : List Value} {G : Gh},p → PF fs us G → PF gs us G
instance NSL.nil : NSL [] [] True:=⟨fun _ h=>h⟩
instance NSL.cons {k : Option Nat} {τ τ' : MT} {fs gs : List (Option Nat × MT)} {p q : Prop} [h : NS τ τ' p] [l : NSL fs gs q] : NSL ((k,τ) :: fs) ((k,τ') :: gs) (p ∧ q):=⟨fun e hp=>by
  obtain ⟨v,us',rfl,hs,ht,hp'⟩:=hp.cons
  exact .mk hs (h.h e.1 ht) (l.h e.2 hp')⟩
instance NS.pts {fs gs : List (Option Nat × MT)} {p : Prop} [l : NSL fs gs p] : NS (PTS fs) (PTS gs) p:=⟨fun e hv=>by
  obtain ⟨us,e1,h1,h2⟩:=hv
  exact ⟨us,e1,l.h e ⟨h1,h2⟩⟩⟩
instance NS.l {k : Option Nat} {xs : List FR} : NS (LS k (xs.map RX)) (LS k (xs.map (FX 64))) (xs.all shortR = true):=⟨fun e h=>by
  exact LS.convM (T:=RX) (U:=FX 64) (f:=fun r=>r) h (by simp) fun x hx v G hv=>RX.toFX hv (List.all_eq_true.1 e x hx)⟩
section
variable {P : Program} {L : List (Nat × MT)} {B : List BX} {x y : Operand} {u v : List Nat} {t t' : TypeId} {τ : MT} {m n : Int} {l : List Nat}
theorem prt_of {τ : MT} {V u : Value} {G : Gh} {i : Nat} (h1 : V.cells[i]? = some u) (h2 : τ.t u G) (hs : Shaped none u) : ∃ u,Shaped none u ∧ τ.t u G ∧ ∀ (j : Nat) (x : Value),u.cells[j]? = some x → V.cells[i + j]? = some x:=⟨u,hs,h2,fun j x hx=>by
  rw [hs.1] at hx
  match j,hx with
  | 0,hx=>cases hx;exact h1
  | j + 1,hx=>simp at hx⟩
theorem SL.shp {v : Value} {G : Gh} (h : (SL l).t v G) : Shaped none v:=by obtain ⟨A,c,rfl,_⟩:=h;exact ⟨rfl,rfl⟩
instance (priority:=800) Prt.rx0 {r : FR} : Prt (RX r) 0 none (.ex (.bool r.s)):=⟨fun h hs=>by obtain ⟨u,h1,h2⟩:=RX.f0 h hs;exact prt_of h1 h2 (by cases h2;exact ⟨rfl,rfl⟩)⟩
instance (priority:=800) Prt.rx1 {r : FR} : Prt (RX r) 1 none (SL r.p):=⟨fun h hs=>by obtain ⟨u,h1,h2⟩:=RX.f1 h hs;exact prt_of h1 h2 (SL.shp h2)⟩
instance (priority:=800) Prt.rx2 {r : FR} : Prt (RX r) 2 none (SL r.q):=⟨fun h hs=>by obtain ⟨u,h1,h2⟩:=RX.f2 h hs;exact prt_of h1 h2 (SL.shp h2)⟩
theorem prt_in {k : Option Nat} {gs fs : List (Option Nat × MT)} {i : Nat} {kt : Option Nat} {σ : MT} (h : Prt σ i kt τ) : PrtL ((k,σ) :: fs) i kt τ:=⟨fun hp=>by
  obtain ⟨u,us',rfl,hs,ht,_⟩:=hp.cons
  obtain ⟨x,h1,h2,h3⟩:=h.h ht hs
  refine ⟨x,h1,h2,fun m y hm=>?_⟩
  have h4:=h3 m y hm
  have hlt : i + m < u.cells.size:=(Array.getElem?_eq_some_iff.1 h4).1
  rw [flat_cns,List.getElem?_append_left (by simpa using hlt)]
  simpa using h4⟩
instance (priority:=700) PrtL.rx {k : Option Nat} {r : FR} {fs : List (Option Nat × MT)} {i : Nat} {kt : Option Nat} [h : Prt (RX r) i kt τ] : PrtL ((k,RX r) :: fs) i kt τ:=prt_in (gs:=[]) h
def SB (n : Nat) (l : List Nat) : MT:=⟨fun v G=>Go.Proofs.YtboicjlbbbodgaaGreatDoor.val l < 2 ^ n ∧ (SL l).t v G,fun hle h=>⟨h.1,(SL l).mono hle h.2⟩⟩
instance {n : Nat} {l : List Nat} : ShK (SB n l) none:=⟨fun h=>SL.shp h.2⟩
instance (priority:=800) Prt.fx0 {nn : Nat} {r : FR} : Prt (FX nn r) 0 none (BT r.s):=⟨fun h' hs=>Prt.h (FX.toRX h') hs⟩
instance (priority:=800) Prt.fx1 {nn : Nat} {r : FR} : Prt (FX nn r) 1 none (SB nn r.p):=⟨fun h' hs=>by obtain ⟨u,h1,h2,h3⟩:=(Prt.rx1 (r:=r)).h (FX.toRX h') hs;exact ⟨u,h1,⟨h'.2.1,h2⟩,h3⟩⟩
instance (priority:=800) Prt.fx2 {nn : Nat} {r : FR} : Prt (FX nn r) 2 none (SB nn r.q):=⟨fun h' hs=>by obtain ⟨u,h1,h2,h3⟩:=(Prt.rx2 (r:=r)).h (FX.toRX h') hs;exact ⟨u,h1,⟨h'.2.2.1,h2⟩,h3⟩⟩
instance (priority:=700) PrtL.fx {k : Option Nat} {nn : Nat} {r : FR} {fs : List (Option Nat × MT)} {i : Nat} [h : Prt (FX nn r) i none τ] : PrtL ((k,FX nn r) :: fs) i none τ:=prt_in (gs:=[]) h
class AsW (τ : MT) (l : outParam (List Nat)) : Prop where
  h : ∀ {v : Value} {G : Gh},τ.t v G → (SL l).t v G
instance AsW.sl : AsW (SL l) l:=⟨fun h=>h⟩
instance AsW.sb {n : Nat} : AsW (SB n l) l:=⟨fun h=>h.2⟩
instance AsW.sn {n m : Nat} : AsW (SN n m) (words m):=⟨SN.toSL⟩
instance ZV.wh : ZV ⟨some 2,.agg #[.bool false,.slice none 0 0],WC 0 0⟩:=⟨⟨_,rfl,rfl,by simp [Value.oneCell']⟩,fun G=>WR.zero ⟨_,rfl,SL.nil⟩ rfl⟩
instance {r : FR} : AsT (RX r) RX r:=⟨fun h=>h⟩
instance Op1.lenW [s : SlE P t none] [h : Opd L x τ u] [q : AsW τ l] : Op1 P L B (.call { callee:=.builtin .len,args:=#[x],argTypes:=#[t] }) True (IT l.length) u:=⟨fun ho hok e _ _=>by obtain ⟨e',h1,h2⟩:=s.h;exact .lenL hok ho h1 (q.h (h.h e)) rfl⟩
instance Op1.ixW [s : SlE P t none] [h : Opd L x τ u] [q : AsW τ l] [h2 : Opd L y (IT m) v] : Op1 P L B (.indexAddr t x y) (0 ≤ m ∧ m < l.length) (PE none (.ex (u32 (dig l m.toNat)))) (u ++ v):=⟨fun ho hok e _ hp=>by
  obtain ⟨e',h3,h4⟩:=s.h
  exact .ixL hok ho h3 h4 (q.h (h.h e.l)) (h2.h e.r) (i:=m.toNat) (by omega) (dig_get (by omega))⟩
theorem u32_eq {a b : Nat} : ((a : Int) == (b : Int)) = decide (a = b):=by rw [Bool.eq_iff_iff];simp;omega
instance Op1.weql {a b : Nat} [h : Opd L x (.ex (u32 a)) u] [k : Opd L y (.ex (u32 b)) v] : Op1 P L B (.binOp .eql t x y t') True (BT (decide (a = b))) (u ++ v):=⟨fun ho hok e _ _=>.ieql hok ho (h.h e.l) (k.h e.r) (by rw [u32_eq];rfl)⟩
instance Op1.wneq {a b : Nat} [h : Opd L x (.ex (u32 a)) u] [k : Opd L y (.ex (u32 b)) v] : Op1 P L B (.binOp .neq t x y t') True (BT (decide (a ≠ b))) (u ++ v):=⟨fun ho hok e _ _=>.ineq hok ho (h.h e.l) (k.h e.r) (by
  have : ((a : Int) != (b : Int)) = decide (a ≠ b):=by rw [bne_dec];exact decide_eq_decide.2 (by omega)
  rw [this];rfl)⟩
class CirT (P : Program) (t : TypeId) : Prop where
  h : ∃ f0 f1 f2 : Field,P.underlying t = some (.struct #[f0,f1,f2]) ∧ P.stoodInHeld t = false ∧ P.eqGuardType P.depth t = false ∧ ((f0.name != "_" && f1.name != "_" && f2.name != "_") = true ∧ (f0.offset = 0 ∧ f1.offset = 1 ∧ f2.offset = 2) ∧ tyS P f0.type none = true ∧ tyS P f1.type none = true ∧ tyS P f2.type none = true ∧ P.underlying f0.type = some .bool ∧ P.underlying f1.type = some .bool ∧ P.underlying f2.type = some (.int .i64))
instance Op1.cirn {a b : Bool × Bool × Int} [i : CirT P t] [h : Opd L x (CIR a) u] [k : Opd L y (CIR b) v] : Op1 P L B (.binOp .neq t x y t') True (BT (decide (a ≠ b))) (u ++ v):=⟨fun ho hok e _ _=>by
  obtain ⟨f0,f1,f2,h1,h2,h3,h4⟩:=i.h
  exact .cirNeq hok ho h1 h2 h3 h4 (h.h e.l) (k.h e.r) rfl⟩
end
section
variable {P : Program} {B : List BX} {L L' : List (Nat × MT)} {W0 : World} {G0 : Gh} {N : Nat} {a : Act} {w : World} {G : Gh} {t : Nat} {τ τ' : MT}
theorem W.cast [h : Lk L t τ] [r : Rm L t L'] {q : Prop} (f : ∀ {v : Value} {G : Gh},τ.t v G → τ'.t v G) (K : St W0 G0 N ((t,τ') :: L') B a w G → q) : St W0 G0 N L B a w G → q:=fun S=>K (S.weak fun i p hi=>by
  rcases List.mem_cons.1 (List.mem_of_getElem? hi) with e | e
  · subst e;exact f (S.mem h.m)
  · exact S.mem (r.h p e))
end
namespace W
variable {P : Program} {B : List BX} {L : List (Nat × MT)} {W0 : World} {G0 : Gh} {N : Nat} {a : Act} {w : World} {G : Gh} {Q : Exit → Act → World → Prop} {t : Nat} {c c' : Code}
theorem cbt {b : Bool} [h : Lk L t (BT b)] (e : b = true) (h1 : St W0 G0 N L B a w G → c.wp P Q a w) : St W0 G0 N L B a w G → (Code.cond (.tmp t) c c').wp P Q a w:=cb (fun _=>h1) (fun f=>by rw [e] at f;cases f)
theorem cbf {b : Bool} [h : Lk L t (BT b)] (e : b = false) (h1 : St W0 G0 N L B a w G → c'.wp P Q a w) : St W0 G0 N L B a w G → (Code.cond (.tmp t) c c').wp P Q a w:=cb (fun f=>by rw [e] at f;cases f) (fun _=>h1)
end W
end Go.Proofs.YtboicjlbbbodgaaGreatDoor
namespace Go.Proofs.YtboicjlbbbodgaaGreatDoor
open Go.RowKit (Below)
section
variable {P : Program} {L : List (Nat × MT)} {B : List BX} {x y : Operand} {u v : List Nat} {t t' : TypeId} {τ τ' : MT} {n m k m' : Nat} {z : Int} {l : List Nat} {s b : Bool}
instance (priority:=800) Prt.wr0 : Prt (WR s l) 0 none (BT s):=⟨fun h hs=>by obtain ⟨u,h1,h2⟩:=WR.f0 h hs;exact prt_of h1 h2 (by cases h2;exact ⟨rfl,rfl⟩)⟩
instance (priority:=800) Prt.wr1 : Prt (WR s l) 1 none (SL l):=⟨fun h hs=>by obtain ⟨u,h1,h2⟩:=WR.f1 h hs;exact prt_of h1 h2 (SL.shp h2)⟩
instance (priority:=800) Prt.wc0 : Prt (WC n z) 0 none (BT (decide (z < 0))):=⟨fun h hs=>Prt.h h.2 hs⟩
instance (priority:=800) Prt.wc1 : Prt (WC n z) 1 none (SN n z.natAbs):=⟨fun h hs=>by obtain ⟨u,h1,h2,h3⟩:=(Prt.wr1 (s:=decide (z < 0)) (l:=words z.natAbs)).h h.2 hs;exact ⟨u,h1,⟨h.1,h2⟩,h3⟩⟩
instance : ShK (WR s l) (some 2):=⟨fun h=>Shp.sh h⟩
class ITy (P : Program) (t : TypeId) (k : outParam IntKind) : Prop where
  h : intTy P t k = true
section
variable {kd k2 : IntKind} {i j : Int}
instance Op1.cvt [h1 : ITy P t kd] [h2 : ITy P t' k2] [h : Opd L x (.ex (.int kd i)) u] : Op1 P L B (.convert t t' x) True (.ex (.int k2 (k2.wrap i))) u:=⟨fun ho hok e _ _=>.conv hok ho (h.h e) h1.h h2.h rfl⟩
instance (priority:=400) Op1.negG [h : Opd L x (.ex (.int kd i)) u] : Op1 P L B (.unOp .neg t x) True (.ex (.int kd (kd.wrap (0 - i)))) u:=⟨fun ho hok e _ _=>.ineg hok ho (h.h e) rfl⟩
instance (priority:=400) Op1.shrG [h : Opd L x (.ex (.int kd i)) u] [k : Opd L y (.ex (.int k2 j)) v] : Op1 P L B (.binOp .shr t x y t') (0 ≤ j) (.ex (.int kd (i.fdiv (2 ^ (min j.toNat kd.bits))))) (u ++ v):=⟨fun ho hok e _ hp=>.shr hok ho (h.h e.l) (k.h e.r) hp rfl⟩
instance (priority:=400) Op1.eqlG [h : Opd L x (.ex (.int kd i)) u] [k : Opd L y (.ex (.int kd j)) v] : Op1 P L B (.binOp .eql t x y t') True (BT (decide (i = j))) (u ++ v):=⟨fun ho hok e _ _=>.ieql hok ho (h.h e.l) (k.h e.r) (by rw [beq_dec];rfl)⟩
instance (priority:=400) Op1.neqG [h : Opd L x (.ex (.int kd i)) u] [k : Opd L y (.ex (.int kd j)) v] : Op1 P L B (.binOp .neq t x y t') True (BT (decide (i ≠ j))) (u ++ v):=⟨fun ho hok e _ _=>.ineq hok ho (h.h e.l) (k.h e.r) (by rw [bne_dec];rfl)⟩
end
theorem wr_pts {σ : MT} {V : Value} {G : Gh} (h : (PTS [(none,BT s),(none,σ)]).t V G) (f : ∀ v,σ.t v G → (SL l).t v G) : (WR s l).t V G:=by
  obtain ⟨us,rfl,hl,hE⟩:=h
  match us,hl,hE with
  | [a,c],_,hE =>
    have h0:=(hE 0 _ a rfl rfl)
    have h1:=(hE 1 _ c rfl rfl)
    have e : a = .bool s:=h0.2
    subst e
    refine ⟨c,?_,f c h1.2⟩
    have hc:=h1.1.1
    show Value.agg ((Value.bool s).cells.toList ++ (c.cells.toList ++ [])).toArray = _
    rw [hc];rfl
theorem wval_bd (s : Bool) (l : List Nat) : (wval s l).natAbs ≤ val l:=by unfold wval;split <;> (try split) <;> simp
theorem wval_sg (s : Bool) (m : Nat) : wval s (words m) = sg s m:=by
  unfold wval wok sg
  by_cases h : m = 0
  · subst h;simp [words_zero,val]
  · have : words m ≠ []:=fun e=>h (words_nil_iff.1 e)
    rw [if_neg this,canl_words];simp [val_words]
theorem LSC.sv2 {a c : Int} {w : Nat} {v : Value} {G : Gh} (h : (LSC none [MT.ex (.int .u32 a),MT.ex (.int .u32 c)]).t v G) (h1 : 0 ≤ a ∧ a < 4294967296) (h2 : 0 ≤ c ∧ c < 4294967296) (hw : (w : Int) = a + 4294967296 * c) : (SV 64 w).t v G:=by
  obtain ⟨A,d,e1,e2,e3,e4⟩:=h.1
  refine ⟨by have : (2 : Nat) ^ 64 = 18446744073709551616 := rfl
             omega,[a.toNat,c.toNat],by simp only [val];omega,A,d,e1,e2,e3,by simp [wfl];omega,fun i x hi=>?_⟩
  match i,hi with
  | 0,hi =>
    cases hi
    obtain ⟨b,off,e,u,g1,g2,_⟩:=e4 0 _ rfl
    cases g2
    rw [Nat.zero_mul,Nat.add_zero] at g1
    exact ⟨b,off,e,by rw [Nat.add_zero,g1,u32,Int.toNat_of_nonneg h1.1]⟩
  | 1,hi =>
    cases hi
    obtain ⟨b,off,e,u,g1,g2,_⟩:=e4 1 _ rfl
    cases g2
    rw [Nat.one_mul] at g1
    exact ⟨b,off,e,by rw [show off + 1 = off + (none : Option Nat).getD 1 from rfl,g1,u32,Int.toNat_of_nonneg h2.1]⟩
  | i + 2,hi=>simp at hi
class NW (τ : MT) (τ' : outParam MT) : Prop where
  h : ∀ {v : Value} {G : Gh},τ.t v G → τ'.t v G
instance (priority:=500) NW.id : NW τ τ:=⟨fun h=>h⟩
instance NW.c : NW (WC n z) (W n z):=⟨WC.toW⟩
instance NW.sb : NW (PTS [(none,BT s),(none,SB n l)]) (W n (wval s l)):=⟨fun {V G} h=>by
  have hb : val l < 2 ^ n:=by
    obtain ⟨us,rfl,hl,hE⟩:=h
    match us,hl,hE with
    | [a,c],_,hE=>exact (hE 1 _ c rfl rfl).2.1
  exact WR.toW (wr_pts h fun v hv=>hv.2) ⟨rfl,Nat.lt_of_le_of_lt (wval_bd s l) hb⟩⟩
instance NW.sn : NW (PTS [(none,BT s),(none,SN n m)]) (W n (sg s m)):=⟨fun {V G} h=>by
  have hb : m < 2 ^ n:=by
    obtain ⟨us,rfl,hl,hE⟩:=h
    match us,hl,hE with
    | [a,c],_,hE=>exact (hE 1 _ c rfl rfl).2.1
  exact WR.toW (wr_pts h fun v hv=>hv.2) ⟨wval_sg s m,by unfold sg;split <;> simpa using hb⟩⟩
class NV (τ : MT) (τ' : outParam MT) : Prop where
  h : ∀ {v : Value} {G : Gh},τ.t v G → τ'.t v G
instance (priority:=500) NV.id : NV τ τ:=⟨fun h=>h⟩
instance NV.sn : NV (SN n m) (SV n m):=⟨SN.toSV⟩
instance NV.p [q : AsW τ l] : NV (PTS [(none,BT s),(none,τ)]) (WR s l):=⟨fun h=>wr_pts h fun v hv=>q.h hv⟩
instance (priority:=800) Cv.snn : Cv (.ex (.slice none 0 0)) (SN n m) (m = 0):=⟨fun e v G h=>by cases h;subst e;exact SN.nil⟩
instance (priority:=800) Cv.snl [q : AsW τ l] : Cv τ (SN n m) (l = words m ∧ m < 2 ^ n):=⟨fun e v G h=>⟨e.2,e.1 ▸ q.h h⟩⟩
instance (priority:=850) Cv.sns : Cv (SN n m) (SN k m') (n ≤ k ∧ m = m'):=⟨fun e v G h=>SN.eq (SN.up h e.1) e.2⟩
instance (priority:=800) Cv.svs : Cv (SN n m) (SV k m') (n ≤ k ∧ m = m'):=⟨fun e v G h=>SN.toSV (SN.eq (SN.up h e.1) e.2)⟩
instance (priority:=800) Cv.wcc {z' : Int} : Cv (WC n z) (WC k z') (n ≤ k ∧ z = z'):=⟨fun e v G h=>WC.eq (WC.up h e.1) e.2⟩
instance (priority:=800) Cv.wcw {z' : Int} : Cv (WC n z) (W k z') (n ≤ k ∧ z = z'):=⟨fun e v G h=>WC.toW (WC.eq (WC.up h e.1) e.2)⟩
instance (priority:=900) Cv.wp : Cv (PTS [(none,BT b),(none,SN n m)]) (WC k z) (b = decide (z < 0) ∧ m = z.natAbs ∧ n ≤ k):=⟨fun e v G h=>by
  have h':=NW.sn.h h
  obtain ⟨rfl,rfl,e3⟩:=e
  have hb : z.natAbs < 2 ^ n:=by
    obtain ⟨us,rfl,hl,hE⟩:=h
    match us,hl,hE with
    | [a,c],_,hE=>exact (hE 1 _ c rfl rfl).2.1
  exact ⟨Nat.lt_of_lt_of_le hb (Nat.pow_le_pow_right (by omega) e3),wr_pts h fun v hv=>hv.2⟩⟩
instance (priority:=900) Cv.wpb : Cv (PTS [(none,BT b),(none,SB n l)]) (WC k z) (b = decide (z < 0) ∧ l = words z.natAbs ∧ n ≤ k):=⟨fun e v G h=>by
  obtain ⟨rfl,rfl,e3⟩:=e
  have hb : z.natAbs < 2 ^ n:=by
    obtain ⟨us,rfl,hl,hE⟩:=h
    match us,hl,hE with
    | [a,c],_,hE=>have:=(hE 1 _ c rfl rfl).2.1;rwa [val_words] at this
  exact ⟨Nat.lt_of_lt_of_le hb (Nat.pow_le_pow_right (by omega) e3),wr_pts h fun v hv=>hv.2⟩⟩
theorem QV.fx {n : Nat} {x : Rat} {v : Value} {G : Gh} (h : (QV n x).t v G) : ∃ r : FR,r.val = x ∧ (FX n r).t v G:=by
  obtain ⟨h0,s,p,q,h1,h2,h3,h4⟩:=h
  exact ⟨⟨s,p,q⟩,h1,h0,h2,h3,h4⟩
class NF (τ : MT) (τ' : outParam MT) : Prop where
  h : ∀ {v : Value} {G : Gh},τ.t v G → τ'.t v G
instance (priority:=500) NF.id : NF τ τ:=⟨fun h=>h⟩
instance NF.q {x : Rat} : NF (QC n x) (FX n (FR.of x)):=⟨fun h=>QC.toFX h (one_le_of_lt x.den_nz h.1.2)⟩
class NFL (fs : List (Option Nat × MT)) (gs : outParam (List (Option Nat × MT))) : Prop where
  h : ∀ {us : List Value} {G : Gh},PF fs us G → PF gs us G
instance NFL.nil : NFL [] []:=⟨fun h=>h⟩
instance NFL.cons {k : Option Nat} {fs gs : List (Option Nat × MT)} [h : NF τ τ'] [l : NFL fs gs] : NFL ((k,τ) :: fs) ((k,τ') :: gs):=⟨fun hp=>by
  obtain ⟨v,us',rfl,hs,ht,hp'⟩:=hp.cons
  exact .mk hs (h.h ht) (l.h hp')⟩
instance NF.pts {fs gs : List (Option Nat × MT)} [l : NFL fs gs] : NF (PTS fs) (PTS gs):=⟨fun hv=>by
  obtain ⟨us,e1,h1,h2⟩:=hv
  exact ⟨us,e1,l.h ⟨h1,h2⟩⟩⟩
class NQ (τ : MT) (τ' : outParam MT) : Prop where
  h : ∀ {v : Value} {G : Gh},τ.t v G → τ'.t v G
instance (priority:=500) NQ.id : NQ τ τ:=⟨fun h=>h⟩
instance NQ.f {r : FR} : NQ (FX n r) (QV n r.val):=⟨FX.toQV⟩
instance NQ.q {x : Rat} : NQ (QC n x) (QV n x):=⟨QC.toQV⟩
class NQL (fs : List (Option Nat × MT)) (gs : outParam (List (Option Nat × MT))) : Prop where
  h : ∀ {us : List Value} {G : Gh},PF fs us G → PF gs us G
instance NQL.nil : NQL [] []:=⟨fun h=>h⟩
instance NQL.cons {k : Option Nat} {fs gs : List (Option Nat × MT)} [h : NQ τ τ'] [l : NQL fs gs] : NQL ((k,τ) :: fs) ((k,τ') :: gs):=⟨fun hp=>by
  obtain ⟨v,us',rfl,hs,ht,hp'⟩:=hp.cons
  exact .mk hs (h.h ht) (l.h hp')⟩
instance NQ.pts {fs gs : List (Option Nat × MT)} [l : NQL fs gs] : NQ (PTS fs) (PTS gs):=⟨fun hv=>by
  obtain ⟨us,e1,h1,h2⟩:=hv
  exact ⟨us,e1,l.h ⟨h1,h2⟩⟩⟩
theorem div_frac {x y : Rat} (hy : y ≠ 0) : Rat.divInt (x.num * ((y.den : Nat) : Int)) (((x.den : Nat) : Int) * y.num) = x / y:=by
  have h1 : x = Rat.divInt x.num x.den:=(Rat.num_divInt_den x).symm
  have h2 : y = Rat.divInt y.num y.den:=(Rat.num_divInt_den y).symm
  have hd:=x.den_nz;have he:=y.den_nz
  have hn : y.num ≠ 0:=fun e=>hy (Rat.num_eq_zero.1 e)
  rw [Rat.div_def]
  conv=>rhs;rw [h1,h2]
  rw [Rat.inv_divInt,Rat.divInt_mul_divInt]
theorem qr_pts {σ ρ : MT} {p q : List Nat} {V : Value} {G : Gh} (h : (PTS [(none,BT s),(none,σ),(none,ρ)]).t V G) (f : ∀ v,σ.t v G → (SL p).t v G) (g : ∀ v,ρ.t v G → (SL q).t v G) : (QR s p q).t V G:=by
  obtain ⟨us,rfl,hl,hE⟩:=h
  match us,hl,hE with
  | [a,c,d],_,hE =>
    have h0:=(hE 0 _ a rfl rfl)
    have h1:=(hE 1 _ c rfl rfl)
    have h2:=(hE 2 _ d rfl rfl)
    have e : a = .bool s:=h0.2
    subst e
    refine ⟨c,d,?_,f c h1.2,g d h2.2⟩
    have hc:=h1.1.1;have hd:=h2.1.1
    show Value.agg ((Value.bool s).cells.toList ++ (c.cells.toList ++ (d.cells.toList ++ []))).toArray = _
    rw [hc,hd];rfl
instance (priority:=900) Cv.qp {i j : Nat} {x : Rat} : Cv (PTS [(none,BT b),(none,SN n i),(none,SN m j)]) (QC k x) (b = decide (x < 0) ∧ i = x.num.natAbs ∧ j = x.den ∧ x ≠ 0 ∧ n ≤ k ∧ m ≤ k):=⟨fun e v G h=>by
  obtain ⟨rfl,rfl,rfl,e4,e5,e6⟩:=e
  have hb : x.num.natAbs < 2 ^ n ∧ x.den < 2 ^ m:=by
    obtain ⟨us,rfl,hl,hE⟩:=h
    match us,hl,hE with
    | [a,c,d],_,hE=>exact ⟨(hE 1 _ c rfl rfl).2.1,(hE 2 _ d rfl rfl).2.1⟩
  refine ⟨⟨Nat.lt_of_lt_of_le hb.1 (Nat.pow_le_pow_right (by omega) e5),Nat.lt_of_lt_of_le hb.2 (Nat.pow_le_pow_right (by omega) e6)⟩,?_⟩
  have : dwords x = words x.den:=by unfold dwords;rw [if_neg e4]
  rw [this]
  exact qr_pts h (fun v hv=>hv.2) fun v hv=>hv.2⟩
instance (priority:=850) Cv.fq {r : FR} {x : Rat} : Cv (FX n r) (QC k x) (n ≤ k ∧ x = 0 ∧ r = default):=⟨fun e v G h=>by
  obtain ⟨e1,rfl,rfl⟩:=e
  refine ⟨⟨?_,?_⟩,?_⟩
  · exact Nat.pow_pos (by decide)
  · have h1 : 1 ≤ n:=h.1
    exact Nat.lt_of_lt_of_le (show (1 : Nat) < 2 ^ 1 by decide) (Nat.pow_le_pow_right (by decide) (by omega))
  · have:=h.2.2.2
    rw [show decide ((0 : Rat) < 0) = false by decide,show words (0 : Rat).num.natAbs = [] from words_zero,show dwords 0 = [] by simp [dwords]]
    exact this⟩
instance Op1.bse {e0 : TypeId} {by0 : Nat} {z0 : Value} [e : ElS P t e0 none by0 z0] : Op1 P L B (.buildSlice t 0 #[]) True EMP []:=⟨fun ho hok _ _ _=>.build0 hok ho e.h1 e.h2⟩
class ElW (P : Program) (t : TypeId) : Prop where
  h : ∃ e,P.underlying t = some (.slice e) ∧ elS P e 1 4 (u32 0)
instance Op1.apn [e : ElW P t] [h : Opd L x EMP u] [k : Opd L y (SB n l) v] : Op1 P L B (.call { callee:=.builtin .append,args:=#[x,y],argTypes:=#[t,t] }) True (SB n l) (u ++ v):=⟨fun {W0 w a G o} ho hok e' _ _=>by
  obtain ⟨e0,h1,h2⟩:=e.h
  have hy:=k.h e'.r
  exact fun Q K hK=>OpR.appNew hok ho h1 h2 (h.h e'.l) hy.2 Q K fun v w' G' hv hn=>hK v w' G' ⟨hy.1,hv⟩ hn⟩
end
class ArE (P : Program) (t : TypeId) (n : outParam Nat) (k : outParam (Option Nat)) : Prop where
  h : ∃ e,P.underlying t = some (.array n e) ∧ tyS P e k = true
end Go.Proofs.YtboicjlbbbodgaaGreatDoor
namespace Go.Proofs.YtboicjlbbbodgaaGreatDoor
instance : TyS Tryz.prog 3 none:=⟨by kernel_rfl⟩
instance : TyS Tryz.prog 4 none:=⟨by kernel_rfl⟩
instance : TyS Tryz.prog 5 none:=⟨by kernel_rfl⟩
instance : TyS Tryz.prog 9 none:=⟨by kernel_rfl⟩
instance : TyS Tryz.prog 22 none:=⟨by kernel_rfl⟩
instance : TyS Tryz.prog 24 (some 1):=⟨by kernel_rfl⟩
instance : TyS Tryz.prog 26 none:=⟨by kernel_rfl⟩
instance : TyS Tryz.prog 28 (some 2):=⟨by kernel_rfl⟩
instance : TyS Tryz.prog 32 none:=⟨by kernel_rfl⟩
instance : TyS Tryz.prog 55 none:=⟨by kernel_rfl⟩
instance : TyS Tryz.prog 57 (some 3):=⟨by kernel_rfl⟩
instance : TyS Tryz.prog 67 (some 6):=⟨by kernel_rfl⟩
instance : TyS Tryz.prog 99 none:=⟨by kernel_rfl⟩
instance : TyS Tryz.prog 104 (some 2):=⟨by kernel_rfl⟩
instance : TyS Tryz.prog 163 (some 2):=⟨by kernel_rfl⟩
instance : FO Tryz.prog 24 0 0:=⟨by kernel_rfl⟩
instance : FS Tryz.prog 24 0 none:=⟨trivial⟩
instance : FO Tryz.prog 28 0 0:=⟨by kernel_rfl⟩
instance : FS Tryz.prog 28 0 none:=⟨trivial⟩
instance : FO Tryz.prog 28 1 1:=⟨by kernel_rfl⟩
instance : FS Tryz.prog 28 1 none:=⟨trivial⟩
instance : FO Tryz.prog 57 0 0:=⟨by kernel_rfl⟩
instance : FS Tryz.prog 57 0 none:=⟨trivial⟩
instance : FO Tryz.prog 57 1 1:=⟨by kernel_rfl⟩
instance : FS Tryz.prog 57 1 none:=⟨trivial⟩
instance : FO Tryz.prog 57 2 2:=⟨by kernel_rfl⟩
instance : FS Tryz.prog 57 2 none:=⟨trivial⟩
instance : FO Tryz.prog 67 0 0:=⟨by kernel_rfl⟩
instance : FS Tryz.prog 67 0 (some 3):=⟨trivial⟩
instance : FO Tryz.prog 67 1 3:=⟨by kernel_rfl⟩
instance : FS Tryz.prog 67 1 (some 3):=⟨trivial⟩
instance : FO Tryz.prog 104 0 0:=⟨by kernel_rfl⟩
instance : FS Tryz.prog 104 0 none:=⟨trivial⟩
instance : FO Tryz.prog 104 1 1:=⟨by kernel_rfl⟩
instance : FS Tryz.prog 104 1 none:=⟨trivial⟩
instance : Und Tryz.prog 4 .bool:=⟨by kernel_rfl⟩
instance : Ifc Tryz.prog 32:=⟨by unfold ifaceT;kernel_rfl⟩
instance : NIf Tryz.prog 9:=⟨by kernel_rfl⟩
instance : NIf Tryz.prog 41:=⟨by kernel_rfl⟩
instance : ErI Tryz.prog 41:=.of (k:=.i64) (by kernel_rfl) (by kernel_rfl)
instance : ITy Tryz.prog 3 .i64:=⟨by kernel_rfl⟩
instance : ITy Tryz.prog 5 .u8:=⟨by kernel_rfl⟩
instance : ITy Tryz.prog 99 .u32:=⟨by kernel_rfl⟩
instance : ITy Tryz.prog 139 .u64:=⟨by kernel_rfl⟩
instance : ITy Tryz.prog 140 .u64:=⟨by kernel_rfl⟩
instance : ArE Tryz.prog 193 32 none:=⟨5,by kernel_rfl,by kernel_rfl⟩
instance : ArE Tryz.prog 194 64 none:=⟨5,by kernel_rfl,by kernel_rfl⟩
instance : Cb Tryz.prog 12:=⟨by kernel_rfl⟩
instance : Cb Tryz.prog 13:=⟨by kernel_rfl⟩
instance : Cb Tryz.prog 14:=⟨by kernel_rfl⟩
instance : Cb Tryz.prog 15:=⟨by kernel_rfl⟩
instance : Cb Tryz.prog 16:=⟨by kernel_rfl⟩
instance : Cb Tryz.prog 17:=⟨by kernel_rfl⟩
instance : Cb Tryz.prog 18:=⟨by kernel_rfl⟩
instance : Cb Tryz.prog 19:=⟨by kernel_rfl⟩
instance : Cb Tryz.prog 20:=⟨by kernel_rfl⟩
instance : Cb Tryz.prog 21:=⟨by kernel_rfl⟩
instance : Cb Tryz.prog 22:=⟨by kernel_rfl⟩
instance : Cb Tryz.prog 23:=⟨by kernel_rfl⟩
instance : Cb Tryz.prog 24:=⟨by kernel_rfl⟩
instance : Cb Tryz.prog 25:=⟨by kernel_rfl⟩
instance : Cb Tryz.prog 26:=⟨by kernel_rfl⟩
instance : Cb Tryz.prog 27:=⟨by kernel_rfl⟩
instance : Cb Tryz.prog 28:=⟨by kernel_rfl⟩
instance : Cb Tryz.prog 29:=⟨by kernel_rfl⟩
instance : Cb Tryz.prog 30:=⟨by kernel_rfl⟩
instance : Cb Tryz.prog 31:=⟨by kernel_rfl⟩
instance : Cb Tryz.prog 32:=⟨by kernel_rfl⟩
instance : Cb Tryz.prog 33:=⟨by kernel_rfl⟩
instance : Cb Tryz.prog 34:=⟨by kernel_rfl⟩
instance : Cb Tryz.prog 35:=⟨by kernel_rfl⟩
instance : Cb Tryz.prog 36:=⟨by kernel_rfl⟩
instance : Cb Tryz.prog 37:=⟨by kernel_rfl⟩
instance : Cb Tryz.prog 38:=⟨by kernel_rfl⟩
instance : Cb Tryz.prog 39:=⟨by kernel_rfl⟩
instance : Cb Tryz.prog 40:=⟨by kernel_rfl⟩
instance : Cb Tryz.prog 41:=⟨by kernel_rfl⟩
instance : Cb Tryz.prog 42:=⟨by kernel_rfl⟩
instance : Cb Tryz.prog 43:=⟨by kernel_rfl⟩
instance : Cb Tryz.prog 44:=⟨by kernel_rfl⟩
instance : Cb Tryz.prog 45:=⟨by kernel_rfl⟩
instance : Cb Tryz.prog 46:=⟨by kernel_rfl⟩
instance : Cb Tryz.prog 47:=⟨by kernel_rfl⟩
instance : Cb Tryz.prog 48:=⟨by kernel_rfl⟩
instance : Cb Tryz.prog 49:=⟨by kernel_rfl⟩
instance : Cb Tryz.prog 50:=⟨by kernel_rfl⟩
instance : Cb Tryz.prog 51:=⟨by kernel_rfl⟩
instance : Cb Tryz.prog 52:=⟨by kernel_rfl⟩
instance : Cb Tryz.prog 53:=⟨by kernel_rfl⟩
instance : Cb Tryz.prog 54:=⟨by kernel_rfl⟩
instance : Cb Tryz.prog 55:=⟨by kernel_rfl⟩
instance : Cb Tryz.prog 56:=⟨by kernel_rfl⟩
instance : Cb Tryz.prog 57:=⟨by kernel_rfl⟩
instance : Cb Tryz.prog 58:=⟨by kernel_rfl⟩
instance : Cb Tryz.prog 59:=⟨by kernel_rfl⟩
instance : Cb Tryz.prog 60:=⟨by kernel_rfl⟩
instance : Cb Tryz.prog 61:=⟨by kernel_rfl⟩
instance : Cb Tryz.prog 62:=⟨by kernel_rfl⟩
instance : Cb Tryz.prog 63:=⟨by kernel_rfl⟩
instance : Cb Tryz.prog 64:=⟨by kernel_rfl⟩
instance : Cb Tryz.prog 65:=⟨by kernel_rfl⟩
instance : Cb Tryz.prog 66:=⟨by kernel_rfl⟩
instance : Cb Tryz.prog 67:=⟨by kernel_rfl⟩
instance : Cb Tryz.prog 68:=⟨by kernel_rfl⟩
instance : Cb Tryz.prog 69:=⟨by kernel_rfl⟩
instance : Cb Tryz.prog 70:=⟨by kernel_rfl⟩
instance : Cb Tryz.prog 71:=⟨by kernel_rfl⟩
instance : Cb Tryz.prog 72:=⟨by kernel_rfl⟩
instance : Cb Tryz.prog 73:=⟨by kernel_rfl⟩
instance : Cb Tryz.prog 74:=⟨by kernel_rfl⟩
instance : Cb Tryz.prog 75:=⟨by kernel_rfl⟩
instance : Cb Tryz.prog 76:=⟨by kernel_rfl⟩
instance : Cb Tryz.prog 77:=⟨by kernel_rfl⟩
instance : Cb Tryz.prog 78:=⟨by kernel_rfl⟩
instance : Cb Tryz.prog 79:=⟨by kernel_rfl⟩
instance : Cb Tryz.prog 80:=⟨by kernel_rfl⟩
instance : Cb Tryz.prog 81:=⟨by kernel_rfl⟩
instance : Cb Tryz.prog 82:=⟨by kernel_rfl⟩
instance : Cb Tryz.prog 83:=⟨by kernel_rfl⟩
instance : Cb Tryz.prog 84:=⟨by kernel_rfl⟩
instance : Cb Tryz.prog 85:=⟨by kernel_rfl⟩
instance : Cb Tryz.prog 86:=⟨by kernel_rfl⟩
instance : Cb Tryz.prog 87:=⟨by kernel_rfl⟩
instance : Cb Tryz.prog 88:=⟨by kernel_rfl⟩
instance : Cb Tryz.prog 89:=⟨by kernel_rfl⟩
instance : Cb Tryz.prog 90:=⟨by kernel_rfl⟩
instance : Cb Tryz.prog 91:=⟨by kernel_rfl⟩
instance : Cb Tryz.prog 92:=⟨by kernel_rfl⟩
instance : Cb Tryz.prog 93:=⟨by kernel_rfl⟩
instance : Cb Tryz.prog 94:=⟨by kernel_rfl⟩
instance : Cb Tryz.prog 95:=⟨by kernel_rfl⟩
instance : Cb Tryz.prog 96:=⟨by kernel_rfl⟩
instance : Cb Tryz.prog 97:=⟨by kernel_rfl⟩
instance : Cb Tryz.prog 98:=⟨by kernel_rfl⟩
instance : Cb Tryz.prog 99:=⟨by kernel_rfl⟩
instance : Cb Tryz.prog 100:=⟨by kernel_rfl⟩
instance : Cb Tryz.prog 101:=⟨by kernel_rfl⟩
instance : Cb Tryz.prog 102:=⟨by kernel_rfl⟩
instance : Cb Tryz.prog 103:=⟨by kernel_rfl⟩
instance : Cb Tryz.prog 104:=⟨by kernel_rfl⟩
instance : Cb Tryz.prog 105:=⟨by kernel_rfl⟩
instance : Cb Tryz.prog 106:=⟨by kernel_rfl⟩
instance : Cb Tryz.prog 107:=⟨by kernel_rfl⟩
instance : Cb Tryz.prog 108:=⟨by kernel_rfl⟩
instance : Cb Tryz.prog 109:=⟨by kernel_rfl⟩
instance : Cb Tryz.prog 110:=⟨by kernel_rfl⟩
instance : Cb Tryz.prog 111:=⟨by kernel_rfl⟩
instance : Cb Tryz.prog 112:=⟨by kernel_rfl⟩
instance : Cb Tryz.prog 113:=⟨by kernel_rfl⟩
instance : Cb Tryz.prog 114:=⟨by kernel_rfl⟩
instance : Cb Tryz.prog 115:=⟨by kernel_rfl⟩
instance : Cb Tryz.prog 116:=⟨by kernel_rfl⟩
instance : Cb Tryz.prog 117:=⟨by kernel_rfl⟩
instance : Cb Tryz.prog 118:=⟨by kernel_rfl⟩
instance : Cb Tryz.prog 119:=⟨by kernel_rfl⟩
instance : Cb Tryz.prog 120:=⟨by kernel_rfl⟩
instance : Cb Tryz.prog 121:=⟨by kernel_rfl⟩
instance : Cb Tryz.prog 122:=⟨by kernel_rfl⟩
instance : Cb Tryz.prog 123:=⟨by kernel_rfl⟩
instance : Cb Tryz.prog 124:=⟨by kernel_rfl⟩
instance : Cb Tryz.prog 125:=⟨by kernel_rfl⟩
instance : Cb Tryz.prog 126:=⟨by kernel_rfl⟩
instance : Cb Tryz.prog 127:=⟨by kernel_rfl⟩
instance : Cb Tryz.prog 128:=⟨by kernel_rfl⟩
instance : Cb Tryz.prog 129:=⟨by kernel_rfl⟩
instance : Cb Tryz.prog 130:=⟨by kernel_rfl⟩
instance : Cb Tryz.prog 131:=⟨by kernel_rfl⟩
instance : Cb Tryz.prog 132:=⟨by kernel_rfl⟩
instance : Cb Tryz.prog 133:=⟨by kernel_rfl⟩
instance : Cb Tryz.prog 134:=⟨by kernel_rfl⟩
instance : Cb Tryz.prog 135:=⟨by kernel_rfl⟩
instance : Cb Tryz.prog 136:=⟨by kernel_rfl⟩
instance : Cb Tryz.prog 137:=⟨by kernel_rfl⟩
instance : Cb Tryz.prog 138:=⟨by kernel_rfl⟩
instance : Cb Tryz.prog 139:=⟨by kernel_rfl⟩
instance : Cb Tryz.prog 140:=⟨by kernel_rfl⟩
instance : Cb Tryz.prog 141:=⟨by kernel_rfl⟩
instance : Cb Tryz.prog 142:=⟨by kernel_rfl⟩
instance : Cb Tryz.prog 143:=⟨by kernel_rfl⟩
instance : Cb Tryz.prog 144:=⟨by kernel_rfl⟩
instance : Cb Tryz.prog 145:=⟨by kernel_rfl⟩
instance : Cb Tryz.prog 146:=⟨by kernel_rfl⟩
instance : Cb Tryz.prog 147:=⟨by kernel_rfl⟩
instance : Cb Tryz.prog 148:=⟨by kernel_rfl⟩
instance : Cb Tryz.prog 149:=⟨by kernel_rfl⟩
instance : Cb Tryz.prog 150:=⟨by kernel_rfl⟩
instance : Cb Tryz.prog 151:=⟨by kernel_rfl⟩
instance : Cb Tryz.prog 152:=⟨by kernel_rfl⟩
instance : Cb Tryz.prog 153:=⟨by kernel_rfl⟩
instance : Cb Tryz.prog 154:=⟨by kernel_rfl⟩
instance : Cb Tryz.prog 155:=⟨by kernel_rfl⟩
instance : Cb Tryz.prog 156:=⟨by kernel_rfl⟩
instance : Cb Tryz.prog 157:=⟨by kernel_rfl⟩
instance : Cb Tryz.prog 158:=⟨by kernel_rfl⟩
instance : Cb Tryz.prog 159:=⟨by kernel_rfl⟩
instance : Cb Tryz.prog 160:=⟨by kernel_rfl⟩
instance : Cb Tryz.prog 161:=⟨by kernel_rfl⟩
instance : Cb Tryz.prog 162:=⟨by kernel_rfl⟩
instance : Cb Tryz.prog 163:=⟨by kernel_rfl⟩
instance : Cb Tryz.prog 164:=⟨by kernel_rfl⟩
instance : Cb Tryz.prog 165:=⟨by kernel_rfl⟩
instance : Cb Tryz.prog 166:=⟨by kernel_rfl⟩
instance : Cb Tryz.prog 167:=⟨by kernel_rfl⟩
instance : Cb Tryz.prog 171:=⟨by kernel_rfl⟩
instance : Cb Tryz.prog 172:=⟨by kernel_rfl⟩
instance : Cb Tryz.prog 174:=⟨by kernel_rfl⟩
instance : Cb Tryz.prog 175:=⟨by kernel_rfl⟩
instance : Cb Tryz.prog 176:=⟨by kernel_rfl⟩
instance : Cb Tryz.prog 177:=⟨by kernel_rfl⟩
instance : Cb Tryz.prog 178:=⟨by kernel_rfl⟩
instance : Cb Tryz.prog 179:=⟨by kernel_rfl⟩
instance : Cb Tryz.prog 180:=⟨by kernel_rfl⟩
instance : Cb Tryz.prog 181:=⟨by kernel_rfl⟩
instance : Cb Tryz.prog 182:=⟨by kernel_rfl⟩
instance : Cb Tryz.prog 183:=⟨by kernel_rfl⟩
instance : Cb Tryz.prog 184:=⟨by kernel_rfl⟩
instance : Cb Tryz.prog 186:=⟨by kernel_rfl⟩
instance : Cb Tryz.prog 187:=⟨by kernel_rfl⟩
instance : Cb Tryz.prog 191:=⟨by kernel_rfl⟩
instance : Cb Tryz.prog 203:=⟨by kernel_rfl⟩
instance : Cb Tryz.prog 204:=⟨by kernel_rfl⟩
instance : SlE Tryz.prog 22 none:=⟨26,by kernel_rfl,by kernel_rfl⟩
instance : SlE Tryz.prog 25 (some 3):=⟨57,by kernel_rfl,by kernel_rfl⟩
instance : SlE Tryz.prog 26 (some 3):=⟨57,by kernel_rfl,by kernel_rfl⟩
instance : SlE Tryz.prog 35 none:=⟨32,by kernel_rfl,by kernel_rfl⟩
instance : SlE Tryz.prog 55 none:=⟨99,by kernel_rfl,by kernel_rfl⟩
instance : SlE Tryz.prog 96 none:=⟨3,by kernel_rfl,by kernel_rfl⟩
instance : SlE Tryz.prog 147 none:=⟨9,by kernel_rfl,by kernel_rfl⟩
instance : ZV ⟨some 1,.agg #[(.slice none 0 0)],PTS [(none,(.ex (.slice none 0 0)))]⟩:=.pts [⟨none,.slice none 0 0,.ex (.slice none 0 0)⟩] inferInstance rfl rfl rfl
instance : Zer Tryz.prog 24 (some 1) (PTS [(none,(.ex (.slice none 0 0)))]):=.of ⟨some 1,.agg #[(.slice none 0 0)],PTS [(none,(.ex (.slice none 0 0)))]⟩ (by kernel_rfl)
instance : Zr Tryz.prog 24 (some 1) (.agg #[(.slice none 0 0)]):=.of ⟨some 1,.agg #[(.slice none 0 0)],PTS [(none,(.ex (.slice none 0 0)))]⟩ (by kernel_rfl)
instance : ZFl Tryz.prog 24 [⟨none,.slice none 0 0,.ex (.slice none 0 0)⟩]:=⟨by kernel_rfl,.inl (by kernel_rfl),inferInstance⟩
instance : Zer Tryz.prog 57 (some 3) (FX 1 default):=.of ⟨some 3,.agg #[.bool false,.slice none 0 0,.slice none 0 0],FX 1 default⟩ (by kernel_rfl)
instance : Zr Tryz.prog 57 (some 3) (.agg #[.bool false,.slice none 0 0,.slice none 0 0]):=.of ⟨some 3,.agg #[.bool false,.slice none 0 0,.slice none 0 0],FX 1 default⟩ (by kernel_rfl)
instance : BZ Tryz.prog 57 (FX 1 default):=⟨_,by kernel_rfl,fun _=>(inferInstance : ZV ⟨some 3,.agg #[.bool false,.slice none 0 0,.slice none 0 0],FX 1 default⟩).t _⟩
instance : ZFl Tryz.prog 57 [⟨none,.bool false,BT false⟩,⟨none,.slice none 0 0,.ex (.slice none 0 0)⟩,⟨none,.slice none 0 0,.ex (.slice none 0 0)⟩]:=⟨by kernel_rfl,.inl (by kernel_rfl),inferInstance⟩
instance : ZV ⟨some 6,.agg #[.bool false,.slice none 0 0,.slice none 0 0,.bool false,.slice none 0 0,.slice none 0 0],PTS [(some 3,(FX 1 default)),(some 3,(FX 1 default))]⟩:=.pts [⟨some 3,.agg #[.bool false,.slice none 0 0,.slice none 0 0],FX 1 default⟩,⟨some 3,.agg #[.bool false,.slice none 0 0,.slice none 0 0],FX 1 default⟩] inferInstance rfl rfl rfl
instance : Zer Tryz.prog 67 (some 6) (PTS [(some 3,(FX 1 default)),(some 3,(FX 1 default))]):=.of ⟨some 6,.agg #[.bool false,.slice none 0 0,.slice none 0 0,.bool false,.slice none 0 0,.slice none 0 0],PTS [(some 3,(FX 1 default)),(some 3,(FX 1 default))]⟩ (by kernel_rfl)
instance : Zr Tryz.prog 67 (some 6) (.agg #[.bool false,.slice none 0 0,.slice none 0 0,.bool false,.slice none 0 0,.slice none 0 0]):=.of ⟨some 6,.agg #[.bool false,.slice none 0 0,.slice none 0 0,.bool false,.slice none 0 0,.slice none 0 0],PTS [(some 3,(FX 1 default)),(some 3,(FX 1 default))]⟩ (by kernel_rfl)
instance : ZFl Tryz.prog 67 [⟨some 3,.agg #[.bool false,.slice none 0 0,.slice none 0 0],FX 1 default⟩,⟨some 3,.agg #[.bool false,.slice none 0 0,.slice none 0 0],FX 1 default⟩]:=⟨by kernel_rfl,.inl (by kernel_rfl),inferInstance⟩
instance : Zer Tryz.prog 104 (some 2) (WC 0 0):=.of ⟨some 2,.agg #[.bool false,.slice none 0 0],WC 0 0⟩ (by kernel_rfl)
instance : Zr Tryz.prog 104 (some 2) (.agg #[.bool false,.slice none 0 0]):=.of ⟨some 2,.agg #[.bool false,.slice none 0 0],WC 0 0⟩ (by kernel_rfl)
instance : BZ Tryz.prog 104 (WC 0 0):=⟨_,by kernel_rfl,fun _=>(inferInstance : ZV ⟨some 2,.agg #[.bool false,.slice none 0 0],WC 0 0⟩).t _⟩
instance : ZFl Tryz.prog 104 [⟨none,.bool false,BT false⟩,⟨none,.slice none 0 0,.ex (.slice none 0 0)⟩]:=⟨by kernel_rfl,.inl (by kernel_rfl),inferInstance⟩
instance : ElS Tryz.prog 22 26 none 24 (.slice none 0 0):=⟨by kernel_rfl,by unfold elS;kernel_rfl,by kernel_rfl⟩
instance : ElS Tryz.prog 26 57 (some 3) 56 (.agg #[.bool false,.slice none 0 0,.slice none 0 0]):=⟨by kernel_rfl,by unfold elS;kernel_rfl,by kernel_rfl⟩
instance : ElS Tryz.prog 35 32 none 16 .nilIface:=⟨by kernel_rfl,by unfold elS;kernel_rfl,by kernel_rfl⟩
instance : ElW Tryz.prog 55:=⟨99,by kernel_rfl,by unfold elS;kernel_rfl⟩
instance : ElS Tryz.prog 55 99 none 4 (u32 0):=⟨by kernel_rfl,by unfold elS;kernel_rfl,by kernel_rfl⟩
instance : ElS Tryz.prog 96 3 none 8 (.int .i64 0):=⟨by kernel_rfl,by unfold elS;kernel_rfl,by kernel_rfl⟩
instance : ElS Tryz.prog 147 9 none 16 (.string ⟨#[]⟩):=⟨by kernel_rfl,by unfold elS;kernel_rfl,by kernel_rfl⟩
end Go.Proofs.YtboicjlbbbodgaaGreatDoor
