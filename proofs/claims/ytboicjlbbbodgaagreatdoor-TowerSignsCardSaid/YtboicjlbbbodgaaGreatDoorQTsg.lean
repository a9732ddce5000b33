import Derived.Sort.Row
import Derived.Test.YtboicjlbbbodgaaGreatDoorQTsf
set_option linter.unusedVariables false
set_option linter.unusedSimpArgs false
namespace Go.Proofs.YtboicjlbbbodgaaGreatDoor
open Go.RowKit (Below)
section
variable {P : Program} {W0 : World} {G0 : Gh} {N : Nat} {L : List (Nat × MT)} {B Bh own : List BX} {a : Act} {w : World} {G : Gh} {o : Oper} {Q : Exit → Act → World → Prop} {k : Option Nat} {e : TypeId} {v : Value} {τs σs : List MT}
theorem St.appSw (S : St W0 G0 N L (Bh ++ own) a w G) {d t bytes : Nat} {x y : Operand} {z : Value} (ho : o.op = .call { callee := .builtin .append, args := #[x, y], argTypes := #[t, t] }) (hd : o.dst = some d)
    (ht : P.underlying t = some (.slice e)) (he : elS P e (k.getD 1) bytes z) (hz : Shaped k z) (hx : a.eval x = v) (hr : OWNS k e v own τs) (hy : (LS k σs).t (a.eval y) G) (hpos : 0 < σs.length) (hlim : τs.length + σs.length ≤ LIM) (hby : (τs.length + σs.length) * bytes ≤ 140737488355328) (hdN : (decide (d < N)) = true) (hf : fresh d L = true)
    {K' : Act → World → Prop} (K : ∀ v' own' a' w' G',OWNS k e v' own' (τs ++ σs) → St W0 G0 N ((d,.ex v') :: L) (Bh ++ own') a' w' G' → K' a' w') : o.wp P a w K' Q:=by
  obtain ⟨i,hi,h1,h2,h3⟩:=elS_of he
  obtain ⟨A,c,vs,hye,hlc,_,hE,hL⟩:=LS.vals hy
  have hvl : vs.length = σs.length:=hE.1
  obtain ⟨b2,off2,rfl,_⟩:=hL 0 vs[0] (by rw [List.getElem?_eq_getElem (by omega)])
  have hsz:=hE.sizes
  have hnl : (flat vs).length = σs.length * i.size:=by rw [flat_len hsz,hvl,h1]
  have hnews : ∀ j u,(flat vs)[j]? = some u → w.cell? ((⟨b2,off2,none⟩ : Addr).add j) = some u:=fun j u hj=>by rw [addr_add];exact Gc.cell S.ok (hL.all hsz j u hj)
  simp only [LIM] at hlim
  have hdN':=of_decide_eq_true hdN
  have go : ∀ v' w',(Builtin.append_ #[t,t] o.type #[v,.slice (some ⟨b2,off2,none⟩) σs.length c]).run P w = .ok v' w' → K' (a.put (some d) v') w' → o.wp P a w K' Q:=fun v' w' hrun hk=>by
    unfold Oper.wp execOp
    simp only [ho,resolve,invoke,builtin,Sem.run_bind,Sem.run_pure,Result.andThen_ok,List.map_toArray,List.map_cons,List.map_nil,hx,hye,hrun]
    show K' (a.put o.dst v') w'
    rw [hd];exact hk
  have grown : ∀ (us : List Value) (cp : Nat), Els k τs us G → (Builtin.append_ #[t, t] o.type #[v, .slice (some ⟨b2, off2, none⟩) σs.length c]).run P w =
      .ok (.slice (some ⟨w.heap.size,0,none⟩) (τs.length + σs.length) (grownCap w (τs.length + σs.length) cp e)) (w.drew.alloc (.cells ((flat us).toArray ++ (flat vs).toArray ++ Builtin.zeroCells z.cells (grownCap w (τs.length + σs.length) cp e - (τs.length + σs.length))) e)) → o.wp P a w K' Q:=fun us cp hU hrun=>by
    have hge:=grownCap_ge w (τs.length + σs.length) cp e
    generalize grownCap w (τs.length + σs.length) cp e = q at *
    have hcells : (flat us).toArray ++ (flat vs).toArray ++ Builtin.zeroCells z.cells (q - (τs.length + σs.length)) = (flat (us ++ vs) ++ (Builtin.zeroCells z.cells (q - (τs.length + σs.length))).toList).toArray:=by
      rw [flat_app];simp
    rw [hcells] at hrun
    have hN:=Nxt.drew S.ok
    have hUV:=hU.app hE
    have hzs : z.cells.size = k.getD 1:=shaped_size hz
    have hlen : (flat (us ++ vs) ++ (Builtin.zeroCells z.cells (q - (τs.length + σs.length))).toList).length = q * k.getD 1:=by
      have hzl : (Builtin.zeroCells z.cells (q - (τs.length + σs.length))).toList.length = (q - (τs.length + σs.length)) * k.getD 1:=by rw [Array.length_toList,size_zeroCells,hzs]
      rw [List.length_append,flat_len hUV.sizes,hzl,List.length_append,hU.1,hvl,← Nat.add_mul]
      congr 1;omega
    have hsh : Shaped (some (q * k.getD 1)) (.agg (flat (us ++ vs) ++ (Builtin.zeroCells z.cells (q - (τs.length + σs.length))).toList).toArray):=Shp.rows hUV (zero_one hz) hlen
    refine go _ _ hrun (K _ [⟨w.heap.size,e,some (q * k.getD 1),ROWS k (τs ++ σs)⟩] _ _ G (.inr ⟨_,q,by rw [List.length_append],rfl,by rw [List.length_append];exact hge⟩) (St.put (w':=_) ?_ hdN' hf rfl (Nxt.refl ?_)))
    · refine S.front.newEnd (u:=.agg (flat (us ++ vs) ++ (Builtin.zeroCells z.cells (q - (τs.length + σs.length))).toList).toArray) (hN.trans (Nxt.alloc hN.ok _)) (Nat.le_refl _) (heap_alloc_new w.drew _) hsh ⟨us ++ vs,_,rfl,hUV⟩
    · exact (hN.trans (Nxt.alloc hN.ok _)).ok
  rcases hr with ⟨rfl,rfl,rfl⟩ | ⟨b,cp,rfl,rfl,hcp⟩
  · have hrun:=run_append_nil (P:=P) w t o.type e i z ht hi h3 ⟨b2,off2,none⟩ σs.length c (flat vs) hnl hnews hpos (by simp at hlim;omega) (by rw [h2];simp at hby;omega)
    exact grown [] 0 Els.nil (by simpa [flat] using hrun)
  · obtain ⟨h4,h5,u,hu,hsu,us,r,rfl,hU⟩:=S.bx Bh.length ⟨b,e,some (cp * k.getD 1),ROWS k τs⟩ (by simp)
    obtain ⟨cs',e1,hszc,hone⟩:=cells_one hsu
    injection e1 with e1
    have hfl : (flat us).length = τs.length * k.getD 1:=by rw [flat_len hU.sizes,hU.1]
    have htot : (flat us ++ r).length = cp * k.getD 1:=by rw [← hszc,← e1];simp
    by_cases hroom : τs.length + σs.length ≤ cp
    · have hrl : σs.length * k.getD 1 ≤ r.length := by
        have : (τs.length + σs.length) * k.getD 1 ≤ cp * k.getD 1:=Nat.mul_le_mul_right _ hroom
        rw [List.length_append,hfl] at htot;rw [Nat.add_mul] at this;omega
      have hrun:=run_append_room (P:=P) w t o.type e i ht hi b τs.length cp (flat us ++ r).toArray hu ⟨b2,off2,none⟩ σs.length c (flat vs) hnl hnews (flat_one hE.shaped) hroom (by rw [h1,hnl,h1];simp;rw [hfl];omega)
      have hset:=S.setVar Bh.length (x:=⟨b,e,some (cp * k.getD 1),ROWS k τs⟩) (by simp) (v:=.agg (flat (us ++ vs) ++ r.drop (σs.length * k.getD 1)).toArray) (τ:=ROWS k (τs ++ σs)) (Shp.rows (hU.app hE) (fun x hx=>hone x (by rw [← e1];simp;exact .inr (List.mem_of_mem_drop hx))) (by
        rw [List.length_append,flat_len (hU.app hE).sizes,List.length_append,hU.1,hvl,List.length_drop];rw [List.length_append,hfl] at htot;rw [Nat.add_mul];omega)) ⟨us ++ vs,_,rfl,hU.app hE⟩
      have hB : (Bh ++ [(⟨b,e,some (cp * k.getD 1),ROWS k τs⟩ : BX)]).set Bh.length ⟨b,e,some (cp * k.getD 1),ROWS k (τs ++ σs)⟩ = Bh ++ [(⟨b,e,some (cp * k.getD 1),ROWS k (τs ++ σs)⟩ : BX)]:=by simp
      rw [hB] at hset
      have hcell : (List.take (τs.length * i.size) (flat us ++ r).toArray.toList ++ flat vs ++ List.drop (τs.length * i.size + (flat vs).length) (flat us ++ r).toArray.toList).toArray = (flat (us ++ vs) ++ r.drop (σs.length * k.getD 1)).toArray:=by
        congr 1
        show List.take _ (flat us ++ r) ++ flat vs ++ List.drop _ (flat us ++ r) = _
        rw [hnl,h1,← hfl,List.take_left',List.drop_length_add_append,flat_app]
        rfl
      rw [hcell] at hrun
      exact go _ _ hrun (K _ [⟨b,e,some (cp * k.getD 1),ROWS k (τs ++ σs)⟩] _ _ G (.inr ⟨b,cp,by rw [List.length_append],rfl,by rw [List.length_append];exact hroom⟩) (hset.put hdN' hf rfl (Nxt.refl hset.ok)))
    · have hrun := run_append_grow (P := P) w t o.type e i z ht hi h3 ⟨b, 0, none⟩ τs.length cp (flat us) (by rw [hfl, h1]) (fun j q hj => by
        rw [addr_add,Nat.zero_add]
        have hu' : w.heap[b]? = some (.cells (flat us ++ r).toArray e (0,0)):=hu
        have hlt:=(List.getElem?_eq_some_iff.1 hj).1
        simp only [World.cell?,hu',List.getElem?_toArray]
        rw [List.getElem?_append_left hlt,hj];rfl) ⟨b2,off2,none⟩ σs.length c (flat vs) hnl hnews (by omega) (by omega) (growslice_fits (by omega) (by rw [h2];exact hby))
      exact grown us cp hU hrun
theorem run_append_zero {t ty e : TypeId} {i : TypeInfo} (ht : P.underlying t = some (.slice e)) (hi : P.info? e = some i) {base A : Option Addr} {n c m : Nat} (hle : n ≤ m) (w : World) : (Builtin.append_ #[t,t] ty #[.slice base n m,.slice A 0 c]).run P w = .ok (.slice base n m) w:=by
  have hf : (Builtin.firstCells i.size 0 (.slice A 0 c)).run P w = .ok #[] w:=by
    cases A with
    | none=>simp [Builtin.firstCells]
    | some ad=>simp [Builtin.firstCells,loadCells,loadCellsFrom]
  cases base <;> simp [Builtin.append_,run_underlying ht,sizeOf,typeInfo,hi,Builtin.lenOf,hf,hle,storeCells]
theorem St.appZw (S : St W0 G0 N L (Bh ++ own) a w G) {d t bytes : Nat} {x y : Operand} {z : Value} (ho : o.op = .call { callee := .builtin .append, args := #[x, y], argTypes := #[t, t] }) (hd : o.dst = some d)
    (ht : P.underlying t = some (.slice e)) (he : elS P e (k.getD 1) bytes z) (hz : Shaped k z) (hx : a.eval x = v) (hr : OWNS k e v own τs) (hy : (LS k σs).t (a.eval y) G) (hlim : τs.length + σs.length ≤ LIM) (hby : (τs.length + σs.length) * bytes ≤ 140737488355328) (hdN : (decide (d < N)) = true) (hf : fresh d L = true)
    {K' : Act → World → Prop} (K : ∀ v' own' a' w' G',OWNS k e v' own' (τs ++ σs) → St W0 G0 N ((d,.ex v') :: L) (Bh ++ own') a' w' G' → K' a' w') : o.wp P a w K' Q:=by
  by_cases hpos : 0 < σs.length
  · exact S.appSw ho hd ht he hz hx hr hy hpos hlim hby hdN hf K
  · obtain rfl : σs = []:=List.length_eq_zero_iff.1 (by omega)
    obtain ⟨i,hi,h1,h2,h3⟩:=elS_of he
    obtain ⟨A,c,hye,hlc,_,_⟩:=hy
    have hrun : (Builtin.append_ #[t,t] o.type #[v,.slice A 0 c]).run P w = .ok v w:=by
      rcases hr with ⟨rfl,_,_⟩ | ⟨b,cp,rfl,_,hle⟩
      · exact run_append_zero ht hi (Nat.le_refl _) w
      · exact run_append_zero ht hi hle w
    unfold Oper.wp execOp
    simp only [List.length_nil] at hye
    simp only [ho,resolve,invoke,builtin,Sem.run_bind,Sem.run_pure,Result.andThen_ok,List.map_toArray,List.map_cons,List.map_nil,hx,hye,hrun]
    show K' (a.put o.dst v) w
    rw [hd]
    exact K v own _ _ G (by rw [List.append_nil];exact hr) (S.put (of_decide_eq_true hdN) hf rfl (Nxt.refl S.nxt.ok))
theorem St.bu0w (S : St W0 G0 N L B a w G) {d bytes t : Nat} {z : Value} (ho : o.op = .buildSlice t 0 #[]) (hd : o.dst = some d) (ht : P.underlying t = some (.slice e)) (he : elS P e (k.getD 1) bytes z) (hdN : (decide (d < N)) = true) (hf : fresh d L = true)
    {K' : Act → World → Prop} (K : ∀ v' own' a' w' G',OWNS k e v' own' [] → St W0 G0 N ((d,.ex v') :: L) (B ++ own') a' w' G' → K' a' w') : o.wp P a w K' Q:=by
  obtain ⟨i,hi,h1,h2,h3⟩:=elS_of he
  have hr : (execOp a.eval o).run P w = .ok (.value (.slice (some ⟨w.heap.size,0,none⟩) 0 0)) (w.alloc (.cells #[] e)):=by
    simp [execOp,ho,Instr.buildSlice,run_underlying ht,sizeOf,typeInfo,hi,Instr.fill,newRow,show Array.range 0 = #[] from rfl]
  unfold Oper.wp
  rw [hr]
  simp only [Oper.upon,hd]
  have S':=(S.newEnd (w':=w.alloc (.cells #[] e)) (b:=w.heap.size) (ty:=e) (k:=some (0 * k.getD 1)) (τ:=ROWS k []) (u:=.agg #[]) (Nxt.alloc S.nxt.ok _) (Nat.le_refl _) (heap_alloc_new w _) ⟨_,rfl,by simp,fun x hx=>by simp at hx⟩ ⟨[],[],rfl,Els.nil⟩).put (v:=.slice (some ⟨w.heap.size,0,none⟩) 0 0) (of_decide_eq_true hdN) hf (τ:=.ex (.slice (some ⟨w.heap.size,0,none⟩) 0 0)) rfl (Nxt.refl (S.nxt.ok.alloc _))
  exact K _ _ _ _ G (.inr ⟨w.heap.size,0,rfl,rfl,Nat.le_refl _⟩) S'
end
end Go.Proofs.YtboicjlbbbodgaaGreatDoor
namespace Go.Proofs.YtboicjlbbbodgaaGreatDoor
open Go.RowKit (Below)
def EF (k : Option Nat) (b i off : Nat) : MT:=.ex (.pointer (some ⟨b,i * k.getD 1 + off,none⟩))
theorem ROWS.part {k kt : Option Nat} {τs : List MT} {σ τ : MT} {i off : Nat} (hi : τs[i]? = some σ) (hk : ∃ m,k = some m) (hp : Prt σ off kt τ) : Prt (ROWS k τs) (i * k.getD 1 + off) kt τ:=⟨fun {v k0 G} ht _=>by
  obtain ⟨us,r,e,hE⟩:=ht
  subst e
  have hlt : i < us.length:=by rw [hE.1];exact (List.getElem?_eq_some_iff.1 hi).1
  obtain ⟨h1,h2⟩:=hE.2 i σ us[i] hi (List.getElem?_eq_getElem hlt)
  obtain ⟨u,hs,hu,hc⟩:=hp.h h2 h1
  refine ⟨u,hs,hu,fun j x hx=>?_⟩
  have h3:=hc j x hx
  have hj : off + j < k.getD 1:=by
    rw [← shaped_size h1]
    exact (Array.getElem?_eq_some_iff.1 h3).1
  have h4:=flat_get hE.sizes (List.getElem?_eq_getElem hlt) hj
  show (flat us ++ r).toArray[_]? = some x
  rw [List.getElem?_toArray,List.getElem?_append_left,Nat.add_assoc,h4,h3]
  rw [flat_len hE.sizes]
  have:=Nat.mul_le_mul_right (k.getD 1) (show i + 1 ≤ us.length from hlt)
  rw [Nat.succ_mul] at this
  omega⟩
theorem shaped_upd {n off : Nat} {kt : Option Nat} {cs : Array Value} {y : Value} (hc : Shaped (some n) (.agg cs)) (hs : Shaped kt y) (hn : off + kt.getD 1 ≤ n) : Shaped (some n) (.agg (cs.toList.take off ++ y.cells.toList ++ cs.toList.drop (off + kt.getD 1)).toArray):=by
  obtain ⟨cs',e1,hcs,hone⟩:=hc
  injection e1 with e1
  subst e1
  have hl : y.cells.toList.length = kt.getD 1:=by simpa using shaped_size hs
  refine ⟨_,rfl,?_,fun c hc=>?_⟩
  · simp at hl ⊢;omega
  · simp only [List.mem_append] at hc
    rcases hc with (hc | hc) | hc
    · exact hone c (List.mem_of_mem_take hc)
    · exact shaped_cells hs c hc
    · exact hone c (List.mem_of_mem_drop hc)
theorem take_part {α : Type} {cs ci ys : List α} {a k off m : Nat} (h1 : ci = (cs.drop a).take k) (h2 : off + m ≤ k) : cs.take a ++ (ci.take off ++ ys ++ ci.drop (off + m)) ++ cs.drop (a + k) = cs.take (a + off) ++ ys ++ cs.drop (a + off + m):=by
  subst h1
  rw [List.take_add,List.take_take,Nat.min_eq_left (by omega)]
  have e : cs.drop (a + off + m) = ((cs.drop a).take k).drop (off + m) ++ cs.drop (a + k):=by
    rw [← List.drop_drop (i:=k) (j:=a),show a + off + m = a + (off + m) by omega,← List.drop_drop (i:=off + m) (j:=a)]
    conv=>lhs;rw [← List.take_append_drop k (cs.drop a)]
    rw [List.drop_append]
    rcases Nat.lt_or_ge (cs.drop a).length k with hk | hk
    · have e1 : (cs.drop a).drop k = []:=List.drop_eq_nil_of_le (by omega)
      rw [e1,List.drop_nil,List.append_nil]
    · rw [List.length_take,Nat.min_eq_left hk,show off + m - k = 0 by omega,List.drop_zero]
  rw [e]
  simp only [List.append_assoc]
section
variable {P : Program} {L : List (Nat × MT)} {B B' : List BX} {x y : Operand} {u v : List Nat} {t ty : TypeId} {τ τ' τb σ : MT} {n c b i j off : Nat} {k kt : Option Nat} {α : Type} {T : α → MT} {xs : List α} {z : α}
instance Op1.fldO {s f : Nat} [ko : FO P s f off] [h : Opd L x (EP k b i) u] : Op1 P L B (.fieldAddr s x f) True (EF k b i off) u:=⟨fun ho hok e _ _=>.fldA hok ho (h.h e) ko.h rfl⟩
instance Op1.ncE [h : Opd L x (EP k b i) u] : Op1 P L B (.nilCheck x) True (EP k b i) u:=⟨fun {W0 w a G o} ho hok e _ _=>by
  have hv : a.eval x = .pointer (some ⟨b,i * k.getD 1,none⟩):=h.h e
  exact .run hok (v:=.pointer (some ⟨b,i * k.getD 1,none⟩)) (by simp [execOp,ho,hv]) rfl⟩
instance Op1.ldf {kn : Nat} [h : Opd L x (EF (some kn) b i off) u] [hb : Bx B b c ty (some n) (ROWS (some kn) (xs.map T))] [ih : Inhabited α] [hT : TyS P t kt] [hz : NZ kt] [hp : Prt (T (xs.getD i default)) off kt τ] : Op1 P L B (.load t x) (i < xs.length) τ (u ++ [1000000 + c]) :=
  ⟨fun ho hok e hB hi=>prt_load hok ho hT.h hz.h (h.h e.l) (hB c _ (by simp) hb.m) (ROWS.part (k:=some kn) (i:=i) (σ:=T (xs.getD i default)) (by rw [List.getElem?_map,List.getElem?_eq_getElem hi,List.getD_eq_getElem?_getD,List.getElem?_eq_getElem hi];rfl) ⟨kn,rfl⟩ hp)⟩
instance Sto.f {kn : Nat} [hx : Opd L x (EF (some kn) b i off) u] [hb : Bx B b j ty (some n) (ROWS (some kn) (xs.map T))] [ih : Inhabited α] [hT : TyS P t kt] [hy : Opd L y τ v] [hs : ShK τ kt] [hu : Upd (T (xs.getD i default)) off kt τ σ] [ha : AsT σ T z] : Sto P L B t x y j (ROWS (some kn) ((xs.set i z).map T)) (i < xs.length ∧ off + kt.getD 1 ≤ kn) (u ++ v):=⟨_,hb.m,fun {a w G v0} hp hE h1 h2 h3=>by
  obtain ⟨hi,hoff⟩:=hp
  have h2':=h2
  obtain ⟨cs,rfl,_,_⟩:=h2'
  have hv:=hy.h hE.r
  have hsy:=hs.h hv
  have h3':=h3
  obtain ⟨us,r,e,hEl⟩:=h3'
  injection e with e
  have hlt : i < us.length:=by rw [hEl.1,List.length_map];exact hi
  obtain ⟨g1,g2⟩:=hEl.2 i (T (xs.getD i default)) us[i] (by rw [List.getElem?_map,List.getElem?_eq_getElem hi,List.getD_eq_getElem?_getD,List.getElem?_eq_getElem hi];rfl) (List.getElem?_eq_getElem hlt)
  have g1':=g1
  obtain ⟨ci,hci,hcn,_⟩:=cells_one g1'
  rw [hci] at g1 g2
  have hnew:=hu.h g2 hsy hv
  have hsh:=shaped_upd g1 hsy hoff
  have hr:=ROWS.set (P:=P) h3 h2 hsh (ha.h hnew) (by rw [List.length_map];exact hi)
  have hn : i * kn + kn ≤ n:=hr.1
  obtain ⟨h4,h5⟩:=part_store (P:=P) (hx.h hE.l) hT.h hsy h1 h2 (show i * (some kn).getD 1 + off + kt.getD 1 ≤ n by show i * kn + off + kt.getD 1 ≤ n;omega) rfl
  refine ⟨_,h4,?_,h5⟩
  have hsz : ∀ q ∈ us,q.cells.size = kn:=hEl.sizes
  have hcidef : ci.toList = (cs.toList.drop (i * kn)).take kn:=by
    apply List.ext_getElem?
    intro m
    rw [List.getElem?_take]
    by_cases hm : m < kn
    · rw [if_pos hm,List.getElem?_drop,e]
      have h6:=flat_get hsz (List.getElem?_eq_getElem hlt) hm
      have hl:=flat_len hsz
      have:=Nat.mul_le_mul_right kn (show i + 1 ≤ us.length from hlt)
      rw [Nat.succ_mul] at this
      show ci.toList[m]? = (flat us ++ r)[i * kn + m]?
      rw [List.getElem?_append_left (by omega),h6,hci]
      show ci.toList[m]? = ci[m]?
      simp
    · rw [if_neg hm]
      exact List.getElem?_eq_none (by simpa using (by omega : ci.size ≤ m))
  have hkey:=take_part (cs:=cs.toList) (ci:=ci.toList) (ys:=(a.eval y).cells.toList) (a:=i * kn) (k:=kn) (off:=off) (m:=kt.getD 1) hcidef hoff
  rw [List.map_set]
  have h7:=hr.2
  show (ROWS (some kn) ((xs.map T).set i (T z))).t (.agg (cs.toList.take (i * kn + off) ++ (a.eval y).cells.toList ++ cs.toList.drop (i * kn + off + kt.getD 1)).toArray) G
  rw [← hkey]
  exact h7⟩
end
section
variable {P : Program} {W0 : World} {G0 : Gh} {N : Nat} {L : List (Nat × MT)} {B : List BX} {a : Act} {w : World} {G : Gh} {Q : Exit → Act → World → Prop} {rest : List Oper} {arr : Array Oper} {k : Option Nat} {e t ty : TypeId} {d by0 : Nat} {z0 : Value} {pos : String} {aft : Array Edge} {τs : List MT} {own : List BX} {V : Value}
theorem W.bu0 {k : Option Nat} {B2 : List BX → List BX} [el : ElS P t e k by0 z0] [ap : ∀ own', AppX B own' (B2 own')] (K : ∀ V own a w G, OWNS k e V own [] → St W0 G0 N ((d, .ex V) :: L) (B2 own) a w G → wpList P arr Q rest a w) (hdN : (decide (d < N)) = true := by rfl) (hf : fresh d L = true := by rfl) :
    St W0 G0 N L B a w G → wpList P arr Q (⟨some d,.buildSlice t 0 #[],ty,pos,aft,none⟩ :: rest) a w:=fun S =>
  wpList_plain rfl fun K' hK=>S.bu0w rfl rfl el.h1 el.h2 hdN hf fun V own a w G hO S=>hK _ _ (K V own a w G hO (by rw [← (ap own).h];exact S))
theorem own_pos (h : OWNS k e V own τs) (hn : 0 < τs.length) : ∃ b c,V = .slice (some ⟨b,0,none⟩) τs.length c ∧ own = [⟨b,e,some (c * k.getD 1),ROWS k τs⟩] ∧ τs.length ≤ c:=by
  rcases h with ⟨_,_,h0⟩ | h
  · subst h0;exact absurd hn (Nat.lt_irrefl 0)
  · exact h
end
end Go.Proofs.YtboicjlbbbodgaaGreatDoor
namespace Go.Proofs.YtboicjlbbbodgaaGreatDoor
open Go.RowKit (Below)
class RevC (P : Program) (f : Nat) : Prop where
  c : callable P f = true
  h : ∀ (blk off cap : Nat) (zs : List Int) (w : World),Go.Sort.Holds (Value.int .i64) w blk off zs.toArray → zs.length ≤ 9223372036854775807 →
    Calls P f #[.slice (some ⟨blk,off,none⟩) zs.length cap] w fun e w'=>e = .returned (.tuple #[]) ∧ ∃ n,w' = Go.Sort.putRow (Value.int .i64) (Go.Sort.ahead w n) blk off zs.reverse.toArray
section
variable {P : Program} {W0 : World} {G0 : Gh} {N : Nat} {L : List (Nat × MT)} {B Bh own : List BX} {a : Act} {w : World} {G : Gh}
variable {Q : Exit → Act → World → Prop} {rest : List Oper} {arr : Array Oper} {pos : String} {aft : Array Edge} {V : Value} {e f : Nat} {x : Operand} {u : List Nat} {ats : Array TypeId}
theorem W.oln {d : Nat} {t ty : TypeId} {k k' : Option Nat} {τs : List MT} (hO : OWNS k e V own τs) [s : SlE P t k'] [hx : Opd L x (.ex V) u] (K : ∀ a w G, St W0 G0 N ((d, NT τs.length) :: L) B a w G → wpList P arr Q rest a w) (hdN : (decide (d < N)) = true := by rfl) (hf : fresh d L = true := by rfl) :
    St W0 G0 N L B a w G → wpList P arr Q (⟨some d,.call { callee:=.builtin .len,args:=#[x],argTypes:=#[t] },ty,pos,aft,none⟩ :: rest) a w:=fun S =>
  wpList_plain rfl fun K' hK=>by
    have hv : OpR P ⟨some d,.call { callee:=.builtin .len,args:=#[x],argTypes:=#[t] },ty,pos,aft,none⟩ a w G (NT τs.length):=by
      obtain ⟨e',h1,h2⟩:=s.h
      have hV : a.eval x = V:=hx.h (S.env u)
      rcases hO with ⟨h3,_,h4⟩ | ⟨b,c,h3,_⟩
      · subst h4;exact .lenA S.ok rfl h1 (hV.trans h3) rfl
      · exact .lenA S.ok rfl h1 (hV.trans h3) rfl
    exact hv Q K' fun v w' G' hv hn=>hK _ _ (K _ _ _ (S.put (of_decide_eq_true hdN) hf hv hn))
end
end Go.Proofs.YtboicjlbbbodgaaGreatDoor
namespace Go.Proofs.YtboicjlbbbodgaaGreatDoor
open Go.RowKit (Below)
theorem RetW.ret {α : Type} {w w' : World} {G : Gh} {k : Option Nat} {e : TypeId} {T : α → MT} {xs : List α} {en : Ending} (h : RetW w G k e T xs en w') (hl : xs.length ≤ LIM) : Ret w G (LS k (xs.map T)) en w':=by
  obtain ⟨b,c,G',rfl,hN,⟨h1,h2,v,hv,hs,ht⟩,hle⟩:=h
  simp only at h1 h2 hv hs ht
  have hle' : Gle G' (Gput G' b (.cells v.cells e (0,0))):=fun i x hi=>by
    unfold Gput;split
    · rename_i q;subst q;rw [h2] at hi;cases hi
    · exact hi
  refine ⟨_,Gput G' b (.cells v.cells e (0,0)),rfl,ROWS.sl (ty:=e) (u:=v) (b:=b) (c:=c) (n:=xs.length) (MT.mono _ hle' ht) (by simp [Gput]) (by rw [List.length_map]) hle hl rfl,hN.below,fun i hi=>?_,fun i x hi=>hle' i x (hN.le i x hi),fun i x hi=>?_⟩
  · unfold Gput;split
    · rename_i q;omega
    · exact hN.agree i hi
  · unfold Gput at hi;split at hi
    · rename_i q;subst q;cases hi;exact hv
    · exact hN.ok i x hi
instance (priority:=300) ConO.con {α : Type} {P : Program} {f : Nat} {τs : List MT} {pre : Prop} {k : Option Nat} {e : TypeId} {T : α → MT} {xs : List α} [c : ConO P f τs pre k e T xs] : Con P f τs (pre ∧ xs.length ≤ LIM) (LS k (xs.map T)):=⟨fun hok ha hp=>(c.h hok ha hp.1).mono fun _ _ h=>h.ret hp.2⟩
section
variable {P : Program} {L : List (Nat × MT)} {B Bh : List BX} {x y : Operand} {u v : List Nat} {t ty e : TypeId} {τ : MT} {by0 d : Nat} {k : Option Nat} {α : Type} {T : α → MT} {xs ys : List α} {z0 : Value}
variable {W0 : World} {G0 : Gh} {N : Nat} {a : Act} {w : World} {G : Gh} {Q : Exit → Act → World → Prop} {rest : List Oper} {arr : Array Oper} {pos : String} {aft : Array Edge}
theorem W.apz {own : List BX} {V : Value} {B2 : List BX → List BX} {σ : MT} {mt : MT} (hO : OWNS k e V own (xs.map T)) [tl : Tl B own Bh] [el : ElS P t e k by0 z0] [zv : ZV ⟨k, z0, mt⟩] [hx : Opd L x (.ex V) u] [hy : Opd L y σ v] [aq : AsLT σ k T ys] [ap : ∀ own', AppX Bh own' (B2 own')] (hp : xs.length + ys.length ≤ LIM ∧ (xs.length + ys.length) * by0 ≤ 140737488355328)
    (K : ∀ V own a w G,OWNS k e V own ((xs ++ ys).map T) → St W0 G0 N ((d,.ex V) :: L) (B2 own) a w G → wpList P arr Q rest a w) (hdN : (decide (d < N)) = true:=by rfl) (hf : fresh d L = true:=by rfl) :
    St W0 G0 N L B a w G → wpList P arr Q (⟨some d,.call { callee:=.builtin .append,args:=#[x,y],argTypes:=#[t,t] },ty,pos,aft,none⟩ :: rest) a w:=fun S =>
  wpList_plain rfl fun K' hK=>by
    have S':=S
    rw [tl.h] at S'
    exact S'.appZw rfl rfl el.h1 el.h2 zv.s (hx.h (S.env u)) hO (aq.h (hy.h (S.env v))) (by rw [List.length_map,List.length_map];exact hp.1) (by rw [List.length_map,List.length_map];exact hp.2) hdN hf fun V own a w G h S=>hK _ _ (K V own a w G (by rw [List.map_append];exact h) ((ap own).h ▸ S))
end
end Go.Proofs.YtboicjlbbbodgaaGreatDoor
namespace Go.Proofs.YtboicjlbbbodgaaGreatDoor
theorem vlL_plus {rs : List (List Rat)} {a b : List Rat} : vlL rs (plusF a b) = vlL rs a + vlL rs b:=by unfold vlL;rw [El.toE_plus,El.vl_add]
theorem vlL_minus {rs : List (List Rat)} {a : List Rat} : vlL rs (minusF a) = -vlL rs a:=by unfold vlL;rw [El.toE_minus,El.vl_neg]
theorem vlL_tm {rs : List (List Rat)} (ht : TOK rs) {a b : List Rat} (ha : PW rs.length a) (hb : PW rs.length b) : vlL rs (tmF rs a b) = vlL rs a * vlL rs b:=by
  have h5:=ht.1
  have hp:=PW.tm ht.2.1 (Nat.le_refl _) ha hb
  rw [El.vl_at (k:=rs.length) h5 ha.le,El.vl_at (k:=rs.length) h5 hb.le,El.vl_at (k:=rs.length) h5 hp.le,(tm_ok ht.2.1 (Nat.le_refl _) ha hb).1,El.vl_mul ht.ok]
theorem pw_lvM {K : Nat} {l k : List Rat} (hl : PW K l) (hk : PW K k) : lev (max l.length k.length) ≤ K ∧ PW (lev (max l.length k.length)) l ∧ PW (lev (max l.length k.length)) k:=by
  have key : ∀ {a b : List Rat},PW K a → PW K b → b.length ≤ a.length → lev a.length ≤ K ∧ PW (lev a.length) a ∧ PW (lev a.length) b:=fun {a b} ha hb hab=>by
    rcases ha with h | ⟨j,hj,h⟩
    · have h0 : b.length = 0:=by omega
      rw [h]
      exact ⟨by rw [show lev 0 = 0 from rfl];exact Nat.zero_le _,.inl h,.inl h0⟩
    · rw [h,lev_pow]
      refine ⟨hj,.inr ⟨j,Nat.le_refl _,h⟩,?_⟩
      rcases hb with h2 | ⟨i,hi,h2⟩
      · exact .inl h2
      · refine .inr ⟨i,?_,h2⟩
        rcases Nat.lt_or_ge j i with h3 | h3
        · have:=Nat.pow_lt_pow_right (a:=2) (by decide) h3;omega
        · exact h3
  rcases Nat.le_total l.length k.length with h | h
  · rw [Nat.max_eq_right h];have:=key hk hl h;exact ⟨this.1,this.2.2,this.2.1⟩
  · rw [Nat.max_eq_left h];exact key hl hk h
theorem sho_pw {k : Nat} {a : List Rat} (hk : k ≤ 5) (h : PW k a) : PW k (shoF a):=(sho_ok hk h).2.1
end Go.Proofs.YtboicjlbbbodgaaGreatDoor
namespace Go.Proofs.YtboicjlbbbodgaaGreatDoor
theorem sgR_eq0 {x : RR} : sgR x = 0 ↔ x = 0:=by
  rcases sgR_cases x with ⟨h1,h2⟩ | ⟨h1,h2⟩ | ⟨h1,h2⟩
  · refine ⟨fun h=>by omega,fun h=>?_⟩
    subst h;exact absurd h1 (RR.not_lt.2 (RR.le_refl 0))
  · exact ⟨fun _=>h1,fun _=>h2⟩
  · refine ⟨fun h=>by omega,fun h=>?_⟩
    subst h;exact absurd h1 (RR.not_lt.2 (RR.le_refl 0))
theorem RR.mul_eq0 {x y : RR} (h : x * y = 0) : x = 0 ∨ y = 0:=by
  have:=sgR_mul x y
  rw [h,sgR_zero] at this
  rcases Int.mul_eq_zero.1 this.symm with e | e
  · exact .inl (sgR_eq0.1 e)
  · exact .inr (sgR_eq0.1 e)
namespace El
variable {d : Rts} {k : Nat}
def lowE (x : El k) : El (k + 1):=(x,zero k)
def invQ (x : Rat) : Rat:=1 / x
open Classical in
noncomputable def inv (d : Rts) : {k : Nat} → El k → El k
  | 0,x=>invQ x
  | k + 1,x=>if x.2 = zero k then lowE (inv d x.1) else if sg d (norm d x) = 0 then lowE (inv d (add x.1 x.1)) else mul d (conj x) (lowE (inv d (norm d x)))
def fl : (k : Nat) → El k → List Rat
  | 0,x=>[x]
  | k + 1,x=>fl k x.1 ++ fl k x.2
end El
open El (fl toE)
end Go.Proofs.YtboicjlbbbodgaaGreatDoor
namespace Go.Proofs.YtboicjlbbbodgaaGreatDoor
open Go.RowKit (Below)
def EXN (n j K : Nat) (e : El K) : MT:=⟨fun v G=>∃ l,PW j l ∧ El.toE K l = e ∧ (NM n l).t v G,fun hle ⟨l,h1,h2,h3⟩=>⟨l,h1,h2,(NM n l).mono hle h3⟩⟩
instance {n j K : Nat} {e : El K} : Shp (EXN n j K e) none:=⟨fun ⟨l,_,_,h⟩=>Shp.sh h⟩
theorem EXN.up {n m i j K : Nat} {e : El K} {v : Value} {G : Gh} (h : (EXN n i K e).t v G) (hn : n ≤ m) (hj : i ≤ j) : (EXN m j K e).t v G:=by
  obtain ⟨l,h1,h2,h3⟩:=h
  exact ⟨l,h1.mono hj,h2,NM.up h3 hn⟩
class NE (τ : MT) (K : Nat) (n j : outParam Nat) (e : outParam (El K)) (p : outParam Prop) : Prop where
  h : p → ∀ {v : Value} {G : Gh},τ.t v G → (EXN n j K e).t v G
section
variable {τ : MT} {n m i j K : Nat} {e f : El K} {l : List Rat}
instance NE.x : NE (EXN n j K e) K n j e True:=⟨fun _ _ _ h=>h⟩
instance (priority:=800) NE.nm [h : Rdn τ NM n l] : NE τ K n (lev l.length) (El.toE K l) (PW (lev l.length) l):=⟨fun hp _ _ hv=>⟨l,hp,rfl,h.h hv⟩⟩
instance (priority:=900) Cv.exx : Cv (EXN n i K e) (EXN m j K f) (n ≤ m ∧ i ≤ j ∧ e = f):=⟨fun hp _ _ h=>by obtain ⟨h1,h2,rfl⟩:=hp;exact EXN.up h h1 h2⟩
instance (priority:=700) Cv.exn [h : Rdn τ NM n l] : Cv τ (EXN m j K f) (n ≤ m ∧ PW j l ∧ El.toE K l = f):=⟨fun hp _ _ hv=>⟨l,hp.2.1,hp.2.2,NM.up (h.h hv) hp.1⟩⟩
end
namespace El
variable {d : Rts}
theorem mul_low {k : Nat} (x y : El k) : mul d (lowE x) (lowE y) = lowE (mul d x y):=by
  refine Prod.ext ?_ ?_
  · show add (mul d x y) (mul d (mul d (zero k) (zero k)) (d k)) = mul d x y
    rw [zero_mul,zero_mul,add_zero]
  · show add (mul d x (zero k)) (mul d (zero k) y) = zero k
    rw [mul_zero,zero_mul,add_zero]
end El
def pairE {k : Nat} (x y : El k) : El (k + 1):=(x,y)
end Go.Proofs.YtboicjlbbbodgaaGreatDoor
namespace Go.Proofs.YtboicjlbbbodgaaGreatDoor
theorem El.toE_lowE {k : Nat} {l : List Rat} (h : l.length ≤ 2 ^ k) : El.toE (k + 1) l = El.lowE (El.toE k l):=El.toE_low h
open Classical in
theorem El.inv_low {d : El.Rts} {k : Nat} (x : El k) : El.inv d (El.lowE x) = El.lowE (El.inv d x):=by
  show (if (El.lowE x).2 = El.zero k then El.lowE (El.inv d (El.lowE x).1) else _) = _
  exact if_pos rfl
def wideR (l : List Rat) (n : Nat) : List Rat:=l ++ List.replicate (n - l.length) 0
theorem wideR_len {l : List Rat} {n : Nat} : (wideR l n).length = max l.length n:=by unfold wideR;simp;omega
theorem wideR_le {l : List Rat} {n : Nat} (h : l.length ≤ n) : (wideR l n).length = n:=by rw [wideR_len];omega
theorem cf_wideR {l : List Rat} {n x : Nat} : cf (wideR l n) x = cf l x:=by
  unfold wideR cf
  rw [List.getD_eq_getElem?_getD,List.getD_eq_getElem?_getD]
  rcases Nat.lt_or_ge x l.length with h | h
  · rw [List.getElem?_append_left h]
  · rw [List.getElem?_append_right h,List.getElem?_eq_none h,List.getElem?_replicate]
    split <;> rfl
theorem wideR_eq {l : List Rat} {n : Nat} (h : l.length ≤ n) : wideR l n = wideF l n:=by
  unfold wideR wideF
  rw [List.take_of_length_le h,List.drop_replicate]
def stepR (rs : List (List Rat)) (q : List Rat → List Rat → List Rat) (a b : List Rat) : List Rat :=
  if a.length = 0 ∨ b.length = 0 then [] else if max a.length b.length = 1 then [cf a 0 * cf b 0] else
  wideR (plusF (q ((wideR a (max a.length b.length)).take (max a.length b.length / 2)) ((wideR b (max a.length b.length)).take (max a.length b.length / 2)))
    (q (q ((wideR a (max a.length b.length)).drop (max a.length b.length / 2)) ((wideR b (max a.length b.length)).drop (max a.length b.length / 2))) (rs.getD (lev (max a.length b.length) - 1) []))) (max a.length b.length / 2) ++
  wideR (plusF (q ((wideR a (max a.length b.length)).take (max a.length b.length / 2)) ((wideR b (max a.length b.length)).drop (max a.length b.length / 2)))
    (q ((wideR a (max a.length b.length)).drop (max a.length b.length / 2)) ((wideR b (max a.length b.length)).take (max a.length b.length / 2)))) (max a.length b.length / 2)
def timesR (rs : List (List Rat)) : Nat → List Rat → List Rat → List Rat
  | 0,_,_=>[]
  | f + 1,a,b=>stepR rs (timesR rs f) (shoF a) (shoF b)
theorem PW.max {K : Nat} {a b : List Rat} (ha : PW K a) (hb : PW K b) (h0 : ¬ (a.length = 0 ∨ b.length = 0)) : ∃ j,j ≤ K ∧ max a.length b.length = 2 ^ j ∧ PW j a ∧ PW j b:=by
  have h:=pw_lvM ha hb
  rcases Nat.le_total a.length b.length with hl | hl
  · rw [Nat.max_eq_right hl] at h ⊢
    rcases hb with hb | ⟨j,hj,hb⟩
    · omega
    · rw [hb,lev_pow] at h
      exact ⟨j,hj,hb,h.2⟩
  · rw [Nat.max_eq_left hl] at h ⊢
    rcases ha with ha | ⟨j,hj,ha⟩
    · omega
    · rw [ha,lev_pow] at h
      exact ⟨j,hj,ha,h.2⟩
theorem sho_sho {k : Nat} {a : List Rat} (hk : k ≤ 5) (h : PW k a) : shoF (shoF a) = shoF a:=by
  obtain ⟨h1,h2,_,_⟩:=sho_ok hk h
  exact sho_of hk h2 h1
open El in
theorem timesR_E {rs : List (List Rat)} {d : Rts} {K : Nat} (hK5 : K ≤ 5) (hd : ∀ j, j < K → (rs.getD j []).length = 2 ^ j ∧ toE j (rs.getD j []) = d j) :
    ∀ (k n : Nat),k ≤ K → k < n → ∀ a b : List Rat,PW k a → PW k b → toE k (timesR rs n a b) = mul d (toE k a) (toE k b) ∧ PW k (timesR rs n a b):=by
  intro k
  induction k with
  | zero =>
    intro n _ hn a b ha hb
    obtain ⟨n,rfl⟩ : ∃ m,n = m + 1:=⟨n - 1,by omega⟩
    obtain ⟨_,pa,ca,_⟩:=sho_ok (Nat.zero_le _) ha
    obtain ⟨_,pb,cb,_⟩:=sho_ok (Nat.zero_le _) hb
    show toE 0 (stepR rs _ (shoF a) (shoF b)) = _ ∧ PW 0 (stepR rs _ (shoF a) (shoF b))
    rw [← toE_cf ca,← toE_cf cb]
    generalize shoF a = a at *
    generalize shoF b = b at *
    have h1:=pa.le;have h2:=pb.le
    simp only [Nat.pow_zero] at h1 h2
    unfold stepR
    split
    · rename_i h
      refine ⟨?_,.inl rfl⟩
      rw [toE_nil]
      rcases h with h | h
      · rw [List.length_eq_zero_iff.1 h,toE_nil,zero_mul]
      · rw [List.length_eq_zero_iff.1 h,toE_nil,mul_zero]
    · rw [if_pos (by omega)]
      exact ⟨rfl,.inr ⟨0,Nat.le_refl _,rfl⟩⟩
  | succ k ih =>
    intro n hK hn a b ha hb
    obtain ⟨_,pa,ca,_⟩:=sho_ok (by omega) ha
    obtain ⟨_,pb,cb,_⟩:=sho_ok (by omega) hb
    by_cases hlow : (shoF a).length ≤ 2 ^ k ∧ (shoF b).length ≤ 2 ^ k
    · obtain ⟨n,rfl⟩ : ∃ m,n = m + 1:=⟨n - 1,by omega⟩
      obtain ⟨h1,h2⟩:=ih (n + 1) (by omega) (by omega) (shoF a) (shoF b) (pa.low hlow.1) (pb.low hlow.2)
      have e : timesR rs (n + 1) (shoF a) (shoF b) = timesR rs (n + 1) a b:=by
        show stepR rs _ (shoF (shoF a)) (shoF (shoF b)) = stepR rs _ (shoF a) (shoF b)
        rw [sho_sho (by omega) ha,sho_sho (by omega) hb]
      rw [e] at h1 h2
      refine ⟨?_,h2.mono (Nat.le_succ k)⟩
      rw [← toE_cf ca,← toE_cf cb,toE_lowE h2.le,toE_lowE hlow.1,toE_lowE hlow.2,h1,mul_low]
    · obtain ⟨n,rfl⟩ : ∃ m,n = m + 1:=⟨n - 1,by omega⟩
      have e2 : 2 ^ (k + 1) = 2 ^ k + 2 ^ k:=by rw [Nat.pow_succ];omega
      have ep:=Nat.two_pow_pos k
      show toE (k + 1) (stepR rs _ (shoF a) (shoF b)) = _ ∧ PW (k + 1) (stepR rs _ (shoF a) (shoF b))
      rw [← toE_cf ca,← toE_cf cb]
      generalize shoF a = a at *
      generalize shoF b = b at *
      unfold stepR
      split
      · rename_i h
        refine ⟨?_,.inl rfl⟩
        rw [toE_nil]
        rcases h with h | h
        · rw [List.length_eq_zero_iff.1 h,toE_nil,zero_mul]
        · rw [List.length_eq_zero_iff.1 h,toE_nil,mul_zero]
      · have hm : max a.length b.length = 2 ^ (k + 1) := by
          rcases Nat.lt_or_ge (2 ^ k) a.length with hl | hl
          · have:=pa.top (by omega);have:=pb.le;omega
          · have:=pb.top (by omega);have:=pa.le;omega
        have hh : 2 ^ (k + 1) / 2 = 2 ^ k:=by omega
        rw [if_neg (by omega),hm,hh,lev_pow,Nat.add_sub_cancel]
        have la : (wideR a (2 ^ (k + 1))).length = 2 ^ (k + 1):=wideR_le (by omega)
        have lb : (wideR b (2 ^ (k + 1))).length = 2 ^ (k + 1):=wideR_le (by omega)
        have ea : toE (k + 1) a = toE (k + 1) (wideR a (2 ^ (k + 1))):=(toE_cf fun x=>cf_wideR).symm
        have eb : toE (k + 1) b = toE (k + 1) (wideR b (2 ^ (k + 1))):=(toE_cf fun x=>cf_wideR).symm
        rw [ea,eb]
        generalize wideR a (2 ^ (k + 1)) = a at *
        generalize wideR b (2 ^ (k + 1)) = b at *
        have hx : PW k (a.take (2 ^ k)):=.pow (by rw [List.length_take];omega)
        have hy : PW k (a.drop (2 ^ k)):=.pow (by rw [List.length_drop];omega)
        have hu : PW k (b.take (2 ^ k)):=.pow (by rw [List.length_take];omega)
        have hv : PW k (b.drop (2 ^ k)):=.pow (by rw [List.length_drop];omega)
        have hdk:=hd k (by omega)
        have ihk:=ih n (by omega) (by omega)
        obtain ⟨p1,q1⟩:=ihk _ _ hx hu
        obtain ⟨p2,q2⟩:=ihk _ _ hy hv
        obtain ⟨p3,q3⟩:=ihk _ _ hx hv
        obtain ⟨p4,q4⟩:=ihk _ _ hy hu
        obtain ⟨p5,q5⟩:=ihk _ _ q2 (PW.pow hdk.1)
        rw [p2,hdk.2] at p5
        have g1:=q1.plus q5
        have g2:=q3.plus q4
        rw [wideR_eq g1.le,wideR_eq g2.le]
        refine ⟨?_,.pow ?_⟩
        · have:=toE_join g1.le g2.le
          unfold joinF at this
          rw [this,toE_plus,toE_plus,p1,p5,p3,p4,toE_halves k a,toE_halves k b]
          rfl
        · rw [List.length_append,wide_len g1.le,wide_len g2.le];omega
def tmR (rs : List (List Rat)) (a b : List Rat) : List Rat:=timesR rs (lev (max a.length b.length) + 1) a b
theorem tmR_ok {rs : List (List Rat)} {k : Nat} {a b : List Rat} (h5 : rs.length ≤ 5) (hr : RLN rs) (hk : k ≤ rs.length) (ha : PW k a) (hb : PW k b) : El.toE k (tmR rs a b) = El.mul (dR rs) (El.toE k a) (El.toE k b) ∧ PW k (tmR rs a b):=by
  obtain ⟨h1,h2,h3⟩:=pw_lvM ha hb
  have h:=timesR_E (rs:=rs) (d:=dR rs) (K:=rs.length) h5 hr.hd _ (lev (max a.length b.length) + 1) (by omega) (Nat.lt_succ_self _) a b h2 h3
  refine ⟨?_,h.2.mono h1⟩
  have key : ∀ m,lev (max a.length b.length) ≤ m → El.toE m (tmR rs a b) = El.mul (dR rs) (El.toE m a) (El.toE m b):=fun m hm=>by
    induction m with
    | zero =>
      have e : lev (max a.length b.length) = 0:=by omega
      rw [e] at h
      unfold tmR
      rw [e];exact h.1
    | succ m ih =>
      rcases Nat.lt_or_ge m (lev (max a.length b.length)) with h4 | h4
      · have e : lev (max a.length b.length) = m + 1:=by omega
        have h0:=h.1
        unfold tmR
        generalize lev (max a.length b.length) = i at *
        subst e
        exact h0
      · have l1:=(h2.mono h4).le;have l2:=(h3.mono h4).le;have l3:=(h.2.mono h4).le
        have ih:=ih h4
        unfold tmR at ih ⊢
        rw [El.toE_lowE l1,El.toE_lowE l2,El.toE_lowE l3,ih,El.mul_low]
  exact key k h1
def normR (rs : List (List Rat)) (a : List Rat) (n : Nat) : List Rat :=
  plusF (tmR rs ((wideR a n).take (n / 2)) ((wideR a n).take (n / 2))) (minusF (tmR rs (tmR rs ((wideR a n).drop (n / 2)) ((wideR a n).drop (n / 2))) (rs.getD (lev n - 1) [])))
theorem normR_ok {rs : List (List Rat)} {k : Nat} {a : List Rat} (h5 : rs.length ≤ 5) (hr : RLN rs) (hk : k < rs.length) (ha : PW (k + 1) a) :
    El.toE k (normR rs a (2 ^ (k + 1))) = El.norm (dR rs) (El.toE (k + 1) a) ∧ PW k (normR rs a (2 ^ (k + 1))):=by
  have e2 : 2 ^ (k + 1) = 2 ^ k + 2 ^ k:=by rw [Nat.pow_succ];omega
  have hh : 2 ^ (k + 1) / 2 = 2 ^ k:=by omega
  have la : (wideR a (2 ^ (k + 1))).length = 2 ^ (k + 1):=wideR_le ha.le
  have ea : El.toE (k + 1) a = El.toE (k + 1) (wideR a (2 ^ (k + 1))):=(El.toE_cf fun x=>cf_wideR).symm
  unfold normR
  rw [ea,hh,lev_pow,Nat.add_sub_cancel]
  generalize wideR a (2 ^ (k + 1)) = a at *
  have hx : PW k (a.take (2 ^ k)):=.pow (by rw [List.length_take];omega)
  have hy : PW k (a.drop (2 ^ k)):=.pow (by rw [List.length_drop];omega)
  have hd : PW k (rs.getD k []):=.pow (hr k hk)
  have hxx:=tmR_ok h5 hr (by omega) hx hx
  have hyy:=tmR_ok h5 hr (by omega) hy hy
  have hyd:=tmR_ok h5 hr (by omega) hyy.2 hd
  refine ⟨?_,hxx.2.plus hyd.2.minus⟩
  rw [El.toE_plus,El.toE_minus,hxx.1,hyd.1,hyy.1,El.toE_halves k a]
  rfl
theorem sgL_E {rs : List (List Rat)} {k : Nat} {a b : List Rat} (hk : k ≤ 5) (ha : PW k a) (hb : PW k b) (h : El.toE k a = El.toE k b) : sgL rs a = sgL rs b:=by
  unfold sgL
  rw [El.vl_at hk ha.le,El.vl_at hk hb.le,h]
theorem sgL_at {rs : List (List Rat)} {k : Nat} {a : List Rat} (hk : k ≤ 5) (ha : PW k a) : sgL rs a = El.sg (dR rs) (El.toE k a):=by
  unfold sgL
  rw [El.vl_at hk ha.le];rfl
theorem sgR_step {rs : List (List Rat)} (ht : TOK rs) {k : Nat} {a : List Rat} (hk : k < rs.length) (ha : a.length = 2 ^ (k + 1)) :
    sgL rs a = if sgL rs (a.take (a.length / 2)) = sgL rs (a.drop (a.length / 2)) * sgL rs (rs.getD k []) ∨ sgL rs (a.drop (a.length / 2)) * sgL rs (rs.getD k []) = 0 then sgL rs (a.take (a.length / 2)) else
      if sgL rs (a.take (a.length / 2)) = 0 then sgL rs (a.drop (a.length / 2)) * sgL rs (rs.getD k []) else sgL rs (a.take (a.length / 2)) * sgL rs (normR rs a a.length):=by
  have h:=sgL_step ht hk ha
  have hn : sgL rs (normR rs a a.length) = sgL rs (normF rs a):=by
    have h1:=normR_ok ht.1 ht.2.1 hk (PW.pow ha)
    have h2:=norm_ok ht.2.1 hk ha
    rw [ha]
    exact sgL_E (k:=k) (by have:=ht.1;omega) h1.2 h2.2 (h1.1.trans h2.1.symm)
  rw [hn]
  have hd:=ht.nn hk
  have hd2:=sgL_bd rs (rs.getD k [])
  rw [h]
  generalize sgL rs (rs.getD k []) = D at *
  generalize sgL rs (a.take (a.length / 2)) = X at *
  generalize sgL rs (a.drop (a.length / 2)) = Y at *
  generalize sgL rs (normF rs a) = Z at *
  rcases (show D = 0 ∨ D = 1 by omega) with rfl | rfl
  · rw [if_pos rfl,if_pos (.inr (Int.mul_zero _))]
  · rw [Int.mul_one,if_neg (by decide)]
noncomputable def invG (rs : List (List Rat)) (nf : List Rat → List Rat) (tf : List Rat → List Rat → List Rat) (jf : List Rat → List Rat → Nat → List Rat) : Nat → List Rat → List Rat
  | 0,_=>[]
  | f + 1,a=>if (shoF a).length = 1 then [1 / cf (shoF a) 0] else
    if sgL rs (nf (shoF a)) = 0 then invG rs nf tf jf f (plusF ((shoF a).take ((shoF a).length / 2)) ((shoF a).take ((shoF a).length / 2)))
    else tf (jf ((shoF a).take ((shoF a).length / 2)) ((shoF a).drop ((shoF a).length / 2)) ((shoF a).length / 2)) (invG rs nf tf jf f (nf (shoF a)))
noncomputable def ivF (rs : List (List Rat)) : Nat → List Rat → List Rat:=invG rs (normF rs) (tmF rs) fun x y n=>joinF x (minusF y) n
noncomputable def ivR (rs : List (List Rat)) : Nat → List Rat → List Rat:=invG rs (fun a=>normR rs a a.length) (tmR rs) fun x y _=>x ++ minusF y
theorem norm0 {d : El.Rts} {k : Nat} (hk : El.ok d (k + 1)) (x : El (k + 1)) (h : El.vl d x ≠ 0) (h3 : El.sg d (El.norm d x) = 0) : El.vl d x = El.vl d (El.add x.1 x.1):=by
  have hn:=El.vl_norm hk x
  have hv : El.vl d x = El.vl d x.1 + El.vl d x.2 * (El.vl d (d k)).sq:=rfl
  have h4 : El.vl d (El.norm d x) = 0:=sgR_eq0.1 h3
  rw [hn] at h4
  rw [El.vl_add]
  rw [hv] at h ⊢
  generalize El.vl d x.1 = a at *
  generalize El.vl d x.2 * (El.vl d (d k)).sq = b at *
  have h5 : (a - b) * (a + b) = 0:=by
    rw [← h4]
    obtain ⟨f,hf,rfl⟩:=RR.rep a;obtain ⟨g,hg,rfl⟩:=RR.rep b
    exact RR.ext fun n=>by grind
  rcases RR.mul_eq0 h5 with h6 | h6
  · have h7 : a = (a - b) + b := by
      obtain ⟨f,hf,rfl⟩:=RR.rep a;obtain ⟨g,hg,rfl⟩:=RR.rep b
      exact RR.ext fun n=>by grind
    rw [h6,RR.zero_add] at h7
    rw [h7]
  · exact absurd h6 h
open El in
theorem invG_ok {rs : List (List Rat)} (ht : TOK rs) {nf : List Rat → List Rat} {tf : List Rat → List Rat → List Rat} {jf : List Rat → List Rat → Nat → List Rat}
    (hn : ∀ k a,k < rs.length → a.length = 2 ^ (k + 1) → toE k (nf a) = El.norm (dR rs) (toE (k + 1) a) ∧ PW k (nf a))
    (htm : ∀ k a b,k ≤ rs.length → PW k a → PW k b → toE k (tf a b) = mul (dR rs) (toE k a) (toE k b) ∧ PW k (tf a b))
    (hj : ∀ k x y,x.length = 2 ^ k → y.length = 2 ^ k → toE (k + 1) (jf x y (2 ^ k)) = pairE (toE k x) (neg (toE k y)) ∧ (jf x y (2 ^ k)).length = 2 ^ (k + 1)) :
    ∀ (k f : Nat),k ≤ rs.length → k < f → ∀ a : List Rat,PW k a → sgL rs a ≠ 0 → toE k (invG rs nf tf jf f a) = El.inv (dR rs) (toE k a) ∧ PW k (invG rs nf tf jf f a):=by
  have h5:=ht.1
  intro k
  induction k with
  | zero =>
    intro f _ hf a ha hs
    obtain ⟨f,rfl⟩ : ∃ m,f = m + 1:=⟨f - 1,by omega⟩
    obtain ⟨_,pa,ca,_⟩:=sho_ok (Nat.zero_le _) ha
    rw [← sgL_cf ca] at hs
    have h1:=pa.le
    simp only [Nat.pow_zero] at h1
    have hl : (shoF a).length = 1:=by
      rcases Nat.lt_or_ge (shoF a).length 1 with h | h
      · exfalso;apply hs;rw [List.length_eq_zero_iff.1 (show (shoF a).length = 0 by omega)];exact sgL_nil
      · omega
    unfold invG
    rw [if_pos hl,← toE_cf ca]
    exact ⟨rfl,.inr ⟨0,Nat.le_refl _,rfl⟩⟩
  | succ k ih =>
    intro f hK hf a ha hs
    obtain ⟨f,rfl⟩ : ∃ m,f = m + 1:=⟨f - 1,by omega⟩
    obtain ⟨sa,pa,ca,_⟩:=sho_ok (by omega) ha
    rw [← sgL_cf ca] at hs
    rw [← toE_cf ca]
    by_cases hlow : (shoF a).length ≤ 2 ^ k
    · obtain ⟨h1,h2⟩:=ih (f + 1) (by omega) (by omega) (shoF a) (pa.low hlow) hs
      have e : invG rs nf tf jf (f + 1) (shoF a) = invG rs nf tf jf (f + 1) a:=by
        conv=>lhs;unfold invG
        conv=>rhs;unfold invG
        rw [sho_sho (by omega) ha]
      rw [e] at h1 h2
      refine ⟨?_,h2.mono (Nat.le_succ k)⟩
      rw [toE_lowE h2.le,toE_lowE hlow,h1,inv_low]
    · have e2 : 2 ^ (k + 1) = 2 ^ k + 2 ^ k:=by rw [Nat.pow_succ];omega
      have ep:=Nat.two_pow_pos k
      have hl:=pa.top hlow
      have hh : (shoF a).length / 2 = 2 ^ k:=by omega
      have hne : (toE (k + 1) (shoF a)).2 ≠ zero k:=fun e=>by
        have e' : toE k ((shoF a).drop (2 ^ k)) = zero k:=by rw [toE_halves] at e;exact e
        rw [← toE_nil] at e'
        rcases sa with h | ⟨h,_⟩ | ⟨i,h,x,h6,h7,h8⟩
        · rw [h] at hl;simp at hl;omega
        · omega
        · obtain rfl : i = k := by
            have h9 : 2 ^ (i + 1) = 2 ^ (k + 1):=by omega
            have:=Nat.pow_right_inj (a:=2) (by decide) |>.1 h9
            omega
          have:=toF_inj e' (x - 2 ^ i) (by omega)
          rw [cf_drop,show 2 ^ i + (x - 2 ^ i) = x by omega] at this
          exact h8 this
      obtain ⟨n1,n2⟩:=hn k (shoF a) (by omega) hl
      have hsn : sgL rs (nf (shoF a)) = El.sg (dR rs) (El.norm (dR rs) (toE (k + 1) (shoF a))):=by rw [sgL_at (by omega) n2,n1]
      have hlx : ((shoF a).take (2 ^ k)).length = 2 ^ k:=by rw [List.length_take];omega
      have hly : ((shoF a).drop (2 ^ k)).length = 2 ^ k:=by rw [List.length_drop];omega
      unfold invG El.inv
      rw [if_neg (by omega),if_neg hne,hh]
      have hs':=hs
      rw [sgL_at (by omega) pa] at hs'
      have hv : El.vl (dR rs) (toE (k + 1) (shoF a)) ≠ 0:=fun e=>hs' (sgR_eq0.2 e)
      by_cases h0 : sgL rs (nf (shoF a)) = 0
      · rw [if_pos h0,if_pos (by rw [← hsn];exact h0)]
        have hx : PW k ((shoF a).take (2 ^ k)):=.pow hlx
        have hxx:=hx.plus hx
        have e1 : toE k (plusF ((shoF a).take (2 ^ k)) ((shoF a).take (2 ^ k))) = add (toE (k + 1) (shoF a)).1 (toE (k + 1) (shoF a)).1:=by rw [toE_plus,toE_halves k (shoF a)]
        have hs2 : sgL rs (plusF ((shoF a).take (2 ^ k)) ((shoF a).take (2 ^ k))) ≠ 0:=by
          rw [sgL_at (by omega) hxx,e1]
          intro e
          exact hv ((norm0 (ht.ok.mono hK) _ hv (hsn ▸ h0)).trans (sgR_eq0.1 e))
        obtain ⟨i1,i2⟩:=ih f (by omega) (by omega) _ hxx hs2
        refine ⟨?_,i2.mono (Nat.le_succ k)⟩
        rw [toE_lowE i2.le,i1,e1]
      · rw [if_neg h0,if_neg (by rw [← hsn];exact h0)]
        obtain ⟨i1,i2⟩:=ih f (by omega) (by omega) _ n2 h0
        obtain ⟨j1,j2⟩:=hj k _ _ hlx hly
        obtain ⟨m1,m2⟩:=htm (k + 1) _ _ hK (PW.pow j2) (i2.mono (Nat.le_succ k))
        refine ⟨?_,m2⟩
        rw [m1,j1,toE_lowE i2.le,i1,n1,toE_halves k (shoF a)]
        rfl
theorem ivF_ok {rs : List (List Rat)} (ht : TOK rs) {k f : Nat} (hk : k ≤ rs.length) (hf : k < f) {a : List Rat} (ha : PW k a) (hs : sgL rs a ≠ 0) : El.toE k (ivF rs f a) = El.inv (dR rs) (El.toE k a) ∧ PW k (ivF rs f a) :=
  invG_ok ht (fun k a hk ha=>norm_ok ht.2.1 hk ha) (fun k a b hk ha hb=>⟨(tm_ok ht.2.1 hk ha hb).1,PW.tm ht.2.1 hk ha hb⟩) (fun k x y hx hy=>by
    have hm : (minusF y).length = 2 ^ k:=by rw [minus_len,hy]
    refine ⟨?_,by rw [join_len (by omega) (by omega),Nat.pow_succ];omega⟩
    rw [El.toE_join (by omega) (by omega),El.toE_minus];rfl) k f hk hf a ha hs
def iB : Nat → Nat → Nat → Nat
  | 0,n,_=>n + 64
  | k + 1,n,r=>tB (k + 1) (n + iB k (tB (k + 1) (n + n) r) r) r
theorem iB_mono {r : Nat} : ∀ {k n m : Nat},n ≤ m → iB k n r ≤ iB k m r
  | 0,n,m,h=>Nat.add_le_add_right h _
  | k + 1,n,m,h=>by
    unfold iB
    have h1:=tB_mono (r:=r) (k:=k + 1) (show n + n ≤ m + m by omega)
    have h2:=iB_mono (r:=r) (k:=k) h1
    exact tB_mono (by omega)
theorem iB_le {r : Nat} : ∀ {k n : Nat},n + 64 ≤ iB k n r
  | 0,n=>Nat.le_refl _
  | k + 1,n=>by
    have h1:=iB_le (r:=r) (k:=k) (n:=tB (k + 1) (n + n) r)
    have h2:=tB_le (r:=r) (k:=k + 1) (n:=n + n)
    have h3:=tB_le (r:=r) (k:=k + 1) (n:=n + iB k (tB (k + 1) (n + n) r) r)
    unfold iB
    omega
theorem iv_0 {rs : List (List Rat)} {l : List Rat} {kk : Nat} (h : kk ≤ 5) (p : PW kk l) (hs : sgL rs l ≠ 0) : ¬ (((shoF l).length : Nat) : Int) = 0:=fun e=>by
  have e0 : shoF l = []:=List.length_eq_zero_iff.1 (by omega)
  rw [← sgL_short h p,e0] at hs
  exact hs sgL_nil
theorem iv_1 {rs : List (List Rat)} {l : List Rat} {kk f : Nat} (h : kk ≤ 5) (p : PW kk l) (hs : sgL rs l ≠ 0) (h1 : (((shoF l).length : Nat) : Int) = 1) : (shoF l).getD 0 default ≠ 0 ∧ [1 / (shoF l).getD 0 default] = ivF rs (f + 1) l:=by
  refine ⟨fun e=>?_,?_⟩
  · rw [← sgL_short h p,sgL_one (by omega)] at hs
    apply hs
    have e : cf (shoF l) 0 = 0:=e
    rw [e];rfl
  · conv=>rhs;unfold ivF invG
    rw [if_pos (by omega)];rfl
theorem iv_2 {rs : List (List Rat)} {l : List Rat} {f : Nat} (h1 : ¬ (((shoF l).length : Nat) : Int) = 1) (hm : sgL rs (normF rs (shoF l)) = 0) : ivF rs f (plusF ((shoF l).take ((shoF l).length / 2)) ((shoF l).take ((shoF l).length / 2))) = ivF rs (f + 1) l:=by
  conv=>rhs;unfold ivF invG
  rw [if_neg (by omega),if_pos hm];rfl
theorem iv_3 {rs : List (List Rat)} {l : List Rat} {f : Nat} (h1 : ¬ (((shoF l).length : Nat) : Int) = 1) (hm : ¬ sgL rs (normF rs (shoF l)) = 0) : tmF rs (joinF ((shoF l).take ((shoF l).length / 2)) (minusF ((shoF l).drop ((shoF l).length / 2))) ((shoF l).length / 2)) (ivF rs f (normF rs (shoF l))) = ivF rs (f + 1) l:=by
  conv=>rhs;unfold ivF invG
  rw [if_neg (by omega),if_neg hm];rfl
theorem iv_s {rs : List (List Rat)} (ht : TOK rs) {l : List Rat} {j : Nat} (hj : j < rs.length) (hl : l.length = 2 ^ (j + 1)) (hs : sgL rs l ≠ 0) (hm : sgL rs (normF rs l) = 0) : sgL rs (plusF (l.take (l.length / 2)) (l.take (l.length / 2))) ≠ 0:=by
  have h5:=ht.1
  have e2 : 2 ^ (j + 1) = 2 ^ j + 2 ^ j:=by rw [Nat.pow_succ];omega
  have hx : PW j (l.take (2 ^ j)):=.pow (by rw [List.length_take];omega)
  obtain ⟨n1,n2⟩:=norm_ok ht.2.1 hj hl
  rw [sgL_at (k:=j + 1) (by omega) (PW.pow hl)] at hs
  rw [sgL_at (by omega) n2,n1] at hm
  rw [show l.length / 2 = 2 ^ j by omega,sgL_at (k:=j) (by omega) (hx.plus hx),El.toE_plus]
  have hv : El.vl (dR rs) (El.toE (j + 1) l) ≠ 0:=fun e=>hs (sgR_eq0.2 e)
  intro e
  have h0:=norm0 (ht.ok.mono hj) _ hv hm
  have e1 : (El.toE (j + 1) l).1 = El.toE j (l.take (2 ^ j)):=by rw [El.toE_halves]
  rw [e1] at h0
  exact hv (h0.trans (sgR_eq0.1 e))
end Go.Proofs.YtboicjlbbbodgaaGreatDoor
