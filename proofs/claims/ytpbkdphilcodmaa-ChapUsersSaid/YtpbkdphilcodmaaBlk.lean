/- Blocks as lists of cells: what lies there, and what stands there behind a store of one cell or of a piece. -/
import Derived.Test.YtpbkdphilcodmaaNm
import Derived.Deep.MidRow
import Derived.Laws.Rows
namespace Go.Proofs.YtpbkdphilcodmaaV
open Go Go.RowKit Go.Proofs.YtpbkdphilcodmaaW.PrintWords Go.Proofs.YtpbkdphilcodmaaW.PrintLast Go.Proofs.YtpbkdphilcodmaaW.PrintMore
set_option linter.unusedVariables false
/-- A block with these cells. -/
def Blk (w : World) (g : Nat) (t : TypeId) (cs : List Value) : Prop := w.heap[g]? = some (Obj.cells cs.toArray t (0, 0))
section
variable {w w' : World} {g g2 i o : Nat} {t : TypeId} {cs pre old new post : List Value} {u : Value}
theorem Blk.at_ (h : Blk w g t cs) {x : Value} (hi : cs[i]? = some x) : w.cell? ⟨g, i, none⟩ = some x := by
  refine (blk_cell h i).trans ?_
  rw [List.getElem?_toArray]
  exact hi
theorem Blk.frozen (h : Blk w g t cs) : w.frozen? ⟨g, i, none⟩ = false := blk_frozen h i
theorem Blk.lt (h : Blk w g t cs) : g < w.heap.size := blk_lt h
theorem Blk.keep (h : Blk w g t cs) (hb : Below w.heap.size w w') : Blk w' g t cs := (hb.block g (blk_lt h)).trans h
theorem Blk.keepB {B : Nat} (h : Blk w g t cs) (hb : Below B w w') (hg : g < B) : Blk w' g t cs := (hb.block g hg).trans h
theorem Blk.alloc (h : Blk w g t cs) (ob : Obj) : Blk (w.alloc ob) g t cs := blk_alloc h ob
theorem Blk.drew (h : Blk w g t cs) : Blk w.drew g t cs := h
theorem Blk.far (h : Blk w g t cs) (hn : g ≠ g2) : Blk (w.setCell ⟨g2, i, none⟩ u) g t cs := (Below.heap_setCell w ⟨g2, i, none⟩ u g hn).trans h
theorem Blk.set (h : Blk w g t cs) : Blk (w.setCell ⟨g, i, none⟩ u) g t (cs.set i u) := by
  unfold Blk at h ⊢
  have := blk_put h i u rfl
  rw [this]
  simp
theorem Blk.fars (h : Blk w g t cs) (hn : g ≠ g2) : ∀ (vs : List Value) (o : Nat), Blk (w.setCells g2 o vs) g t cs := by
  intro vs
  induction vs generalizing w with
  | nil => intro o; exact h
  | cons v r ih => intro o; exact ih (h.far hn) (o + 1)
theorem set_mid (pre : List Value) (x y : Value) (post : List Value) : (pre ++ x :: post).set pre.length y = pre ++ y :: post := by
  rw [List.set_append_right _ _ (Nat.le_refl _), Nat.sub_self, List.set_cons_zero]
theorem Blk.store : ∀ (old new : List Value) {w : World} {pre post : List Value}, Blk w g t (pre ++ old ++ post) → old.length = new.length → Blk (w.setCells g pre.length new) g t (pre ++ new ++ post)
  | [], [], _, _, _, h, _ => h
  | x :: old, y :: new, w, pre, post, h, hl => by
    have h1 : Blk (w.setCell ⟨g, pre.length, none⟩ y) g t ((pre ++ [y]) ++ old ++ post) := by
      have := h.set (i := pre.length) (u := y)
      rw [List.append_assoc, List.cons_append, set_mid] at this
      rwa [List.append_assoc, List.append_assoc, List.singleton_append]
    have h2 := Blk.store old new h1 (by simpa using hl)
    rw [List.length_append, List.length_singleton] at h2
    show Blk ((w.setCell ⟨g, pre.length, none⟩ y).setCells g (pre.length + 1) new) g t (pre ++ y :: new ++ post)
    rwa [List.append_assoc pre, List.singleton_append] at h2
  | [], _ :: _, _, _, _, _, hl => by simp at hl
  | _ :: _, [], _, _, _, _, hl => by simp at hl
theorem Blk.range (h : Blk w g t (pre ++ old ++ post)) (ho : pre.length = o) : w.rangeAt g o old := by
  intro j v hv
  have hj : j < old.length := by
    rcases Nat.lt_or_ge j old.length with h | h
    · exact h
    · rw [List.getElem?_eq_none h] at hv
      cases hv
  refine h.at_ ?_
  rw [List.append_assoc, List.getElem?_append_right (by omega), List.getElem?_append_left (by omega), show o + j - pre.length = j by omega]
  exact hv
theorem Blk.whole (h : Blk w g t cs) : w.rangeAt g 0 cs := Blk.range (pre := []) (post := []) (by rw [List.append_nil]; exact h) rfl
theorem Blk.there (h : Blk w g t cs) {n : Nat} (hn : o + n ≤ cs.length) : w.there g o n := fun j hj => by
  refine ⟨?_, h.frozen⟩
  rw [h.at_ (x := cs[o + j]'(by omega)) (List.getElem?_eq_getElem (by omega))]
  rfl
theorem Blk.row (h : Blk w g t cs) (vs : List Value) : Blk (w.setRow g vs.toArray) g t vs := setRow_heap w g _ vs.toArray t (0, 0) h
theorem Blk.rowFar (h : Blk w g t cs) (hn : g ≠ g2) (vs : Array Value) : Blk (w.setRow g2 vs) g t cs := (setRow_other w g2 g vs hn).trans h
theorem below_setCells {B : Nat} (hb : Below B w w') (hg : B ≤ g) : ∀ (vs : List Value) (o : Nat), Below B w (w'.setCells g o vs) := by
  intro vs
  induction vs generalizing w' with
  | nil => intro o; exact hb
  | cons v r ih => intro o; exact ih (hb.setCell (show B ≤ (⟨g, o, none⟩ : Addr).block from hg) v) (o + 1)
end
theorem Blk.new {w : World} {t : TypeId} {cs : List Value} : Blk (w.alloc (.cells cs.toArray t)) w.heap.size t cs := heap_alloc_new w _
theorem one_ints (k : IntKind) (xs : List Int) : (xs.map (Value.int k)).toArray.all (·.oneCell') = true := by simp [Value.oneCell']
section
variable {P : Program}
theorem wpList_store_cell {ops : Array Oper} {rest : List Oper} {o : Oper} {a : Act} {w : World} {Q : Exit → Act → World → Prop} {t : TypeId} {cs : List Value} (hgd : o.guard = none) (hd : o.dst = none) (ty : TypeId) (x y : Operand) (ho : o.op = .store ty x y)
    (g i : Nat) (v : Value) (hx : a.eval x = .pointer (some ⟨g, i, none⟩)) (hy : a.eval y = v) (hB : Blk w g t cs) (hl : i < cs.length) (hv : v.cells = #[v]) (h1 : v.oneCell' = true) (hi : (P.info? ty).map (·.size) = some 1)
    (h : wpList P ops Q rest a (w.setCell ⟨g, i, none⟩ v)) : wpList P ops Q (o :: rest) a w := by
  refine wpList_plain hgd fun K hK => ?_
  have h0 := run_storeCells_cells (P := P) g i [v] 0 w (fun j hj => by
      obtain rfl : j = 0 := by simpa using hj
      exact (hB.there (o := i) (n := 1) (by omega) 0 (by omega)).1) (fun j hj => hB.frozen) (fun u hu => by
      obtain rfl : u = v := by simpa using hu
      exact h1)
  cases hq : P.info? ty with
  | none => simp [hq] at hi
  | some ti =>
    have hs : ti.size = 1 := by simpa [hq] using hi
    simp only [Nat.add_zero] at h0
    have h2 : (storeVar ty ⟨g, i, none⟩ v).run P w = .ok () (w.setCell ⟨g, i, none⟩ v) := by
      simp [storeVar, sizeOf, typeInfo, hq, hv, hs, h0]
      rfl
    unfold Oper.wp execOp
    simp only [ho, hx, hy, Instr.storeAt, Instr.sureAddr, Sem.run_bind, Sem.run_pure, Result.andThen_ok, h2]
    refine hK _ _ ?_
    rw [hd]
    exact h
theorem loadVar_blk {w : World} {g t ty : TypeId} {cs : List Value} {d : TypeDesc} (hB : Blk w g t cs) (hu : P.underlying ty = some d) (hd : d.isRow = true) (hi : (P.info? ty).map (·.size) = some cs.length) : (loadVar ty ⟨g, 0, none⟩).run P w = .ok (.agg cs.toArray) w :=
  run_loadVar_mid w g 0 ty cs d hB.whole hu hd hi
theorem results_two {fn : Func} {p q : Tmp} {t u : TypeId} (h : fn.results = #[.cell p t, .cell q u]) (tmps : Array Value) (w : World) (g1 g2 : Nat) (v1 v2 : Value)
    (hp : tmps.getD p undef = .pointer (some ⟨g1, 0, none⟩)) (hq : tmps.getD q undef = .pointer (some ⟨g2, 0, none⟩)) (h1 : (loadVar t ⟨g1, 0, none⟩).run P w = .ok v1 w) (h2 : (loadVar u ⟨g2, 0, none⟩).run P w = .ok v2 w) :
    (results fn tmps).run P w = .ok (.tuple #[v1, v2]) w := by
  have hp' : tmps[p]?.getD undef = .pointer (some ⟨g1, 0, none⟩) := by simpa using hp
  have hq' : tmps[q]?.getD undef = .pointer (some ⟨g2, 0, none⟩) := by simpa using hq
  simp [results, h, hp', hq', asAddr, h1, h2]
theorem store_run {o : Oper} {a : Act} {w : World} {t ty : TypeId} {cs new : List Value} {x y : Operand} {g : Nat} (ho : o.op = .store ty x y) (hx : a.eval x = .pointer (some ⟨g, 0, none⟩)) (hy : a.eval y = .agg new.toArray) (hB : Blk w g t cs) (hl : cs.length = new.length) (hi : (P.info? ty).map (·.size) = some new.length) (h1 : new.toArray.all (·.oneCell') = true) :
    (execOp a.eval o).run P w = .ok .skip (w.setCells g 0 new) := by
  have := run_storeAt_mid (P := P) w g 0 ty new.toArray (hB.there (by rw [List.size_toArray]; omega)) (by rw [List.size_toArray]; exact hi) h1
  unfold execOp
  simp only [ho, hx, hy, Sem.run_bind, this, Result.andThen_ok, Sem.run_pure]
end
section
variable {P : Program}
theorem store_runM {o : Oper} {a : Act} {w : World} {t ty : TypeId} {cs new : List Value} {x y : Operand} {g off : Nat} (ho : o.op = .store ty x y) (hx : a.eval x = .pointer (some ⟨g, off, none⟩)) (hy : a.eval y = .agg new.toArray) (hB : Blk w g t cs) (hl : off + new.length ≤ cs.length) (hi : (P.info? ty).map (·.size) = some new.length) (h1 : new.toArray.all (·.oneCell') = true) :
    (execOp a.eval o).run P w = .ok .skip (w.setCells g off new) := by
  have := run_storeAt_mid (P := P) w g off ty new.toArray (hB.there (by rw [List.size_toArray]; omega)) (by rw [List.size_toArray]; exact hi) h1
  unfold execOp
  simp only [ho, hx, hy, Sem.run_bind, this, Result.andThen_ok, Sem.run_pure]
theorem store_runC {o : Oper} {a : Act} {w : World} {t ty : TypeId} {cs : List Value} {x y : Operand} {g i : Nat} {v : Value} (ho : o.op = .store ty x y) (hx : a.eval x = .pointer (some ⟨g, i, none⟩)) (hy : a.eval y = v) (hB : Blk w g t cs) (hl : i < cs.length) (hv : v.cells = #[v]) (h1 : v.oneCell' = true) (hi : (P.info? ty).map (·.size) = some 1) :
    (execOp a.eval o).run P w = .ok .skip (w.setCell ⟨g, i, none⟩ v) := by
  have h0 := run_storeCells_cells (P := P) g i [v] 0 w (fun j hj => by
      obtain rfl : j = 0 := by simpa using hj
      exact (hB.there (o := i) (n := 1) (by omega) 0 (by omega)).1) (fun j hj => hB.frozen) (fun u hu => by
      obtain rfl : u = v := by simpa using hu
      exact h1)
  cases hq : P.info? ty with
  | none => simp [hq] at hi
  | some ti =>
    have hs : ti.size = 1 := by simpa [hq] using hi
    simp only [Nat.add_zero] at h0
    have h2 : (storeVar ty ⟨g, i, none⟩ v).run P w = .ok () (w.setCell ⟨g, i, none⟩ v) := by
      simp [storeVar, sizeOf, typeInfo, hq, hv, hs, h0]
      rfl
    unfold execOp
    simp only [ho, hx, hy, Instr.storeAt, Instr.sureAddr, Sem.run_bind, Sem.run_pure, Result.andThen_ok, h2]
end
theorem Blk.over {w : World} {g : Nat} {t : TypeId} {cs : List Value} (h : Blk w g t cs) {new : List Value} (hl : cs.length = new.length) : Blk (w.setCells g 0 new) g t new := by
  have := Blk.store (g := g) (t := t) cs new (w := w) (pre := []) (post := []) (by simpa using h) hl
  simpa using this
end Go.Proofs.YtpbkdphilcodmaaV
