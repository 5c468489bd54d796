/- Blocks of whole numbers: an array's cells as a list. -/
import Derived.Test.YtpbkdphilcodmaaV
import Derived.Great.BuildSlice
import Derived.Laws.Tables
import Derived.Laws.CopyOwn
import Derived.Deep.WholeRow
namespace Go.Proofs.YtpbkdphilcodmaaV
open Go Go.RowKit Go.Proofs.YtpbkdphilcodmaaW.PrintWords Go.Proofs.YtpbkdphilcodmaaW.PrintLast Go.Proofs.YtpbkdphilcodmaaW.PrintMore
set_option linter.unusedVariables false
/-- A block of whole numbers. -/
def Nums (w : World) (g : Nat) (t : TypeId) (k : IntKind) (xs : List Int) : Prop := w.heap[g]? = some (Obj.cells (xs.map (Value.int k)).toArray t (0, 0))
section
variable {w w' : World} {g g2 i : Nat} {t : TypeId} {k : IntKind} {xs : List Int} {v : Int} {u : Value}
theorem Nums.at_ (h : Nums w g t k xs) (hi : i < xs.length) : w.cell? ⟨g, i, none⟩ = some (.int k (xs.getD i 0)) := by
  refine (blk_cell h i).trans ?_
  simp [List.getElem?_eq_getElem hi, List.getD_eq_getElem?_getD]
theorem Nums.frozen (h : Nums w g t k xs) : w.frozen? ⟨g, i, none⟩ = false := blk_frozen h i
theorem Nums.keep (h : Nums w g t k xs) (hb : Below w.heap.size w w') : Nums w' g t k xs := (hb.block g (blk_lt h)).trans h
theorem Nums.far (h : Nums w g t k xs) (hn : g ≠ g2) : Nums (w.setCell ⟨g2, i, none⟩ u) g t k xs := (Below.heap_setCell w ⟨g2, i, none⟩ u g hn).trans h
theorem Nums.set (h : Nums w g t k xs) (hi : i < xs.length) : Nums (w.setCell ⟨g, i, none⟩ (.int k v)) g t k (xs.set i v) := by
  unfold Nums at h ⊢
  have := blk_put (cs := (xs.map (Value.int k)).toArray) h i (.int k v) rfl
  rw [this]
  simp
end
theorem wrap64_of {x : Int} (h : -9223372036854775808 ≤ x ∧ x ≤ 9223372036854775807 := by omega) : wrap64 x = x := by unfold wrap64; omega
theorem bsize (w : World) (o : Obj) : (w.alloc o).heap.size = w.heap.size + 1 := by show (w.heap.push o).size = _; exact Array.size_push ..
theorem Nums.new {w : World} {t : TypeId} {k : IntKind} {xs : List Int} {n : Nat} (h : w.heap.size = n) : Nums (w.alloc (.cells (xs.map (Value.int k)).toArray t)) n t k xs := by subst h; exact heap_alloc_new w _
theorem bk16 {w : World} {g : Nat} {t : TypeId} {c0 c1 c2 c3 c4 c5 c6 c7 c8 c9 c10 c11 c12 c13 c14 c15 : Value} (h : w.heap[g]? = some (.cells #[c0, c1, c2, c3, c4, c5, c6, c7, c8, c9, c10, c11, c12, c13, c14, c15] t (0, 0))) : w.cell? ⟨g, 0, none⟩ = some c0 ∧ w.cell? ⟨g, 1, none⟩ = some c1 ∧ w.cell? ⟨g, 2, none⟩ = some c2 ∧ w.cell? ⟨g, 3, none⟩ = some c3 ∧ w.cell? ⟨g, 4, none⟩ = some c4 ∧ w.cell? ⟨g, 5, none⟩ = some c5 ∧ w.cell? ⟨g, 6, none⟩ = some c6 ∧ w.cell? ⟨g, 7, none⟩ = some c7 ∧ w.cell? ⟨g, 8, none⟩ = some c8 ∧ w.cell? ⟨g, 9, none⟩ = some c9 ∧ w.cell? ⟨g, 10, none⟩ = some c10 ∧ w.cell? ⟨g, 11, none⟩ = some c11 ∧ w.cell? ⟨g, 12, none⟩ = some c12 ∧ w.cell? ⟨g, 13, none⟩ = some c13 ∧ w.cell? ⟨g, 14, none⟩ = some c14 ∧ w.cell? ⟨g, 15, none⟩ = some c15 ∧ w.frozen? ⟨g, 0, none⟩ = false ∧ w.frozen? ⟨g, 1, none⟩ = false ∧ w.frozen? ⟨g, 2, none⟩ = false ∧ w.frozen? ⟨g, 3, none⟩ = false ∧ w.frozen? ⟨g, 4, none⟩ = false ∧ w.frozen? ⟨g, 5, none⟩ = false ∧ w.frozen? ⟨g, 6, none⟩ = false ∧ w.frozen? ⟨g, 7, none⟩ = false ∧ w.frozen? ⟨g, 8, none⟩ = false ∧ w.frozen? ⟨g, 9, none⟩ = false ∧ w.frozen? ⟨g, 10, none⟩ = false ∧ w.frozen? ⟨g, 11, none⟩ = false ∧ w.frozen? ⟨g, 12, none⟩ = false ∧ w.frozen? ⟨g, 13, none⟩ = false ∧ w.frozen? ⟨g, 14, none⟩ = false ∧ w.frozen? ⟨g, 15, none⟩ = false :=
  ⟨(blk_cell h 0).trans rfl, (blk_cell h 1).trans rfl, (blk_cell h 2).trans rfl, (blk_cell h 3).trans rfl, (blk_cell h 4).trans rfl, (blk_cell h 5).trans rfl, (blk_cell h 6).trans rfl, (blk_cell h 7).trans rfl, (blk_cell h 8).trans rfl, (blk_cell h 9).trans rfl, (blk_cell h 10).trans rfl, (blk_cell h 11).trans rfl, (blk_cell h 12).trans rfl, (blk_cell h 13).trans rfl, (blk_cell h 14).trans rfl, (blk_cell h 15).trans rfl, blk_frozen h 0, blk_frozen h 1, blk_frozen h 2, blk_frozen h 3, blk_frozen h 4, blk_frozen h 5, blk_frozen h 6, blk_frozen h 7, blk_frozen h 8, blk_frozen h 9, blk_frozen h 10, blk_frozen h 11, blk_frozen h 12, blk_frozen h 13, blk_frozen h 14, blk_frozen h 15⟩
theorem l16 : ∀ {l : List Int}, l.length = 16 → ∃ y0 y1 y2 y3 y4 y5 y6 y7 y8 y9 y10 y11 y12 y13 y14 y15, l = [y0, y1, y2, y3, y4, y5, y6, y7, y8, y9, y10, y11, y12, y13, y14, y15]
  | [y0, y1, y2, y3, y4, y5, y6, y7, y8, y9, y10, y11, y12, y13, y14, y15], _ => ⟨y0, y1, y2, y3, y4, y5, y6, y7, y8, y9, y10, y11, y12, y13, y14, y15, rfl⟩
def tup16 (l : List Int) : Int × Int × Int × Int × Int × Int × Int × Int × Int × Int × Int × Int × Int × Int × Int × Int := (l.getD 0 0, l.getD 1 0, l.getD 2 0, l.getD 3 0, l.getD 4 0, l.getD 5 0, l.getD 6 0, l.getD 7 0, l.getD 8 0, l.getD 9 0, l.getD 10 0, l.getD 11 0, l.getD 12 0, l.getD 13 0, l.getD 14 0, l.getD 15 0)
theorem C_cut {α : Type} {k : Kd α} {w : World} {A : Option Addr} {xs : List α} {c lo hi : Nat} (h : k.C w A xs.length xs) (h1 : lo ≤ hi) (h2 : hi ≤ xs.length) (hc : xs.length ≤ c) : k.C w (if c = lo then A else A.map (·.add (lo * k.sz))) (hi - lo) ((xs.take hi).drop lo) := by
  have := Kd.C_mid (lo := lo) (hi := hi) (c := c) h h1 h2 hc
  have hl : ((xs.take hi).drop lo).length = hi - lo := by rw [List.length_drop, List.length_take]; omega
  rw [hl] at this
  exact this
end Go.Proofs.YtpbkdphilcodmaaV
