/- Two writes of two sectors may be done in any order; of one sector the last one counts. -/
import Derived.Test.YtnhfhepakimncaaSayDiskOrder
import Derived.Test.YtnhfhepakimncaaBase
import Derived.Test.YtnhfhepakimncaaBase2
import Derived.Test.YtnhfhepakimncaaRow
namespace Go.Proofs.Ytnhfhepakimncaa.Pure
set_option linter.unusedVariables false
open Go Go.RowKit Go.Proofs.Ytnhfhepakimncaa.Q Go.Proofs.YtnhfhepakimncaaK Go.Proofs.YtnhfhepakimncaaW.PrintWords Go.Proofs.YtnhfhepakimncaaW.PrintLast Go.Proofs.YtnhfhepakimncaaW.PrintMore

theorem set_comm (S : List (List Int)) (i j : Nat) (x y : List Int) (h : i ≠ j) : (S.set i x).set j y = (S.set j y).set i x := by
  refine List.ext_getElem (by simp) (fun n h1 h2 => ?_)
  simp only [List.getElem_set]
  by_cases a : j = n
  · by_cases b : i = n
    · omega
    · rw [if_pos a, if_neg b, if_pos a]
  · rw [if_neg a]
    by_cases b : i = n
    · rw [if_pos b, if_pos b]
    · rw [if_neg b, if_neg b, if_neg a]
theorem DiskOrder : portreevelaw03_DiskOrder.Pure := by
  intro S W a b x y hS hW ha hb hx hy
  refine ⟨9000, ?_⟩
  obtain ⟨sm, h1, h2⟩ := small_own 9000 S W (by omega)
  have hj : portreevelaw03_DiskOrder.j0 9000 a b x y true true S W = some true := by rw [portreevelaw03_DiskOrder.j0, if_pos rfl]
  unfold portreevelaw03_DiskOrder.f
  rw [shown_true _ (by omega), Option.bind_some, h1, Option.bind_some]
  cases sm with
  | false => rw [if_neg (by simp)]; exact hj
  | true =>
    have h3 := h2 rfl
    rw [if_pos rfl, right_own _ S W (by omega) (by omega), Option.bind_some]
    by_cases hr : (S.length == 64 && (okS S && okW W)) = true
    · have hD := RD_of (by omega) hr
      rw [if_pos hr]
      by_cases g1 : a < 0
      · rw [if_pos g1]; exact hj
      by_cases g2 : a ≥ 64
      · rw [if_neg g1, if_pos g2]; exact hj
      by_cases g3 : b < 0
      · rw [if_neg g1, if_neg g2, if_pos g3]; exact hj
      by_cases g4 : b ≥ 64
      · rw [if_neg g1, if_neg g2, if_neg g3, if_pos g4]; exact hj
      by_cases g5 : x.length = 128
      · rw [if_neg g1, if_neg g2, if_neg g3, if_neg g4, if_pos (by omega)]
        by_cases g6 : y.length = 128
        · have hf : ∀ (c d : S47), (c = ⟨a, x⟩ ∨ c = ⟨b, y⟩) → (d = ⟨a, x⟩ ∨ d = ⟨b, y⟩) → Fit (W ++ [c] ++ [d]) := by
            intro c d hc hd w hw
            simp only [List.mem_append, List.mem_singleton] at hw
            have ex : ∀ v : S47, (v = ⟨a, x⟩ ∨ v = ⟨b, y⟩) → 0 ≤ v.f0 ∧ v.f0 ≤ 63 ∧ v.f1.length = 128 := by
              rintro v (rfl | rfl)
              · exact ⟨show 0 ≤ a by omega, show a ≤ 63 by omega, g5⟩
              · exact ⟨show 0 ≤ b by omega, show b ≤ 63 by omega, g6⟩
            rcases hw with (hw | rfl) | rfl
            · exact hD.fit w hw
            · exact ex _ hc
            · exact ex _ hd
          have hX : RD S (W ++ [⟨a, x⟩] ++ [⟨b, y⟩]) := ⟨hD.s64, hD.s128, hf _ _ (.inl rfl) (.inr rfl), by simp only [List.length_append, List.length_singleton]; omega⟩
          have hY : RD S (W ++ [⟨b, y⟩] ++ [⟨a, x⟩]) := ⟨hD.s64, hD.s128, hf _ _ (.inr rfl) (.inl rfl), by simp only [List.length_append, List.length_singleton]; omega⟩
          rw [show ((y.length : Int) != 128) = false by rw [g6]; rfl, portreevelaw03_DiskOrder.j0, if_neg (by simp)]
          simp only [write_own S W a x (by omega) (by omega), write_own S W b y (by omega) (by omega), if_pos (show 0 ≤ a ∧ a ≤ 63 ∧ x.length = 128 from ⟨by omega, by omega, g5⟩), if_pos (show 0 ≤ b ∧ b ≤ 63 ∧ y.length = 128 from ⟨by omega, by omega, g6⟩), Option.bind_some]
          rw [write_own S (W ++ [(⟨a, x⟩ : S47)]) b y (by simp only [List.length_append, List.length_singleton]; omega) (by omega), if_pos (show 0 ≤ b ∧ b ≤ 63 ∧ y.length = 128 from ⟨by omega, by omega, g6⟩), Option.bind_some, write_own S (W ++ [(⟨b, y⟩ : S47)]) a x (by simp only [List.length_append, List.length_singleton]; omega) (by omega), if_pos (show 0 ≤ a ∧ a ≤ 63 ∧ x.length = 128 from ⟨by omega, by omega, g5⟩), Option.bind_some]
          have hlk : lk (rd_L2 S a) a (W ++ [⟨a, x⟩] ++ [⟨b, y⟩]) = if b = a then y else x := by rw [lk_snoc, lk_snoc, if_pos rfl]
          rw [read_own _ hX a (by omega) (by omega) (by omega), Option.bind_some, hlk]
          simp only [if_true]
          by_cases he : a = b
          · rw [if_pos he, if_pos he.symm, row _ _ _ (by omega) (by omega), Option.bind_some]
            simp
          · have hs : dn S (W ++ [⟨a, x⟩] ++ [⟨b, y⟩]) = dn S (W ++ [⟨b, y⟩] ++ [⟨a, x⟩]) := by
              rw [dn_append, dn_append, dn_append, dn_append]
              show ((dn S W).set a.toNat x).set b.toNat y = ((dn S W).set b.toNat y).set a.toNat x
              exact set_comm _ _ _ _ _ (by omega)
            rw [if_neg he, if_neg (fun h => he h.symm), row _ _ _ (by omega) (by omega), Option.bind_some, if_pos (by simp), flush_own _ hX (by omega), Option.bind_some, flush_own _ hY (by omega), Option.bind_some, hs, same_own _ (hY.done hY.fit) (by omega), Option.bind_some, if_pos rfl, w64 (by omega) (by omega)]
            congr 1
            simp only [List.length_append, List.length_singleton, beq_iff_eq]
            omega
        · rw [show ((y.length : Int) != 128) = true by rw [bne_iff_ne]; omega]; exact hj
      · rw [if_neg g1, if_neg g2, if_neg g3, if_neg g4, if_neg (by omega)]; exact hj
    · rw [if_neg hr]; exact hj
end Go.Proofs.Ytnhfhepakimncaa.Pure
