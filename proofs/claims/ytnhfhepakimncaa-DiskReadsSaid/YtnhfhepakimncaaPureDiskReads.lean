/- What is written is read, and nothing else has changed; what is read is the same behind a flush. -/
import Derived.Test.YtnhfhepakimncaaSayDiskReads
import Derived.Test.YtnhfhepakimncaaBase
import Derived.Test.YtnhfhepakimncaaBase2
import Derived.Test.YtnhfhepakimncaaRow
namespace Go.Proofs.Ytnhfhepakimncaa.Pure
set_option linter.unusedVariables false
open Go Go.RowKit Go.Proofs.Ytnhfhepakimncaa.Q Go.Proofs.YtnhfhepakimncaaK Go.Proofs.YtnhfhepakimncaaW.PrintWords Go.Proofs.YtnhfhepakimncaaW.PrintLast Go.Proofs.YtnhfhepakimncaaW.PrintMore

theorem DiskReads : portreevelaw03_DiskReads.Pure := by
  intro S W a b o hS hW ha hb ho
  refine ⟨9000, ?_⟩
  obtain ⟨sm, h1, h2⟩ := small_own 9000 S W (by omega)
  have hj : portreevelaw03_DiskReads.j0 9000 a b o true true S W = some true := by rw [portreevelaw03_DiskReads.j0, if_pos rfl]
  unfold portreevelaw03_DiskReads.f
  rw [shown_true _ (by omega), Option.bind_some, h1, Option.bind_some]
  cases sm with
  | false => rw [if_neg (by simp)]; exact hj
  | true =>
    have h3 := h2 rfl
    rw [if_pos rfl, right_own _ S W (by omega) (by omega), Option.bind_some]
    by_cases hr : (S.length == 64 && (okS S && okW W)) = true
    · have hD := RD_of (by omega) hr
      rw [if_pos hr]
      by_cases g1 : a < 0
      · rw [if_pos g1]; exact hj
      by_cases g2 : a ≥ 64
      · rw [if_neg g1, if_pos g2]; exact hj
      by_cases g3 : b.length = 128
      · by_cases g4 : o < 0
        · rw [if_neg g1, if_neg g2, if_pos (by omega), if_pos g4]; exact hj
        by_cases g5 : o ≥ 64
        · rw [if_neg g1, if_neg g2, if_pos (by omega), if_neg g4, decide_eq_true g5]; exact hj
        have hf : Fit (W ++ [⟨a, b⟩]) := by
          intro w hw
          simp only [List.mem_append, List.mem_singleton] at hw
          rcases hw with hw | rfl
          · exact hD.fit w hw
          · exact ⟨show 0 ≤ a by omega, show a ≤ 63 by omega, g3⟩
        have hX : RD S (W ++ [⟨a, b⟩]) := ⟨hD.s64, hD.s128, hf, by simp only [List.length_append, List.length_singleton]; omega⟩
        have hl : ∀ (w : List S47), Fit w → (lk (rd_L2 S o) o w).length = 128 := by
          intro w hw
          obtain ⟨n, rfl⟩ : ∃ n : Nat, o = n := ⟨o.toNat, by omega⟩
          rw [← dn_get w S n (by rw [hD.s64]; omega) hw]
          exact (hD.done hw).get n (by omega)
        have hz : rd_L2 (dn S (W ++ [⟨a, b⟩])) o = lk (rd_L2 S o) o (W ++ [⟨a, b⟩]) := by
          obtain ⟨n, rfl⟩ : ∃ n : Nat, o = n := ⟨o.toNat, by omega⟩
          exact dn_get _ S n (by rw [hD.s64]; omega) hf
        have hl1 := hl _ hf
        have hl2 := hl _ hD.fit
        rw [if_neg g1, if_neg g2, if_pos (by omega), if_neg g4, decide_eq_false g5, portreevelaw03_DiskReads.j0, if_neg (by simp), write_own S W a b (by omega) (by omega), if_pos ⟨by omega, by omega, g3⟩, Option.bind_some]
        simp only [read_own 8999 hX a (by omega) (by omega) (by omega), read_own 8999 hX o (by omega) (by omega) (by omega), read_own 8999 hD o (by omega) (by omega) (by omega), flush_own 8999 hX (by omega), read_own 8999 (hX.done hf) o (by omega) (by omega) (by omega), Option.bind_some, if_true]
        rw [portreevelaw03_DiskReads.j1, if_neg (by simp), if_pos rfl, lk_snoc, if_pos rfl, row _ _ _ (show b.length ≤ _ by omega) (show b.length < _ by omega), Option.bind_some, if_pos (by simp), hz, lk]
        by_cases ho : o = a
        · rw [if_pos ho, row _ _ _ (by omega) (by omega), Option.bind_some, if_pos (by simp), right_true _ hX (by omega), Option.bind_some]
        · have hn : lk (rd_L2 S o) o (W ++ [⟨a, b⟩]) = lk (rd_L2 S o) o W := by rw [lk_snoc, if_neg (fun h => ho h.symm)]
          rw [if_neg ho, hn, row _ _ _ (by omega) (by omega), Option.bind_some, if_pos (by simp), Option.bind_some, if_pos (by simp), right_true _ hX (by omega), Option.bind_some]
      · rw [if_neg g1, if_neg g2, if_neg (by omega)]; exact hj
    · rw [if_neg hr]; exact hj
end Go.Proofs.Ytnhfhepakimncaa.Pure
