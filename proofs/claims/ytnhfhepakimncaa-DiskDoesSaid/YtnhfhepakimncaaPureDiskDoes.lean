/- A write, a read, a flush and a crash are as the document says. -/
import Derived.Test.YtnhfhepakimncaaSayDiskDoes
import Derived.Test.YtnhfhepakimncaaBase
import Derived.Test.YtnhfhepakimncaaBase2
import Derived.Test.YtnhfhepakimncaaRow
namespace Go.Proofs.Ytnhfhepakimncaa.Pure
set_option linter.unusedVariables false
open Go Go.RowKit Go.Proofs.Ytnhfhepakimncaa.Q Go.Proofs.YtnhfhepakimncaaK Go.Proofs.YtnhfhepakimncaaW.PrintWords Go.Proofs.YtnhfhepakimncaaW.PrintLast Go.Proofs.YtnhfhepakimncaaW.PrintMore

theorem DiskDoes : portreevelaw03_DiskDoes.Pure := by
  intro S W a b ks hS hW ha hb hks
  refine ⟨9000, ?_⟩
  obtain ⟨sm, h1, h2⟩ := small_own 9000 S W (by omega)
  have hj : portreevelaw03_DiskDoes.j0 9000 a b ks true true S W = some true := by rw [portreevelaw03_DiskDoes.j0, if_pos rfl]
  unfold portreevelaw03_DiskDoes.f
  rw [shown_true _ (by omega), Option.bind_some, h1, Option.bind_some]
  cases sm with
  | false => rw [if_neg (by simp)]; exact hj
  | true =>
    have h3 := h2 rfl
    rw [if_pos rfl, right_own _ S W (by omega) (by omega), Option.bind_some]
    by_cases hr : (S.length == 64 && (okS S && okW W)) = true
    · have hD := RD_of (by omega) hr
      rw [if_pos hr]
      by_cases h4 : (b.length : Int) > 200
      · rw [if_pos h4]; exact hj
      rw [if_neg h4]
      by_cases h5 : (ks.length : Int) > 100
      · rw [decide_eq_true h5]; exact hj
      have hk := kp_fit hD.fit ks
      have hj1 : portreevelaw03_DiskDoes.j1 8999 ks true false S W = some true := by
        rw [portreevelaw03_DiskDoes.j1, if_neg (by simp), if_pos rfl, flush_own _ hD (by omega), Option.bind_some, rflush _ hD (by omega), Option.bind_some, same_own _ (hD.done hD.fit) (by omega), Option.bind_some, if_pos rfl, crash_own _ hD ks (by omega) (by omega), Option.bind_some, rcrash _ hD ks (by omega) (by omega), Option.bind_some, same_own _ (hD.done hk) (by omega), Option.bind_some]
      rw [decide_eq_false h5, portreevelaw03_DiskDoes.j0, if_neg (by simp), write_own S W a b (by omega) (by omega), Option.bind_some, rwrite S W a b (by omega), Option.bind_some]
      have hD2 : RD (if 0 ≤ a ∧ a ≤ 63 ∧ b.length = 128 then (S, W ++ [⟨a, b⟩], 0) else (S, W, (1 : Int))).1 (if 0 ≤ a ∧ a ≤ 63 ∧ b.length = 128 then (S, W ++ [⟨a, b⟩], 0) else (S, W, (1 : Int))).2.1 := by
        split
        · next h6 =>
          refine ⟨hD.s64, hD.s128, fun w hw => ?_, by simp only [List.length_append, List.length_singleton]; omega⟩
          simp only [List.mem_append, List.mem_singleton] at hw
          rcases hw with hw | rfl
          · exact hD.fit w hw
          · exact h6
        · exact hD
      by_cases h6 : 0 ≤ a ∧ a < 64
      · have hl : (lk (rd_L2 S a) a W).length = 128 := by
          obtain ⟨n, rfl⟩ : ∃ n : Nat, a = n := ⟨a.toNat, by omega⟩
          rw [← dn_get W S n (by rw [hD.s64]; omega) hD.fit]
          exact (hD.done hD.fit).get n (by omega)
        rw [read_own _ hD a h6.1 h6.2 (by omega), Option.bind_some, rread _ hD a h6.1 h6.2 (by omega), Option.bind_some, same_own _ hD2 (by omega), Option.bind_some, if_pos rfl, if_pos rfl, row _ _ _ (Nat.le_trans (Nat.le_of_eq hl) (by omega)) (Nat.lt_of_le_of_lt (Nat.le_of_eq hl) (by omega)), Option.bind_some, if_pos (by simp)]
        exact hj1
      · rw [read_out _ S W a (by omega) (by omega), Option.bind_some, rread_out _ S W a (by omega) (by omega), Option.bind_some, same_own _ hD2 (by omega), Option.bind_some, if_pos rfl, if_pos rfl, row _ _ _ (by simp) (by simp), Option.bind_some, if_pos (by simp)]
        exact hj1
    · rw [if_neg hr]; exact hj
end Go.Proofs.Ytnhfhepakimncaa.Pure
