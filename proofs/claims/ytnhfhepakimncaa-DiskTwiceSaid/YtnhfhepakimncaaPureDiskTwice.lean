/- A crash behind a crash changes nothing, nor does a flush; what is kept of more is what is kept of less. -/
import Derived.Test.YtnhfhepakimncaaSayDiskTwice
import Derived.Test.YtnhfhepakimncaaBase
import Derived.Test.YtnhfhepakimncaaBase2
import Derived.Test.YtnhfhepakimncaaRow
namespace Go.Proofs.Ytnhfhepakimncaa.Pure
set_option linter.unusedVariables false
open Go Go.RowKit Go.Proofs.Ytnhfhepakimncaa.Q Go.Proofs.YtnhfhepakimncaaK Go.Proofs.YtnhfhepakimncaaW.PrintWords Go.Proofs.YtnhfhepakimncaaW.PrintLast Go.Proofs.YtnhfhepakimncaaW.PrintMore

theorem DiskTwice : portreevelaw03_DiskTwice.Pure := by
  intro S W ks ag hS hW hks hag
  refine ⟨9000, ?_⟩
  obtain ⟨sm, h1, h2⟩ := small_own 9000 S W (by omega)
  have hj : portreevelaw03_DiskTwice.j0 9000 ks ag true true S W = some true := by rw [portreevelaw03_DiskTwice.j0, if_pos rfl]
  unfold portreevelaw03_DiskTwice.f
  rw [shown_true _ (by omega), Option.bind_some, h1, Option.bind_some]
  cases sm with
  | false => rw [if_neg (by simp)]; exact hj
  | true =>
    have h3 := h2 rfl
    rw [if_pos rfl, right_own _ S W (by omega) (by omega), Option.bind_some]
    by_cases hr : (S.length == 64 && (okS S && okW W)) = true
    · have hD := RD_of (by omega) hr
      rw [if_pos hr]
      by_cases g1 : (ks.length : Int) > 100
      · rw [if_pos g1]; exact hj
      by_cases g2 : (ag.length : Int) > 100
      · rw [if_neg g1, decide_eq_true g2]; exact hj
      have hC := hD.done (kp_fit hD.fit ks)
      have e1 : kp ag ([] : List S47) = [] := by cases ag <;> rfl
      rw [if_neg g1, decide_eq_false g2, portreevelaw03_DiskTwice.j0, if_neg (by simp), crash_own _ hD ks (by omega) (by omega), Option.bind_some, Option.bind_some, if_pos (by simp only [List.length_nil]; omega), Option.bind_some, if_pos (by simp only [List.length_append, List.length_nil]; omega), if_pos rfl, crash_own _ hC ag (by omega) (by omega), Option.bind_some, e1, dn, same_own _ hC (by omega), Option.bind_some, if_pos rfl, flush_own _ hC (by omega), Option.bind_some, dn, same_own _ hC (by omega), Option.bind_some, if_pos rfl, List.nil_append, crash_own _ hD (ks ++ List.replicate 100 false) (by simp only [List.length_append, List.length_replicate]; omega) (by omega), Option.bind_some, kp_more, same_own _ hC (by omega), Option.bind_some, if_pos rfl, dright_true _ hC (by omega), Option.bind_some]
    · rw [if_neg hr]; exact hj
end Go.Proofs.Ytnhfhepakimncaa.Pure
