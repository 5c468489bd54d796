/- A flag lets all begin anew. -/
import Derived.Test.YtdmhamnnadegnaaSayStuffAnew
import Derived.Test.YtdmhamnnadegnaaBase
import Derived.Test.YtdmhamnnadegnaaBase2
import Derived.Test.YtdmhamnnadegnaaShown
import Derived.Test.YtdmhamnnadegnaaBase3
namespace Go.Proofs.Ytdmhamnnadegnaa.Pure
set_option linter.unusedVariables false
open Go Go.RowKit Go.Proofs.Ytdmhamnnadegnaa.Q Go.Proofs.YtdmhamnnadegnaaK Go.Proofs.YtdmhamnnadegnaaW.PrintWords Go.Proofs.YtdmhamnnadegnaaW.PrintLast Go.Proofs.YtdmhamnnadegnaaW.PrintMore

theorem anew_l0 (e : List Int) (he : e.length ≤ 500) (hB : B e) : ∀ (d k i : Nat) (l : List Int) (long : Bool), i + d = e.length → B l → Ri l long → 2 * d + 2000 ≤ k → portreevelaw07_StuffAnew.l0 k e true (i : Int) l long l long = some true
  | 0, k, i, l, long, hd, hb, hr, hk => by
    obtain ⟨k, rfl⟩ : ∃ m, k = m + 1 := ⟨k - 1, by omega⟩
    rw [portreevelaw07_StuffAnew.l0, if_neg (by omega)]
  | d + 1, k, i, l, long, hd, hb, hr, hk => by
    obtain ⟨k, rfl⟩ : ∃ m, k = m + 2 := ⟨k - 2, by omega⟩
    have hi : i < e.length := by omega
    have hf := fd_length l long e[i] hr.1
    have h1 := hr.1
    have ih := anew_l0 e he hB d k (i + 1) _ _ (by omega) (fd_B (long := long) hb (rdB hB i hi)) (fd_right e[i] hr) (by omega)
    rw [portreevelaw07_StuffAnew.l0, if_pos (by omega), if_pos (by omega), rd_lt e i hi, feed_own _ l long e[i] hb (by omega) (by omega), Option.bind_some, Option.bind_some, if_neg (by simp), row _ _ _ (by omega) (by omega), Option.bind_some, if_pos (by simp), rsame _ _ _ _ _ (by omega) (by omega), Option.bind_some, portreevelaw07_StuffAnew.j2, if_neg (by simp), w64 (by omega) (by omega), show ((i : Int) + 1) = ((i + 1 : Nat) : Int) by omega]
    exact ih

theorem StuffAnew : portreevelaw07_StuffAnew.Pure := by
  intro l a e hl he
  refine ⟨40000, ?_⟩
  have hB := B_of hl.2
  have hE := B_of he.2
  unfold portreevelaw07_StuffAnew.f
  rw [shown_true _ (by omega), Option.bind_some, right_own _ l a (by omega) (by omega), Option.bind_some]
  by_cases h : l.length ≤ 1508 ∧ (a = true → l.length = 0) ∧ 126 ∉ l
  · rw [if_pos (decide_eq_true h)]
    by_cases h2 : (e.length : Int) > 500
    · rw [decide_eq_true h2, portreevelaw07_StuffAnew.j0, if_pos rfl]
    have hf := fd_flag l a
    rw [decide_eq_false h2, portreevelaw07_StuffAnew.j0, if_neg (by simp), feed_own _ l a 126 hB (by omega) (by omega), Option.bind_some, hf.1, hf.2, rsame _ _ _ _ _ (by simp) (by simp), Option.bind_some, if_pos (by simp)]
    exact anew_l0 e (by omega) hE e.length _ 0 [] false (by omega) (by intro c hc; simp at hc) ⟨by simp, by simp, by simp⟩ (by omega)
  · rw [if_neg (by rw [decide_eq_false h]; simp), portreevelaw07_StuffAnew.j0, if_pos rfl]
end Go.Proofs.Ytdmhamnnadegnaa.Pure
