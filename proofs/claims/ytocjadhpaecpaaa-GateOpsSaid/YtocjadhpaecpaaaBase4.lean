/- Who has failed, behind a failure. -/
import Derived.Test.YtocjadhpaecpaaaQx0
import Derived.Test.YtocjadhpaecpaaaQx6
import Derived.Test.YtocjadhpaecpaaaPureKit
import Derived.Test.YtocjadhpaecpaaaBase3
namespace Go.Proofs.Ytocjadhpaecpaaa.Pure
set_option linter.unusedVariables false
open Go Go.RowKit Go.Proofs.Ytocjadhpaecpaaa.Q Go.Proofs.YtocjadhpaecpaaaK Go.Proofs.YtocjadhpaecpaaaW.PrintWords Go.Proofs.YtocjadhpaecpaaaW.PrintLast Go.Proofs.YtocjadhpaecpaaaW.PrintMore

theorem ix_none (u : ByteArray) : ∀ L : List S64, ix u L = none → L.filter (gate_Failed.hit u) = []
  | [], _ => rfl
  | x :: t, h => by
    unfold ix at h
    split at h
    · cases h
    · next hx =>
      have ht : ix u t = none := by rcases hm : ix u t with _ | m; rfl; rw [hm] at h; cases h
      rw [List.filter_cons_of_neg (by unfold gate_Failed.hit; simpa using hx), ix_none u t ht]
theorem ix_take (u : ByteArray) : ∀ (L : List S64) (n : Nat), ix u L = some n → (L.take n).filter (gate_Failed.hit u) = []
  | [], n, h => by simp [ix] at h
  | x :: t, n, h => by
    unfold ix at h
    split at h
    · obtain rfl := Option.some.inj h; rfl
    · next hx =>
      rcases hm : ix u t with _ | m
      · rw [hm] at h; cases h
      · rw [hm] at h
        obtain rfl : m + 1 = n := by simpa using h
        rw [List.take_succ_cons, List.filter_cons_of_neg (by unfold gate_Failed.hit; simpa using hx), ix_take u t m hm]
theorem FL_none {u : ByteArray} {L : List S64} (h : ix u L = none) : FL L u = (0, 0) := by
  unfold FL
  rw [ix_none u L h]
  rfl
theorem FL_at (u : ByteArray) (A B : List S64) (y : S64) (hA : A.filter (gate_Failed.hit u) = []) (hy : y.f0.toList = u.toList) : FL (A ++ y :: B) u = (y.f1, y.f2) := by
  unfold FL
  rw [List.filter_append, hA, List.nil_append, List.filter_cons_of_pos (by unfold gate_Failed.hit; simpa using hy)]
  rfl
theorem FL_some {u : ByteArray} {L : List S64} {n : Nat} (h : ix u L = some n) : FL L u = ((rd_T64 L (n : Int)).f1, (rd_T64 L (n : Int)).f2) := by
  obtain ⟨hn, hm⟩ := ix_lt u L n h
  rw [F_lt L n hn]
  conv => lhs; rw [split_at L n hn]
  exact FL_at u _ _ _ (ix_take u L n h) hm
/-- A failure counts one more, and is the last one. -/
theorem ap_fail {L : List S64} (u : ByteArray) (t : Int) (ht : (FL L u).2 ≤ t) (h : (ap L 4 u t).2 = 0) : FL (ap L 4 u t).1 u = (min 255 ((FL L u).1 + 1), t) := by
  unfold ap at h ⊢
  rcases hx : ix u L with _ | n
  · rw [hx] at h
    simp only [show ¬ (4 : Int) = 5 by omega, if_false] at h ⊢
    by_cases h8 : L.length = 8
    · rw [if_pos h8] at h; exact absurd (show (4 : Int) = 0 from h) (by decide)
    · rw [if_neg h8]
      rw [FL_none hx]
      exact FL_at u L [] ⟨u, 1, t⟩ (ix_none u L hx) rfl
  · obtain ⟨hn, hm⟩ := ix_lt u L n hx
    rw [hx] at h
    simp only [show ¬ (4 : Int) = 5 by omega, if_false] at h ⊢
    rw [FL_some hx] at ht ⊢
    rw [if_neg (show ¬ (rd_T64 L (n : Int)).f2 > t by simp only at ht; omega)]
    show FL (L.set n ⟨u, min 255 ((rd_T64 L (n : Int)).f1 + 1), t⟩) u = _
    rw [List.set_eq_take_append_cons_drop, if_pos hn]
    exact FL_at u _ _ ⟨u, _, t⟩ (ix_take u L n hx) rfl
theorem ap_bad {L : List S64} (u : ByteArray) (t : Int) (ht : (FL L u).2 ≤ t) (h : (ap L 4 u t).2 ≠ 0) : L.length = 8 := by
  unfold ap at h
  rcases hx : ix u L with _ | n
  · rw [hx] at h
    simp only [show ¬ (4 : Int) = 5 by omega, if_false] at h
    by_cases h8 : L.length = 8
    · exact h8
    · rw [if_neg h8] at h; exact absurd rfl h
  · rw [hx] at h
    rw [FL_some hx] at ht
    simp only [show ¬ (4 : Int) = 5 by omega, if_false] at h
    rw [if_neg (show ¬ (rd_T64 L (n : Int)).f2 > t by simp only at ht; omega)] at h
    exact absurd rfl h
end Go.Proofs.Ytocjadhpaecpaaa.Pure
