/- What a verdict is, over plain rows. -/
import Derived.Test.YtocjadhpaecpaaaQx0
import Derived.Test.YtocjadhpaecpaaaQx6
import Derived.Test.YtocjadhpaecpaaaQx7
import Derived.Test.YtocjadhpaecpaaaQx8
import Derived.Test.YtocjadhpaecpaaaQx9
import Derived.Test.YtocjadhpaecpaaaQx10
import Derived.Test.YtocjadhpaecpaaaPureKit
import Derived.Test.YtocjadhpaecpaaaBase
namespace Go.Proofs.Ytocjadhpaecpaaa.Pure
set_option linter.unusedVariables false
open Go Go.RowKit Go.Proofs.Ytocjadhpaecpaaa.Q Go.Proofs.YtocjadhpaecpaaaK Go.Proofs.YtocjadhpaecpaaaW.PrintWords Go.Proofs.YtocjadhpaecpaaaW.PrintLast Go.Proofs.YtocjadhpaecpaaaW.PrintMore

theorem user_own (u : ByteArray) (h0 : 1 ≤ u.size) (h1 : u.size ≤ 16) : book_isUser.f u = some true := by
  unfold book_isUser.f
  have hne : u.toList ≠ [] := by
    intro h
    rw [ByteArray.toList_eq] at h
    have := congrArg List.length h
    rw [Array.length_toList] at this
    have hs : u.data.size = u.size := rfl
    simp only [List.length_nil] at this
    omega
  rw [if_neg hne, decide_eq_true (by omega)]
theorem may1_own (k : Nat) (kd : Int) (u : ByteArray) (t : Int) (hk : 2 ≤ k) (hd : kd = 4 ∨ kd = 5) (h0 : 1 ≤ u.size) (h1 : u.size ≤ 16) (t0 : 0 ≤ t) (t1 : t ≤ 1000000000) : gate_may.f k [(⟨kd, 0, 0, 0, u, 0, 0, 0, t⟩ : S41)] = some [⟨kd, 0, 0, 0, u, 0, 0, 0, t⟩] := by
  obtain ⟨k, rfl⟩ : ∃ m, k = m + 2 := ⟨k - 2, by omega⟩
  have hm : gate_may_1.f (k + 1) kd 0 0 0 u 0 0 0 t = some false := by
    unfold gate_may_1.f book_May.f
    rw [if_pos (by omega), decide_eq_true (show kd ≤ 6 by omega), book_May.j0, if_pos rfl]
    unfold book_between.f
    rw [if_pos (by omega), Option.bind_some, if_pos (by decide), if_pos (by omega), Option.bind_some, if_pos (by decide), if_pos t0, decide_eq_true t1, Option.bind_some, if_pos rfl, if_pos (by omega), Option.bind_some, if_pos (by decide), user_own u h0 h1, Option.bind_some, Option.bind_some]
    rfl
  have hi : api_Op_37.f (k + 2) [(⟨kd, 0, 0, 0, u, 0, 0, 0, t⟩ : S41)] = some (-1) := by
    unfold api_Op_37.f
    rw [api_Op_37.l0, if_pos (by simp), if_pos (by omega), if_pos (by simp), show rd_T41 [(⟨kd, 0, 0, 0, u, 0, 0, 0, t⟩ : S41)] 0 = ⟨kd, 0, 0, 0, u, 0, 0, 0, t⟩ from rfl]
    simp only []
    rw [hm, Option.bind_some, if_neg (by simp), w64 (by omega) (by omega), api_Op_37.l0, if_neg (by simp)]
  unfold gate_may.f api_Op_31.f
  rw [hi, Option.bind_some, if_pos rfl, Option.bind_some]

theorem FL_range {L : List S64} (h : LL L) (u : ByteArray) : (0 ≤ (FL L u).1 ∧ (FL L u).1 ≤ 255) ∧ 0 ≤ (FL L u).2 ∧ (FL L u).2 ≤ 1000000000 := by
  unfold FL gate_Failed.resL
  rcases hf : L.filter (gate_Failed.hit u) with _ | ⟨x, t⟩
  · exact ⟨⟨by decide, by decide⟩, by decide, by decide⟩
  · have hx : x ∈ L := (List.mem_filter.1 (by rw [hf]; simp)).1
    have := h x hx
    show (0 ≤ x.f1 ∧ x.f1 ≤ 255) ∧ 0 ≤ x.f2 ∧ x.f2 ≤ 1000000000
    exact ⟨⟨by omega, by omega⟩, by omega, by omega⟩
theorem mx_own (a b : Int) : mx a b = max a b := by
  unfold mx
  split <;> omega
/-- A verdict. -/
def VD (L : List S64) (u : ByteArray) (known good : Bool) (now : Int) : Bool × List S41 :=
  if known = false ∨ now < UL L u then (false, []) else if good = true then (if (FL L u).1 = 0 then (true, []) else (true, [⟨5, 0, 0, 0, u, 0, 0, 0, 0⟩])) else (false, [⟨4, 0, 0, 0, u, 0, 0, 0, max now (FL L u).2⟩])
theorem verdict_own (k : Nat) (a : Int) (O : List S76) (W : List S72) {L : List S64} (u : ByteArray) (known good : Bool) (now : Int) (hL : L.length ≤ 1000000) (hLL : LL L) (h0 : 1 ≤ u.size) (h1 : u.size ≤ 16) (t0 : 0 ≤ now) (t1 : now ≤ 1000000000) (hk : 10 ≤ k) :
    gate_Verdict.f k a O W L u known good now = some (VD L u known good now) := by
  obtain ⟨k, rfl⟩ : ∃ m, k = m + 2 := ⟨k - 2, by omega⟩
  have hr := FL_range hLL u
  unfold gate_Verdict.f VD
  rw [failed_own a O W L u hL, Option.bind_some, locked_own a O W L u now hL]
  cases known with
  | false => rw [if_neg (by simp), if_pos (Or.inl rfl), gate_Verdict.j0, if_pos rfl]
  | true =>
    rw [if_pos rfl, Option.bind_some, gate_Verdict.j0]
    by_cases hl : now < UL L u
    · rw [if_pos (decide_eq_true hl), if_pos (Or.inr hl)]
    · have hx : ¬ (true = false ∨ now < UL L u) := by simp [hl]
      rw [if_neg (show ¬ decide (now < UL L u) = true by simpa using hl), if_neg hx]
      cases good with
      | true =>
        rw [if_pos rfl, if_pos rfl, gate_Verdict.j1]
        by_cases hn : (FL L u).1 = 0
        · rw [if_pos (show ((FL L u).1 == 0) = true by simp [hn]), if_pos hn]
        · rw [if_neg (show ¬ ((FL L u).1 == 0) = true by simp [hn]), if_neg hn, if_pos rfl, may1_own k 5 u 0 (by omega) (Or.inr rfl) h0 h1 (by omega) (by omega), Option.bind_some]
      | false =>
        rw [if_neg (show ¬ false = true by simp), if_neg (show ¬ false = true by simp), gate_Verdict.j1, if_neg (show ¬ false = true by simp), if_neg (show ¬ false = true by simp), mx_own, may1_own k 4 u _ (by omega) (Or.inl rfl) h0 h1 (by omega) (by omega), Option.bind_some]
end Go.Proofs.Ytocjadhpaecpaaa.Pure
