/- What the meter's functions compute, over plain numbers. -/
import Derived.Test.YtlimlbhhbjaljaaQx3
import Derived.Test.YtlimlbhhbjaljaaQx4
import Derived.Test.YtlimlbhhbjaljaaPureKit
namespace Go.Proofs.Ytlimlbhhbjaljaa.Pure
set_option linter.unusedVariables false
open Go Go.RowKit Go.Proofs.Ytlimlbhhbjaljaa.Q Go.Proofs.YtlimlbhhbjaljaaK Go.Proofs.YtlimlbhhbjaljaaW.PrintWords Go.Proofs.YtlimlbhhbjaljaaW.PrintLast Go.Proofs.YtlimlbhhbjaljaaW.PrintMore

theorem shown_true : portreevelaw17_shown.f 10 = some true := by decide +kernel

/-- A sum that stays at its end. -/
def top (a n : Int) : Int := if n ≤ 0 then a else if a + n > 18446744073709551615 then 18446744073709551615 else a + n

theorem count1 (a n : Int) (h0 : 0 ≤ a) (h1 : a ≤ 18446744073709551615) (h2 : -9223372036854775808 ≤ n) (h3 : n ≤ 9223372036854775807) : meter_Count_1.f a n = some (top a n) := by
  unfold meter_Count_1.f mx top
  simp only [wu64]
  by_cases hn : n ≤ 0
  · by_cases h : n < 0
    · rw [if_pos h, if_pos hn, if_neg (by omega)]
      congr 1
      omega
    · rw [if_neg h, if_pos hn, if_neg (by omega)]
      congr 1
      omega
  · rw [if_neg (show ¬ n < 0 by omega), if_neg hn]
    by_cases h : a + n > 18446744073709551615
    · rw [if_pos h, if_pos (by omega)]
    · rw [if_neg h, if_neg (by omega)]
      congr 1
      omega

theorem more1 (a n : Int) (h0 : 0 ≤ a) (h1 : a ≤ 18446744073709551615) (h2 : -9223372036854775808 ≤ n) (h3 : n ≤ 9223372036854775807) : portreeveref17_more.f a n = some (top a n) := by
  unfold portreeveref17_more.f top
  simp only [wu64]
  by_cases hn : n ≤ 0
  · rw [if_pos hn, if_pos hn]
  · rw [if_neg hn, if_neg hn]
    by_cases h : a + n > 18446744073709551615
    · rw [if_pos h, if_pos (by omega)]
    · rw [if_neg h, if_neg (by omega)]
      congr 1
      omega

theorem top_bd (a n : Int) (h0 : 0 ≤ a) (h1 : a ≤ 18446744073709551615) : a ≤ top a n ∧ top a n ≤ 18446744073709551615 := by
  unfold top
  split
  · omega
  · split <;> omega

theorem count (a b c m n : Int) (ha : (Lit.int .u64 a).wf = true) (hb : (Lit.int .u64 b).wf = true) (hm : (Lit.int .i64 m).wf = true) (hn : (Lit.int .i64 n).wf = true) : meter_Count.f a b c m n = some (top a m, top b n, c) := by
  rw [wf_u64] at ha hb
  rw [wf_i64] at hm hn
  unfold meter_Count.f
  rw [count1 a m ha.1 ha.2 hm.1 hm.2, Option.bind_some, count1 b n hb.1 hb.2 hn.1 hn.2, Option.bind_some]

theorem count_ref (a b c m n : Int) (ha : (Lit.int .u64 a).wf = true) (hb : (Lit.int .u64 b).wf = true) (hm : (Lit.int .i64 m).wf = true) (hn : (Lit.int .i64 n).wf = true) : portreeveref17_Count.f a b c m n = some (top a m, top b n, c) := by
  rw [wf_u64] at ha hb
  rw [wf_i64] at hm hn
  unfold portreeveref17_Count.f
  rw [more1 a m ha.1 ha.2 hm.1 hm.2, Option.bind_some, more1 b n hb.1 hb.2 hn.1 hn.2, Option.bind_some]

/-- A tick of what is right. -/
def tk (c : Int) : Int × Bool := if c = 0 then (0, false) else if c = 1 then (6, true) else (c - 1, false)

theorem tick (a b c : Int) (h0 : 0 ≤ c) (h1 : c ≤ 6) : meter_Tick.f a b c = some (a, b, tk c) := by
  unfold meter_Tick.f tk
  rw [w64 (by omega) (by omega)]
  by_cases h : c = 0
  · rw [if_pos h, if_pos h, h]
  · rw [if_neg h, if_neg h]
    by_cases hc : c = 1
    · rw [if_neg (by omega), if_pos hc]
    · rw [if_pos (by omega), if_neg hc]

theorem tick_ref (a b c : Int) (h0 : 0 ≤ c) (h1 : c ≤ 6) : portreeveref17_Tick.f a b c = some (a, b, tk c) := by
  unfold portreeveref17_Tick.f tk
  rw [w64 (by omega) (by omega)]
  by_cases h : c = 0
  · rw [if_pos h, if_pos h, h]
  · rw [if_neg h, if_neg h]
    by_cases hc : c = 1
    · rw [if_pos hc, if_pos hc]
    · rw [if_neg hc, if_neg hc]

theorem right_ref (a b c : Int) : portreeveref17_Right.f a b c = some (decide (0 ≤ c ∧ c ≤ 6)) := by
  unfold portreeveref17_Right.f
  by_cases h : c ≥ 0
  · rw [if_pos h]
    congr 1
    rw [decide_eq_decide]
    omega
  · rw [if_neg h]
    congr 1
    rw [eq_comm, decide_eq_false_iff_not]
    omega

theorem right_own (a b c : Int) : meter_Right.f a b c = some (decide (0 ≤ c ∧ c ≤ 6)) := right_ref a b c

theorem wf_top {a n : Int} (ha : (Lit.int .u64 a).wf = true) : (Lit.int .u64 (top a n)).wf = true := by
  rw [wf_u64] at ha ⊢
  have := top_bd a n ha.1 ha.2
  omega
end Go.Proofs.Ytlimlbhhbjaljaa.Pure
