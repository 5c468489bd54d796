/- What is counted, and what an interim and a stop do to a right book, over plain rows. -/
import Derived.Test.YtlimlbhhbjaljaaQx0
import Derived.Test.YtlimlbhhbjaljaaQx3
import Derived.Test.YtlimlbhhbjaljaaQx4
import Derived.Test.YtlimlbhhbjaljaaQx6
import Derived.Test.YtlimlbhhbjaljaaQx12
import Derived.Test.YtlimlbhhbjaljaaQx18
import Derived.Test.YtlimlbhhbjaljaaQx19
import Derived.Test.YtlimlbhhbjaljaaQx21
import Derived.Test.YtlimlbhhbjaljaaQx23
import Derived.Test.YtlimlbhhbjaljaaPureKit
import Derived.Test.YtlimlbhhbjaljaaBook
namespace Go.Proofs.Ytlimlbhhbjaljaa.Pure
set_option linter.unusedVariables false
open Go Go.RowKit Go.Proofs.Ytlimlbhhbjaljaa.Q Go.Proofs.YtlimlbhhbjaljaaK Go.Proofs.YtlimlbhhbjaljaaW.PrintWords Go.Proofs.YtlimlbhhbjaljaaW.PrintLast Go.Proofs.YtlimlbhhbjaljaaW.PrintMore

theorem shown_true : portreevelaw17_shown.f 10 = some true := by decide +kernel

/-- A sum that stays at its end. -/
def top (a n : Int) : Int := if n ≤ 0 then a else if a + n > 18446744073709551615 then 18446744073709551615 else a + n

theorem count1 (a n : Int) (h0 : 0 ≤ a) (h1 : a ≤ 18446744073709551615) (h2 : -9223372036854775808 ≤ n) (h3 : n ≤ 9223372036854775807) : meter_Count_1.f a n = some (top a n) := by
  unfold meter_Count_1.f mx top
  simp only [wu64]
  by_cases hn : n ≤ 0
  · by_cases h : n < 0
    · rw [if_pos h, if_pos hn, if_neg (by omega)]
      congr 1
      omega
    · rw [if_neg h, if_pos hn, if_neg (by omega)]
      congr 1
      omega
  · rw [if_neg (show ¬ n < 0 by omega), if_neg hn]
    by_cases h : a + n > 18446744073709551615
    · rw [if_pos h, if_pos (by omega)]
    · rw [if_neg h, if_neg (by omega)]
      congr 1
      omega

theorem top_bd (a n : Int) (h0 : 0 ≤ a) (h1 : a ≤ 18446744073709551615) : a ≤ top a n ∧ top a n ≤ 18446744073709551615 := by
  unfold top
  split
  · omega
  · split <;> omega

theorem count (a b c m n : Int) (ha : (Lit.int .u64 a).wf = true) (hb : (Lit.int .u64 b).wf = true) (hm : (Lit.int .i64 m).wf = true) (hn : (Lit.int .i64 n).wf = true) : meter_Count.f a b c m n = some (top a m, top b n, c) := by
  rw [wf_u64] at ha hb
  rw [wf_i64] at hm hn
  unfold meter_Count.f
  rw [count1 a m ha.1 ha.2 hm.1 hm.2, Option.bind_some, count1 b n hb.1 hb.2 hn.1 hn.2, Option.bind_some]

theorem may_note (k : Nat) (a b id : Int) : portreeveref04_May.f (k + 1) 2 id 0 0 ⟨#[45]⟩ a b 0 0 = some (decide (0 ≤ id ∧ id ≤ 1000000000)) := by
  unfold portreeveref04_May.f
  have hn : portreeveref04_name.f ⟨#[45]⟩ = some true := by decide
  rw [hn, Option.bind_some, if_neg (by decide), if_neg (by decide)]
  by_cases h0 : id < 0
  · rw [if_pos h0]
    simp only [portreeveref04_May.j0, if_true]
    congr 1
    rw [eq_comm, decide_eq_false_iff_not]
    omega
  · rw [if_neg h0]
    by_cases h1 : id > 1000000000
    · rw [if_pos h1]
      simp only [portreeveref04_May.j0, if_true]
      congr 1
      rw [eq_comm, decide_eq_false_iff_not]
      omega
    · rw [if_neg h1, if_neg (by decide)]
      simp only [portreeveref04_May.j0]
      rw [if_neg (by decide), if_pos trivial, if_pos (by decide), if_pos (by decide), if_pos (by decide)]
      congr 1
      rw [show decide ((0 : Int) ≤ 255) = true from by decide, eq_comm, decide_eq_true_eq]
      omega

theorem may_stop (k : Nat) (a b id ca : Int) : portreeveref04_May.f (k + 1) 3 id 0 0 ⟨#[45]⟩ a b ca 0 = some (decide ((0 ≤ id ∧ id ≤ 1000000000) ∧ 0 ≤ ca ∧ ca ≤ 255)) := by
  unfold portreeveref04_May.f
  have hn : portreeveref04_name.f ⟨#[45]⟩ = some true := by decide
  rw [hn, Option.bind_some, if_neg (by decide), if_neg (by decide)]
  by_cases h0 : id < 0
  · rw [if_pos h0]
    simp only [portreeveref04_May.j0, if_true]
    congr 1
    rw [eq_comm, decide_eq_false_iff_not]
    omega
  · rw [if_neg h0]
    by_cases h1 : id > 1000000000
    · rw [if_pos h1]
      simp only [portreeveref04_May.j0, if_true]
      congr 1
      rw [eq_comm, decide_eq_false_iff_not]
      omega
    · rw [if_neg h1, if_neg (by decide)]
      simp only [portreeveref04_May.j0]
      rw [if_neg (by decide), if_pos trivial, if_pos (by decide), if_pos (by decide)]
      by_cases h2 : ca ≥ 0
      · rw [if_pos h2]
        congr 1
        rw [decide_eq_decide]
        omega
      · rw [if_neg h2]
        congr 1
        rw [eq_comm, decide_eq_false_iff_not]
        omega

theorem Of_at (k : Nat) (a : Int) (O : List S51) (W : List S56) (L : List S68) (m : Nat) (hO : O.length ≤ 1000) (hm : m < O.length) (hok : ∀ j, j < O.length → OK a O j) (hk : 1002 ≤ k) : portreeveref04_Of.f k a O W L (rd_T51 O (m : Int)).f0 = some (m : Int) :=
  of_at _ a O W L hO m hm rfl m k 0 (by omega) (by omega) (fun j _ hj => OK_ne hok (by omega) hm (by omega))
theorem counted3 (k : Nat) (a : Int) (O : List S51) (W : List S56) (L : List S68) (m : Nat) (hO : W.length + O.length ≤ 60) (hm : m < O.length) (hok : ∀ j, j < O.length → OK a O j) (user : ByteArray) (u v c : Int) (hu : (rd_T51 O (m : Int)).f4 ≤ u) (hv : (rd_T51 O (m : Int)).f5 ≤ v) (hk : 1002 ≤ k) :
    portreeveref04_counted.f k a O W L 3 (rd_T51 O (m : Int)).f0 0 0 user u v c 0 = some (a, O.take m ++ O.drop (m + 1), W ++ [(⟨3, (rd_T51 O (m : Int)).f0, u, v, c⟩ : S56)], L, 0) := by
  obtain ⟨k, rfl⟩ : ∃ q, k = q + 1 := ⟨k - 1, by omega⟩
  unfold portreeveref04_counted.f
  rw [Of_at (k + 1) a O W L m (by omega) hm hok hk, Option.bind_some, if_neg (by omega), if_pos (by omega), if_pos (by omega), if_neg (by omega), decide_eq_false (by omega), portreeveref04_counted.j0, if_neg (by decide), if_pos rfl]
  have e1 : wrap64 ((m : Int) + 1) = ((m + 1 : Nat) : Int) := by rw [w64 (by omega) (by omega)]; omega
  unfold portreeveref04_With.f
  simp only [Option.bind_some, List.nil_append, List.length_nil, e1, Int.toNat_natCast, List.length_take, List.length_drop, List.length_append, List.length_cons, Nat.zero_add]
  repeat rw [if_pos (by omega)]
  rw [Option.bind_some]
  repeat rw [if_pos (by omega)]
theorem counted2 (k : Nat) (a : Int) (O : List S51) (W : List S56) (L : List S68) (m : Nat) (hO : W.length + O.length ≤ 60) (hm : m < O.length) (hok : ∀ j, j < O.length → OK a O j) (user : ByteArray) (u v c : Int) (hu : (rd_T51 O (m : Int)).f4 ≤ u) (hv : (rd_T51 O (m : Int)).f5 ≤ v) (hk : 1002 ≤ k) :
    portreeveref04_counted.f k a O W L 2 (rd_T51 O (m : Int)).f0 0 0 user u v c 0 = if W.length + O.length = 60 then some (a, O, W, L, 4) else some (a, O.set m (⟨(rd_T51 O (m : Int)).f0, (rd_T51 O (m : Int)).f1, (rd_T51 O (m : Int)).f2, (rd_T51 O (m : Int)).f3, u, v⟩ : S51), W ++ [(⟨2, (rd_T51 O (m : Int)).f0, u, v, 0⟩ : S56)], L, 0) := by
  obtain ⟨k, rfl⟩ : ∃ q, k = q + 1 := ⟨k - 1, by omega⟩
  unfold portreeveref04_counted.f
  rw [Of_at (k + 1) a O W L m (by omega) hm hok hk, Option.bind_some, if_neg (by omega), if_pos (by omega), if_pos (by omega), if_neg (by omega), decide_eq_false (by omega), portreeveref04_counted.j0, if_neg (by decide), if_neg (by decide)]
  have e0 : wrap64 ((W.length : Int) + (O.length : Int)) = (W.length : Int) + (O.length : Int) := w64 (by omega) (by omega)
  have e1 : wrap64 (wrap64 ((W.length : Int) + (O.length : Int)) + 1) = ((W.length + O.length + 1 : Nat) : Int) := by rw [e0, w64 (by omega) (by omega)]; omega
  rw [e1]
  by_cases h : W.length + O.length = 60
  · rw [if_pos h, if_pos (by omega)]
  · rw [if_neg h, if_neg (by omega)]
    unfold portreeveref04_With.f
    simp only [Option.bind_some, List.nil_append, List.length_nil, Int.toNat_natCast, List.length_append, List.length_cons, Nat.zero_add]
    repeat rw [if_pos (by omega)]
    rw [Option.bind_some]
    repeat rw [if_pos (by omega)]
theorem apply3 (k : Nat) (a : Int) (O : List S51) (W : List S56) (L : List S68) (m : Nat) (ha : 0 ≤ a ∧ a ≤ 1000000000) (hO : W.length + O.length ≤ 60) (hm : m < O.length) (hok : ∀ j, j < O.length → OK a O j) (u v c : Int) (hc : 0 ≤ c ∧ c ≤ 255) (hu : (rd_T51 O (m : Int)).f4 ≤ u) (hv : (rd_T51 O (m : Int)).f5 ≤ v) (hk : 1010 ≤ k) :
    portreeveref04_Apply.f k a O W L 3 (rd_T51 O (m : Int)).f0 0 0 ⟨#[45]⟩ u v c 0 = some (a, O.take m ++ O.drop (m + 1), W ++ [(⟨3, (rd_T51 O (m : Int)).f0, u, v, c⟩ : S56)], L, 0) := by
  obtain ⟨k, rfl⟩ : ∃ q, k = q + 1 := ⟨k - 1, by omega⟩
  have h1 := hok m hm
  unfold OK at h1
  unfold portreeveref04_Apply.f
  rw [may_stop, Option.bind_some, decide_eq_true (by omega), if_pos rfl, if_neg (by decide), if_neg (by decide), portreeveref04_Apply.j0, if_pos (by decide), counted3 k a O W L m hO hm hok ⟨#[45]⟩ u v c hu hv (by omega), Option.bind_some]
theorem apply2 (k : Nat) (a : Int) (O : List S51) (W : List S56) (L : List S68) (m : Nat) (ha : 0 ≤ a ∧ a ≤ 1000000000) (hO : W.length + O.length ≤ 60) (hm : m < O.length) (hok : ∀ j, j < O.length → OK a O j) (u v : Int) (hu : (rd_T51 O (m : Int)).f4 ≤ u) (hv : (rd_T51 O (m : Int)).f5 ≤ v) (hk : 1010 ≤ k) :
    portreeveref04_Apply.f k a O W L 2 (rd_T51 O (m : Int)).f0 0 0 ⟨#[45]⟩ u v 0 0 = if W.length + O.length = 60 then some (a, O, W, L, 4) else some (a, O.set m (⟨(rd_T51 O (m : Int)).f0, (rd_T51 O (m : Int)).f1, (rd_T51 O (m : Int)).f2, (rd_T51 O (m : Int)).f3, u, v⟩ : S51), W ++ [(⟨2, (rd_T51 O (m : Int)).f0, u, v, 0⟩ : S56)], L, 0) := by
  obtain ⟨k, rfl⟩ : ∃ q, k = q + 1 := ⟨k - 1, by omega⟩
  have h1 := hok m hm
  unfold OK at h1
  unfold portreeveref04_Apply.f
  rw [may_note, Option.bind_some, decide_eq_true (by omega), if_pos rfl, if_neg (by decide), if_pos rfl, portreeveref04_Apply.j0, if_pos (by decide), counted2 k a O W L m hO hm hok ⟨#[45]⟩ u v 0 hu hv (by omega)]
  split <;> rfl
/-- Behind a stop the session is nowhere. -/
theorem of_gone (k : Nat) (a : Int) (O : List S51) (W : List S56) (L : List S68) (m : Nat) (hO : O.length ≤ 60) (hm : m < O.length) (hok : ∀ j, j < O.length → OK a O j) (hk : 1010 ≤ k) : portreeveref04_Of.f k a (O.take m ++ O.drop (m + 1)) W L (rd_T51 O (m : Int)).f0 = some (-1) := by
  have hl : (O.take m ++ O.drop (m + 1)).length = O.length - 1 := by rw [List.length_append, List.length_take, List.length_drop]; omega
  refine of_none _ a _ W L (by omega) (O.length - 1) k 0 (by omega) (by omega) (fun j _ hj => ?_)
  rw [O_lt _ j hj]
  rcases Nat.lt_or_ge j m with h | h
  · rw [List.getElem_append_left (by rw [List.length_take]; omega), List.getElem_take, ← O_lt O j (by omega)]
    exact OK_ne hok (by omega) hm (by omega)
  · rw [List.getElem_append_right (by rw [List.length_take]; omega), List.getElem_drop]
    have : m + 1 + (j - (O.take m).length) = j + 1 := by rw [List.length_take]; omega
    simp only [this]
    rw [← O_lt O (j + 1) (by omega)]
    exact OK_ne hok (by omega) hm (by omega)
end Go.Proofs.Ytlimlbhhbjaljaa.Pure
