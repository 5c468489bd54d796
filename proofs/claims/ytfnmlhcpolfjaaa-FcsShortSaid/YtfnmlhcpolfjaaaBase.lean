/- What the functions of check sequences compute, over plain numbers and rows. -/
import Derived.Test.YtfnmlhcpolfjaaaQx2
import Derived.Test.YtfnmlhcpolfjaaaQx3
import Derived.Test.YtfnmlhcpolfjaaaQx4
import Derived.Test.YtfnmlhcpolfjaaaQx5
import Derived.Test.YtfnmlhcpolfjaaaQx6
import Derived.Test.YtfnmlhcpolfjaaaQx7
import Derived.Test.YtfnmlhcpolfjaaaPureKit
import Derived.Test.YtfnmlhcpolfjaaaCrc
namespace Go.Proofs.Ytfnmlhcpolfjaaa.Pure
set_option linter.unusedVariables false
open Go Go.RowKit Go.Proofs.Ytfnmlhcpolfjaaa.Q Go.Proofs.YtfnmlhcpolfjaaaK Go.Proofs.YtfnmlhcpolfjaaaCrc Go.Proofs.YtfnmlhcpolfjaaaW.PrintWords Go.Proofs.YtfnmlhcpolfjaaaW.PrintLast Go.Proofs.YtfnmlhcpolfjaaaW.PrintMore

theorem half (n : Nat) : ((n : Int) / 2) = ((n / 2 : Nat) : Int) := by omega

/-- A bit's step, as the program has it. -/
theorem bit_own (n : Nat) (h : n < 65536) : Go.bits .xor .u16 ((n : Int) / 2) (Go.bits .and .u16 33800 (IntKind.u16.wrap (-(Go.bits .and .u16 n 1)))) = ((s1 n : Nat) : Int) := by
  rw [show (1 : Int) = ((1 : Nat) : Int) from rfl, and16 n 1 h (by omega), Nat.and_one_is_mod, half]
  unfold s1
  by_cases h1 : n % 2 = 1
  · rw [if_pos h1, h1, show IntKind.u16.wrap (-((1 : Nat) : Int)) = ((65535 : Nat) : Int) by decide, show (33800 : Int) = ((33800 : Nat) : Int) from rfl, and16 33800 65535 (by omega) (by omega), show (33800 : Nat) &&& 65535 = 33800 by decide, xor16 _ _ (by omega) (by omega)]
  · rw [if_neg h1, show n % 2 = 0 by omega, show IntKind.u16.wrap (-((0 : Nat) : Int)) = ((0 : Nat) : Int) by decide, show (33800 : Int) = ((33800 : Nat) : Int) from rfl, and16 33800 0 (by omega) (by omega), show (33800 : Nat) &&& 0 = 0 by decide, xor16 _ _ (by omega) (by omega), Nat.xor_zero]

theorem step_l0 : ∀ (j k n : Nat) (i : Int), n < 65536 → i + j = 8 → 0 ≤ i → j < k → fcs_Step.l0 k n i = some ((sn j n : Nat) : Int)
  | 0, k, n, i, hn, hi, h0, hk => by
    obtain ⟨k, rfl⟩ : ∃ m, k = m + 1 := ⟨k - 1, by omega⟩
    simp only [fcs_Step.l0]
    rw [if_neg (by omega)]
    rfl
  | j + 1, k, n, i, hn, hi, h0, hk => by
    obtain ⟨k, rfl⟩ : ∃ m, k = m + 1 := ⟨k - 1, by omega⟩
    simp only [fcs_Step.l0]
    rw [if_pos (by omega), bit_own n hn, w64 (by omega) (by omega), step_l0 j k (s1 n) (i + 1) (s1_lt hn) (by omega) (by omega) (by omega)]
    rfl

theorem step (k s c : Nat) (hs : s < 65536) (hc : c < 256) (hk : 9 ≤ k) : fcs_Step.f k s c = some ((st s c : Nat) : Int) := by
  unfold fcs_Step.f
  rw [wr_u16 _ (by omega) (by omega), xor16 s c hs (by omega), step_l0 8 k _ 0 (Nat.xor_lt_two_pow (n := 16) hs (by omega)) (by omega) (by omega) (by omega)]
  rfl

theorem on_l0 (l : List Int) (hB : B l) (hl : l.length ≤ 140737488355328) : ∀ (d k s i : Nat), i + d = l.length → s < 65536 → d + 10 ≤ k → fcs_On.l0 k s l (l.length : Int) i = some ((on s ((toN l).drop i) : Nat) : Int)
  | 0, k, s, i, hd, hs, hk => by
    obtain ⟨k, rfl⟩ : ∃ m, k = m + 1 := ⟨k - 1, by omega⟩
    simp only [fcs_On.l0]
    rw [if_neg (by omega), List.drop_eq_nil_of_le (by rw [toN_length]; omega), on_nil]
  | d + 1, k, s, i, hd, hs, hk => by
    obtain ⟨k, rfl⟩ : ∃ m, k = m + 1 := ⟨k - 1, by omega⟩
    have hi : i < l.length := by omega
    have hb := hB _ (List.getElem_mem hi)
    simp only [fcs_On.l0]
    rw [if_pos (by omega), if_pos (by omega), if_pos (by omega), rd_lt l i hi, toN_drop l i hi]
    obtain ⟨c, hc⟩ : ∃ c : Nat, l[i] = c := ⟨l[i].toNat, by omega⟩
    rw [hc, step k s c hs (by omega) (by omega), Option.bind_some, w64 (by omega) (by omega)]
    have ih := on_l0 l hB hl d k (st s c) (i + 1) (by omega) (st_lt hs (by omega)) (by omega)
    rw [show ((i : Int) + 1) = ((i + 1 : Nat) : Int) by omega, ih, Int.toNat_natCast, on_cons]

theorem on_own (k s : Nat) (l : List Int) (hB : B l) (hl : l.length ≤ 140737488355328) (hs : s < 65536) (hk : l.length + 10 ≤ k) : fcs_On.f k s l = some ((on s (toN l) : Nat) : Int) := by
  unfold fcs_On.f
  have := on_l0 l hB hl l.length k s 0 (by omega) hs hk
  simpa using this

theorem good_own (k : Nat) (l : List Int) (hB : B l) (hl : l.length ≤ 140737488355328) (hk : l.length + 10 ≤ k) : fcs_Good.f k l = some (decide (2 ≤ l.length ∧ on 65535 (toN l) = 61624)) := by
  unfold fcs_Good.f
  by_cases h : 2 ≤ l.length
  · rw [if_pos (by omega), show (65535 : Int) = ((65535 : Nat) : Int) from rfl, on_own k 65535 l hB hl (by omega) hk, Option.bind_some]
    congr 1
    rw [Bool.eq_iff_iff]
    simp [h]
    omega
  · rw [if_neg (by omega)]
    simp [h]

/-- The two bytes of a register. -/
def tail (r : Nat) : List Int := [(((65535 ^^^ r) % 256 : Nat) : Int), (((65535 ^^^ r) / 256 : Nat) : Int)]
/-- Bytes with their check sequence behind. -/
def put (l : List Int) : List Int := l ++ tail (on 65535 (toN l))

theorem B_tail {r : Nat} (h : r < 65536) : B (tail r) := by
  have hc : 65535 ^^^ r < 65536 := Nat.xor_lt_two_pow (n := 16) (by omega) h
  intro c hc'
  simp only [tail, List.mem_cons, List.not_mem_nil, or_false] at hc'
  rcases hc' with rfl | rfl <;> omega

theorem reg_lt {l : List Int} (h : B l) : on 65535 (toN l) < 65536 := on_lt _ (by omega) (toN_lt h)
theorem B_put {l : List Int} (h : B l) : B (put l) := B_append h (B_tail (reg_lt h))
theorem put_length (l : List Int) : (put l).length = l.length + 2 := by simp [put, tail]

theorem put_own (k : Nat) (l : List Int) (hB : B l) (hl : l.length ≤ 140737488351232) (hk : l.length + 10 ≤ k) : fcs_Put.f k l = some (put l) := by
  unfold fcs_Put.f
  have hr := reg_lt hB
  have hc : 65535 ^^^ on 65535 (toN l) < 65536 := Nat.xor_lt_two_pow (n := 16) (by omega) hr
  rw [show (65535 : Int) = ((65535 : Nat) : Int) from rfl, on_own k 65535 l hB (by omega) (by omega) hk, Option.bind_some]
  unfold slices_Clone_byte_byte.f
  rw [if_pos (by omega), Option.bind_some, Option.bind_some, if_pos (by simp; omega), max_u16, show (65535 : Int) = ((65535 : Nat) : Int) from rfl, xor16 _ _ (by omega) hr]
  unfold put tail
  simp only [Option.some.injEq, List.append_cancel_left_eq, List.cons.injEq, and_true]
  constructor <;> omega

theorem good_two (l : List Int) (hB : B l) (x y : Nat) (hx : x < 256) (hy : y < 256) : on 65535 (toN (l ++ [(x : Int), (y : Int)])) = 61624 ↔ x = (65535 ^^^ on 65535 (toN l)) % 256 ∧ y = (65535 ^^^ on 65535 (toN l)) / 256 := by
  rw [toN_append, on_append, show toN [(x : Int), (y : Int)] = [x, y] by simp [toN], on_cons, on_cons, on_nil]
  exact fine _ x y (reg_lt hB) hx hy

theorem good_put {l : List Int} (hB : B l) : on 65535 (toN (put l)) = 61624 := by
  have hr := reg_lt hB
  have hc : 65535 ^^^ on 65535 (toN l) < 65536 := Nat.xor_lt_two_pow (n := 16) (by omega) hr
  exact (good_two l hB _ _ (by omega) (by omega)).2 ⟨rfl, rfl⟩

theorem cut_own (k : Nat) (l : List Int) (hB : B l) (hl : l.length ≤ 140737488351232) (hk : l.length + 10 ≤ k) :
    fcs_Cut.f k l = some (if l.length < 2 then ([], 2) else if on 65535 (toN l) = 61624 then (l.take (l.length - 2), 0) else ([], 3)) := by
  unfold fcs_Cut.f
  by_cases h : l.length < 2
  · rw [if_pos h, if_pos h]
  · rw [if_neg h, if_neg h, good_own k l hB (by omega) hk, Option.bind_some]
    by_cases hg : on 65535 (toN l) = 61624
    · rw [if_pos (by simp [hg]; omega), if_pos (by omega), if_pos hg]
    · rw [if_neg (by simp [hg]), if_neg hg]

/-! The document's. -/
theorem rstep_l0 : ∀ (j k n : Nat) (i : Int), n < 65536 → i + j = 8 → 0 ≤ i → j < k → portreeveref01_Step.l0 k n i = some ((sn j n : Nat) : Int)
  | 0, k, n, i, hn, hi, h0, hk => by
    obtain ⟨k, rfl⟩ : ∃ m, k = m + 1 := ⟨k - 1, by omega⟩
    simp only [portreeveref01_Step.l0]
    rw [if_neg (by omega), wr_u16 _ (by omega) (by omega)]
    rfl
  | j + 1, k, n, i, hn, hi, h0, hk => by
    obtain ⟨k, rfl⟩ : ∃ m, k = m + 1 := ⟨k - 1, by omega⟩
    simp only [portreeveref01_Step.l0]
    rw [if_pos (by omega), Int.tmod_eq_emod_of_nonneg (by omega), Int.tdiv_eq_ediv_of_nonneg (by omega), w64 (show _ ≤ (n : Int) / 2 by omega) (by omega), w64 (show _ ≤ i + 1 by omega) (by omega), half]
    by_cases h1 : n % 2 = 1
    · rw [if_pos (by omega), show (33800 : Int) = ((33800 : Nat) : Int) from rfl, xor_i64 _ _ (by omega) (by omega)]
      have e : n / 2 ^^^ 33800 = s1 n := by unfold s1; rw [if_pos h1]
      rw [e, rstep_l0 j k (s1 n) (i + 1) (s1_lt hn) (by omega) (by omega) (by omega)]
      rfl
    · rw [if_neg (by omega)]
      have e : n / 2 = s1 n := by unfold s1; rw [if_neg h1]
      rw [e, rstep_l0 j k (s1 n) (i + 1) (s1_lt hn) (by omega) (by omega) (by omega)]
      rfl

theorem rstep (k s c : Nat) (hs : s < 65536) (hc : c < 256) (hk : 9 ≤ k) : portreeveref01_Step.f k s c = some ((st s c : Nat) : Int) := by
  unfold portreeveref01_Step.f
  rw [w64 (by omega) (by omega), w64 (by omega) (by omega), xor_i64 s c hs (by omega), rstep_l0 8 k _ 0 (Nat.xor_lt_two_pow (n := 16) hs (by omega)) (by omega) (by omega) (by omega)]
  rfl

theorem ron_l0 (l : List Int) (hB : B l) (hl : l.length ≤ 140737488355328) : ∀ (d k s i : Nat), i + d = l.length → s < 65536 → d + 10 ≤ k → portreeveref01_On.l0 k s l i = some ((on s ((toN l).drop i) : Nat) : Int)
  | 0, k, s, i, hd, hs, hk => by
    obtain ⟨k, rfl⟩ : ∃ m, k = m + 1 := ⟨k - 1, by omega⟩
    simp only [portreeveref01_On.l0]
    rw [if_neg (by omega), List.drop_eq_nil_of_le (by rw [toN_length]; omega), on_nil]
  | d + 1, k, s, i, hd, hs, hk => by
    obtain ⟨k, rfl⟩ : ∃ m, k = m + 1 := ⟨k - 1, by omega⟩
    have hi : i < l.length := by omega
    have hb := hB _ (List.getElem_mem hi)
    simp only [portreeveref01_On.l0]
    rw [if_pos (by omega), if_pos (by omega), rd_lt l i hi, toN_drop l i hi]
    obtain ⟨c, hc⟩ : ∃ c : Nat, l[i] = c := ⟨l[i].toNat, by omega⟩
    rw [hc, rstep k s c hs (by omega) (by omega), Option.bind_some, w64 (by omega) (by omega)]
    have ih := ron_l0 l hB hl d k (st s c) (i + 1) (by omega) (st_lt hs (by omega)) (by omega)
    rw [show ((i : Int) + 1) = ((i + 1 : Nat) : Int) by omega, ih, Int.toNat_natCast, on_cons]

theorem ron (k s : Nat) (l : List Int) (hB : B l) (hl : l.length ≤ 140737488355328) (hs : s < 65536) (hk : l.length + 10 ≤ k) : portreeveref01_On.f k s l = some ((on s (toN l) : Nat) : Int) := by
  unfold portreeveref01_On.f
  have := ron_l0 l hB hl l.length k s 0 (by omega) hs hk
  simpa using this

theorem rput (k : Nat) (l : List Int) (hB : B l) (hl : l.length ≤ 140737488351232) (hk : l.length + 10 ≤ k) : portreeveref01_Put.f k l = some (put l) := by
  unfold portreeveref01_Put.f
  have hr := reg_lt hB
  rw [show (65535 : Int) = ((65535 : Nat) : Int) from rfl, ron k 65535 l hB (by omega) (by omega) hk, Option.bind_some, Option.bind_some, if_pos (by simp; omega), Option.bind_some, Option.bind_some, if_pos (by simp; omega)]
  rw [w64 (show _ ≤ ((on 65535 (toN l) : Nat) : Int) by omega) (by omega), w64 (show _ ≤ ((65535 : Nat) : Int) - ((on 65535 (toN l) : Nat) : Int) by omega) (by omega), Int.tmod_eq_emod_of_nonneg (by omega), Int.tdiv_eq_ediv_of_nonneg (by omega), w64 (by omega) (by omega)]
  unfold put tail
  rw [compl hr]
  simp only [List.nil_append, Option.some.injEq, List.append_cancel_left_eq, List.cons.injEq, and_true]
  constructor <;> omega

theorem row_l0 (a b : List Int) (hlen : a.length = b.length) (hl : a.length ≤ 140737488355328) : ∀ (d k i : Nat), i + d = a.length → d < k → portreeveref01_Row.l0 k a b i = some (decide (a.drop i = b.drop i))
  | 0, k, i, hd, hk => by
    obtain ⟨k, rfl⟩ : ∃ m, k = m + 1 := ⟨k - 1, by omega⟩
    simp only [portreeveref01_Row.l0]
    rw [if_neg (by omega), List.drop_eq_nil_of_le (by omega), List.drop_eq_nil_of_le (by omega)]
    simp
  | d + 1, k, i, hd, hk => by
    obtain ⟨k, rfl⟩ : ∃ m, k = m + 1 := ⟨k - 1, by omega⟩
    have hi : i < a.length := by omega
    have hi' : i < b.length := by omega
    simp only [portreeveref01_Row.l0]
    rw [if_pos (by omega), if_pos (by omega), if_pos (by omega), rd_lt a i hi, rd_lt b i hi', List.drop_eq_getElem_cons hi, List.drop_eq_getElem_cons hi']
    by_cases h : a[i] = b[i]
    · rw [if_pos h, w64 (by omega) (by omega), show ((i : Int) + 1) = ((i + 1 : Nat) : Int) by omega, row_l0 a b hlen hl d k (i + 1) (by omega) (by omega)]
      simp only [List.cons.injEq, h, true_and]
    · rw [if_neg h]
      simp only [List.cons.injEq, h, false_and, decide_false]

theorem row (k : Nat) (a b : List Int) (hl : a.length ≤ 140737488355328) (hk : a.length < k) : portreeveref01_Row.f k a b = some (decide (a = b)) := by
  unfold portreeveref01_Row.f
  by_cases h : a.length = b.length
  · rw [if_pos (by omega)]
    have := row_l0 a b h hl a.length k 0 (by omega) hk
    simpa using this
  · rw [if_neg (by omega)]
    congr 1
    rw [eq_comm, decide_eq_false_iff_not]
    rintro rfl
    exact h rfl

/-- Good is just what its own put gives. -/
theorem good_iff {l : List Int} (hB : B l) (h : 2 ≤ l.length) : on 65535 (toN l) = 61624 ↔ l = put (l.take (l.length - 2)) := by
  obtain ⟨m, x, y, rfl⟩ : ∃ m x y, l = m ++ [x, y] := by
    refine ⟨l.take (l.length - 2), l[l.length - 2], l[l.length - 1], ?_⟩
    conv => lhs; rw [← List.take_append_drop (l.length - 2) l]
    congr 1
    rw [List.drop_eq_getElem_cons (by omega), show l.length - 2 + 1 = l.length - 1 by omega, List.drop_eq_getElem_cons (by omega), List.drop_eq_nil_of_le (by omega)]
  have hm : B m := fun c hc => hB c (by simp [hc])
  have hx := hB x (by simp)
  have hy := hB y (by simp)
  rw [show (m ++ [x, y]).take ((m ++ [x, y]).length - 2) = m by simp]
  have e := good_two m hm x.toNat y.toNat (by omega) (by omega)
  rw [Int.toNat_of_nonneg hx.1, Int.toNat_of_nonneg hy.1] at e
  rw [e]
  unfold put tail
  simp only [List.append_cancel_left_eq, List.cons.injEq, and_true]
  omega

theorem rgood (k : Nat) (l : List Int) (hB : B l) (hl : l.length ≤ 140737488351232) (hk : l.length + 10 ≤ k) : portreeveref01_Good.f k l = some (decide (2 ≤ l.length ∧ on 65535 (toN l) = 61624)) := by
  unfold portreeveref01_Good.f
  by_cases h : 2 ≤ l.length
  · rw [if_pos (by omega), w64 (by omega) (by omega), if_pos (by omega), if_pos (by omega), show ((l.length : Int) - 2).toNat = l.length - 2 by omega]
    rw [rput k _ (B_take _ hB) (by rw [List.length_take]; omega) (by rw [List.length_take]; omega), Option.bind_some, row k l _ (by omega) (by omega), Option.bind_some]
    congr 1
    rw [decide_eq_decide, ← good_iff hB h]
    simp [h]
  · rw [if_neg (by omega)]
    simp [h]

theorem rcut (k : Nat) (l : List Int) (hB : B l) (hl : l.length ≤ 140737488351232) (hk : l.length + 10 ≤ k) :
    portreeveref01_Cut.f k l = some (if l.length < 2 then ([], 2) else if on 65535 (toN l) = 61624 then (l.take (l.length - 2), 0) else ([], 3)) := by
  unfold portreeveref01_Cut.f
  by_cases h : l.length < 2
  · rw [if_pos (by omega), if_pos h]
  · rw [if_neg (by omega), if_neg h, rgood k l hB hl hk, Option.bind_some]
    by_cases hg : on 65535 (toN l) = 61624
    · rw [if_pos (by simp [hg]; omega), w64 (by omega) (by omega), if_pos (by omega), if_pos (by omega), if_pos hg, show ((l.length : Int) - 2).toNat = l.length - 2 by omega]
    · rw [if_neg (by simp [hg]), if_neg hg]
end Go.Proofs.Ytfnmlhcpolfjaaa.Pure

namespace Go.Proofs.Ytfnmlhcpolfjaaa.Pure
open Go Go.Proofs.Ytfnmlhcpolfjaaa.Q
theorem shown_true (k : Nat) (h : 60 ≤ k) : portreevelaw01_shown.f k = some true := by
  unfold portreevelaw01_shown.f
  rw [if_pos h]
end Go.Proofs.Ytfnmlhcpolfjaaa.Pure
