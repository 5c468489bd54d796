/- What the functions of check sequences compute (the program's), over plain numbers and rows. -/
import Derived.Test.YtangahcilefelaaQx1
import Derived.Test.YtangahcilefelaaQx2
import Derived.Test.YtangahcilefelaaQx3
import Derived.Test.YtangahcilefelaaQx7
import Derived.Test.YtangahcilefelaaQx8
import Derived.Test.YtangahcilefelaaPureKit
import Derived.Test.YtangahcilefelaaCrc
namespace Go.Proofs.Ytangahcilefelaa.Pure
set_option linter.unusedVariables false
open Go Go.RowKit Go.Proofs.Ytangahcilefelaa.Q Go.Proofs.YtangahcilefelaaK Go.Proofs.YtangahcilefelaaCrc Go.Proofs.YtangahcilefelaaW.PrintWords Go.Proofs.YtangahcilefelaaW.PrintLast Go.Proofs.YtangahcilefelaaW.PrintMore

theorem half (n : Nat) : ((n : Int) / 2) = ((n / 2 : Nat) : Int) := by omega

/-- A bit's step, as the program has it. -/
theorem bit_own (n : Nat) (h : n < 65536) : Go.bits .xor .u16 ((n : Int) / 2) (Go.bits .and .u16 33800 (IntKind.u16.wrap (-(Go.bits .and .u16 n 1)))) = ((s1 n : Nat) : Int) := by
  rw [show (1 : Int) = ((1 : Nat) : Int) from rfl, and16 n 1 h (by omega), Nat.and_one_is_mod, half]
  unfold s1
  by_cases h1 : n % 2 = 1
  · rw [if_pos h1, h1, show IntKind.u16.wrap (-((1 : Nat) : Int)) = ((65535 : Nat) : Int) by decide, show (33800 : Int) = ((33800 : Nat) : Int) from rfl, and16 33800 65535 (by omega) (by omega), show (33800 : Nat) &&& 65535 = 33800 by decide, xor16 _ _ (by omega) (by omega)]
  · rw [if_neg h1, show n % 2 = 0 by omega, show IntKind.u16.wrap (-((0 : Nat) : Int)) = ((0 : Nat) : Int) by decide, show (33800 : Int) = ((33800 : Nat) : Int) from rfl, and16 33800 0 (by omega) (by omega), show (33800 : Nat) &&& 0 = 0 by decide, xor16 _ _ (by omega) (by omega), Nat.xor_zero]

theorem step_l0 : ∀ (j k n : Nat) (i : Int), n < 65536 → i + j = 8 → 0 ≤ i → j < k → fcs_Step.l0 k n i = some ((sn j n : Nat) : Int)
  | 0, k, n, i, hn, hi, h0, hk => by
    obtain ⟨k, rfl⟩ : ∃ m, k = m + 1 := ⟨k - 1, by omega⟩
    simp only [fcs_Step.l0]
    rw [if_neg (by omega)]
    rfl
  | j + 1, k, n, i, hn, hi, h0, hk => by
    obtain ⟨k, rfl⟩ : ∃ m, k = m + 1 := ⟨k - 1, by omega⟩
    simp only [fcs_Step.l0]
    rw [if_pos (by omega), bit_own n hn, w64 (by omega) (by omega), step_l0 j k (s1 n) (i + 1) (s1_lt hn) (by omega) (by omega) (by omega)]
    rfl

theorem step (k s c : Nat) (hs : s < 65536) (hc : c < 256) (hk : 9 ≤ k) : fcs_Step.f k s c = some ((st s c : Nat) : Int) := by
  unfold fcs_Step.f
  rw [wr_u16 _ (by omega) (by omega), xor16 s c hs (by omega), step_l0 8 k _ 0 (Nat.xor_lt_two_pow (n := 16) hs (by omega)) (by omega) (by omega) (by omega)]
  rfl

theorem on_l0 (l : List Int) (hB : B l) (hl : l.length ≤ 140737488355328) : ∀ (d k s i : Nat), i + d = l.length → s < 65536 → d + 10 ≤ k → fcs_On.l0 k s l (l.length : Int) i = some ((on s ((toN l).drop i) : Nat) : Int)
  | 0, k, s, i, hd, hs, hk => by
    obtain ⟨k, rfl⟩ : ∃ m, k = m + 1 := ⟨k - 1, by omega⟩
    simp only [fcs_On.l0]
    rw [if_neg (by omega), List.drop_eq_nil_of_le (by rw [toN_length]; omega), on_nil]
  | d + 1, k, s, i, hd, hs, hk => by
    obtain ⟨k, rfl⟩ : ∃ m, k = m + 1 := ⟨k - 1, by omega⟩
    have hi : i < l.length := by omega
    have hb := hB _ (List.getElem_mem hi)
    simp only [fcs_On.l0]
    rw [if_pos (by omega), if_pos (by omega), if_pos (by omega), rd_lt l i hi, toN_drop l i hi]
    obtain ⟨c, hc⟩ : ∃ c : Nat, l[i] = c := ⟨l[i].toNat, by omega⟩
    rw [hc, step k s c hs (by omega) (by omega), Option.bind_some, w64 (by omega) (by omega)]
    have ih := on_l0 l hB hl d k (st s c) (i + 1) (by omega) (st_lt hs (by omega)) (by omega)
    rw [show ((i : Int) + 1) = ((i + 1 : Nat) : Int) by omega, ih, Int.toNat_natCast, on_cons]

theorem on_own (k s : Nat) (l : List Int) (hB : B l) (hl : l.length ≤ 140737488355328) (hs : s < 65536) (hk : l.length + 10 ≤ k) : fcs_On.f k s l = some ((on s (toN l) : Nat) : Int) := by
  unfold fcs_On.f
  have := on_l0 l hB hl l.length k s 0 (by omega) hs hk
  simpa using this

theorem good_own (k : Nat) (l : List Int) (hB : B l) (hl : l.length ≤ 140737488355328) (hk : l.length + 10 ≤ k) : fcs_Good.f k l = some (decide (2 ≤ l.length ∧ on 65535 (toN l) = 61624)) := by
  unfold fcs_Good.f
  by_cases h : 2 ≤ l.length
  · rw [if_pos (by omega), show (65535 : Int) = ((65535 : Nat) : Int) from rfl, on_own k 65535 l hB hl (by omega) hk, Option.bind_some]
    congr 1
    rw [Bool.eq_iff_iff]
    simp [h]
    omega
  · rw [if_neg (by omega)]
    simp [h]

/-- The two bytes of a register. -/
def tail (r : Nat) : List Int := [(((65535 ^^^ r) % 256 : Nat) : Int), (((65535 ^^^ r) / 256 : Nat) : Int)]
/-- Bytes with their check sequence behind. -/
def put (l : List Int) : List Int := l ++ tail (on 65535 (toN l))

theorem B_tail {r : Nat} (h : r < 65536) : B (tail r) := by
  have hc : 65535 ^^^ r < 65536 := Nat.xor_lt_two_pow (n := 16) (by omega) h
  intro c hc'
  simp only [tail, List.mem_cons, List.not_mem_nil, or_false] at hc'
  rcases hc' with rfl | rfl <;> omega

theorem reg_lt {l : List Int} (h : B l) : on 65535 (toN l) < 65536 := on_lt _ (by omega) (toN_lt h)
theorem B_put {l : List Int} (h : B l) : B (put l) := B_append h (B_tail (reg_lt h))
theorem put_length (l : List Int) : (put l).length = l.length + 2 := by simp [put, tail]

theorem put_own (k : Nat) (l : List Int) (hB : B l) (hl : l.length ≤ 140737488351232) (hk : l.length + 10 ≤ k) : fcs_Put.f k l = some (put l) := by
  unfold fcs_Put.f
  have hr := reg_lt hB
  have hc : 65535 ^^^ on 65535 (toN l) < 65536 := Nat.xor_lt_two_pow (n := 16) (by omega) hr
  rw [show (65535 : Int) = ((65535 : Nat) : Int) from rfl, on_own k 65535 l hB (by omega) (by omega) hk, Option.bind_some]
  unfold slices_Clone_byte_byte.f
  rw [if_pos (by omega), Option.bind_some, Option.bind_some, if_pos (by simp; omega), max_u16, show (65535 : Int) = ((65535 : Nat) : Int) from rfl, xor16 _ _ (by omega) hr]
  unfold put tail
  simp only [Option.some.injEq, List.append_cancel_left_eq, List.cons.injEq, and_true]
  constructor <;> omega

theorem good_two (l : List Int) (hB : B l) (x y : Nat) (hx : x < 256) (hy : y < 256) : on 65535 (toN (l ++ [(x : Int), (y : Int)])) = 61624 ↔ x = (65535 ^^^ on 65535 (toN l)) % 256 ∧ y = (65535 ^^^ on 65535 (toN l)) / 256 := by
  rw [toN_append, on_append, show toN [(x : Int), (y : Int)] = [x, y] by simp [toN], on_cons, on_cons, on_nil]
  exact fine _ x y (reg_lt hB) hx hy

theorem good_put {l : List Int} (hB : B l) : on 65535 (toN (put l)) = 61624 := by
  have hr := reg_lt hB
  have hc : 65535 ^^^ on 65535 (toN l) < 65536 := Nat.xor_lt_two_pow (n := 16) (by omega) hr
  exact (good_two l hB _ _ (by omega) (by omega)).2 ⟨rfl, rfl⟩

theorem cut_own (k : Nat) (l : List Int) (hB : B l) (hl : l.length ≤ 140737488351232) (hk : l.length + 10 ≤ k) :
    fcs_Cut.f k l = some (if l.length < 2 then ([], 2) else if on 65535 (toN l) = 61624 then (l.take (l.length - 2), 0) else ([], 3)) := by
  unfold fcs_Cut.f
  by_cases h : l.length < 2
  · rw [if_pos h, if_pos h]
  · rw [if_neg h, if_neg h, good_own k l hB (by omega) hk, Option.bind_some]
    by_cases hg : on 65535 (toN l) = 61624
    · rw [if_pos (by simp [hg]; omega), if_pos (by omega), if_pos hg]
    · rw [if_neg (by simp [hg]), if_neg hg]

end Go.Proofs.Ytangahcilefelaa.Pure
