/- What the document's functions of check sequences compute, over plain numbers and rows. -/
import Derived.Test.YtangahcilefelaaQx16
import Derived.Test.YtangahcilefelaaPureKit
import Derived.Test.YtangahcilefelaaCrc
import Derived.Test.YtangahcilefelaaFcs
import Derived.Test.YtangahcilefelaaRow
namespace Go.Proofs.Ytangahcilefelaa.Pure
set_option linter.unusedVariables false
open Go Go.RowKit Go.Proofs.Ytangahcilefelaa.Q Go.Proofs.YtangahcilefelaaK Go.Proofs.YtangahcilefelaaCrc Go.Proofs.YtangahcilefelaaW.PrintWords Go.Proofs.YtangahcilefelaaW.PrintLast Go.Proofs.YtangahcilefelaaW.PrintMore
/-! The document's. -/
theorem rstep_l0 : ∀ (j k n : Nat) (i : Int), n < 65536 → i + j = 8 → 0 ≤ i → j < k → portreeveref01_Step.l0 k n i = some ((sn j n : Nat) : Int)
  | 0, k, n, i, hn, hi, h0, hk => by
    obtain ⟨k, rfl⟩ : ∃ m, k = m + 1 := ⟨k - 1, by omega⟩
    simp only [portreeveref01_Step.l0]
    rw [if_neg (by omega), wr_u16 _ (by omega) (by omega)]
    rfl
  | j + 1, k, n, i, hn, hi, h0, hk => by
    obtain ⟨k, rfl⟩ : ∃ m, k = m + 1 := ⟨k - 1, by omega⟩
    simp only [portreeveref01_Step.l0]
    rw [if_pos (by omega), Int.tmod_eq_emod_of_nonneg (by omega), Int.tdiv_eq_ediv_of_nonneg (by omega), w64 (show _ ≤ (n : Int) / 2 by omega) (by omega), w64 (show _ ≤ i + 1 by omega) (by omega), half]
    by_cases h1 : n % 2 = 1
    · rw [if_pos (by omega), show (33800 : Int) = ((33800 : Nat) : Int) from rfl, xor_i64 _ _ (by omega) (by omega)]
      have e : n / 2 ^^^ 33800 = s1 n := by unfold s1; rw [if_pos h1]
      rw [e, rstep_l0 j k (s1 n) (i + 1) (s1_lt hn) (by omega) (by omega) (by omega)]
      rfl
    · rw [if_neg (by omega)]
      have e : n / 2 = s1 n := by unfold s1; rw [if_neg h1]
      rw [e, rstep_l0 j k (s1 n) (i + 1) (s1_lt hn) (by omega) (by omega) (by omega)]
      rfl

theorem rstep (k s c : Nat) (hs : s < 65536) (hc : c < 256) (hk : 9 ≤ k) : portreeveref01_Step.f k s c = some ((st s c : Nat) : Int) := by
  unfold portreeveref01_Step.f
  rw [w64 (by omega) (by omega), w64 (by omega) (by omega), xor_i64 s c hs (by omega), rstep_l0 8 k _ 0 (Nat.xor_lt_two_pow (n := 16) hs (by omega)) (by omega) (by omega) (by omega)]
  rfl

theorem ron_l0 (l : List Int) (hB : B l) (hl : l.length ≤ 140737488355328) : ∀ (d k s i : Nat), i + d = l.length → s < 65536 → d + 10 ≤ k → portreeveref01_On.l0 k s l i = some ((on s ((toN l).drop i) : Nat) : Int)
  | 0, k, s, i, hd, hs, hk => by
    obtain ⟨k, rfl⟩ : ∃ m, k = m + 1 := ⟨k - 1, by omega⟩
    simp only [portreeveref01_On.l0]
    rw [if_neg (by omega), List.drop_eq_nil_of_le (by rw [toN_length]; omega), on_nil]
  | d + 1, k, s, i, hd, hs, hk => by
    obtain ⟨k, rfl⟩ : ∃ m, k = m + 1 := ⟨k - 1, by omega⟩
    have hi : i < l.length := by omega
    have hb := hB _ (List.getElem_mem hi)
    simp only [portreeveref01_On.l0]
    rw [if_pos (by omega), if_pos (by omega), rd_lt l i hi, toN_drop l i hi]
    obtain ⟨c, hc⟩ : ∃ c : Nat, l[i] = c := ⟨l[i].toNat, by omega⟩
    rw [hc, rstep k s c hs (by omega) (by omega), Option.bind_some, w64 (by omega) (by omega)]
    have ih := ron_l0 l hB hl d k (st s c) (i + 1) (by omega) (st_lt hs (by omega)) (by omega)
    rw [show ((i : Int) + 1) = ((i + 1 : Nat) : Int) by omega, ih, Int.toNat_natCast, on_cons]

theorem ron (k s : Nat) (l : List Int) (hB : B l) (hl : l.length ≤ 140737488355328) (hs : s < 65536) (hk : l.length + 10 ≤ k) : portreeveref01_On.f k s l = some ((on s (toN l) : Nat) : Int) := by
  unfold portreeveref01_On.f
  have := ron_l0 l hB hl l.length k s 0 (by omega) hs hk
  simpa using this

theorem rput (k : Nat) (l : List Int) (hB : B l) (hl : l.length ≤ 140737488351232) (hk : l.length + 10 ≤ k) : portreeveref01_Put.f k l = some (put l) := by
  unfold portreeveref01_Put.f
  have hr := reg_lt hB
  rw [show (65535 : Int) = ((65535 : Nat) : Int) from rfl, ron k 65535 l hB (by omega) (by omega) hk, Option.bind_some, Option.bind_some, if_pos (by simp; omega), Option.bind_some, Option.bind_some, if_pos (by simp; omega)]
  rw [w64 (show _ ≤ ((on 65535 (toN l) : Nat) : Int) by omega) (by omega), w64 (show _ ≤ ((65535 : Nat) : Int) - ((on 65535 (toN l) : Nat) : Int) by omega) (by omega), Int.tmod_eq_emod_of_nonneg (by omega), Int.tdiv_eq_ediv_of_nonneg (by omega), w64 (by omega) (by omega)]
  unfold put tail
  rw [compl hr]
  simp only [List.nil_append, Option.some.injEq, List.append_cancel_left_eq, List.cons.injEq, and_true]
  constructor <;> omega

theorem good_iff {l : List Int} (hB : B l) (h : 2 ≤ l.length) : on 65535 (toN l) = 61624 ↔ l = put (l.take (l.length - 2)) := by
  obtain ⟨m, x, y, rfl⟩ : ∃ m x y, l = m ++ [x, y] := by
    refine ⟨l.take (l.length - 2), l[l.length - 2], l[l.length - 1], ?_⟩
    conv => lhs; rw [← List.take_append_drop (l.length - 2) l]
    congr 1
    rw [List.drop_eq_getElem_cons (by omega), show l.length - 2 + 1 = l.length - 1 by omega, List.drop_eq_getElem_cons (by omega), List.drop_eq_nil_of_le (by omega)]
  have hm : B m := fun c hc => hB c (by simp [hc])
  have hx := hB x (by simp)
  have hy := hB y (by simp)
  rw [show (m ++ [x, y]).take ((m ++ [x, y]).length - 2) = m by simp]
  have e := good_two m hm x.toNat y.toNat (by omega) (by omega)
  rw [Int.toNat_of_nonneg hx.1, Int.toNat_of_nonneg hy.1] at e
  rw [e]
  unfold put tail
  simp only [List.append_cancel_left_eq, List.cons.injEq, and_true]
  omega

theorem rgood (k : Nat) (l : List Int) (hB : B l) (hl : l.length ≤ 140737488351232) (hk : l.length + 10 ≤ k) : portreeveref01_Good.f k l = some (decide (2 ≤ l.length ∧ on 65535 (toN l) = 61624)) := by
  unfold portreeveref01_Good.f
  by_cases h : 2 ≤ l.length
  · rw [if_pos (by omega), w64 (by omega) (by omega), if_pos (by omega), if_pos (by omega), show ((l.length : Int) - 2).toNat = l.length - 2 by omega]
    rw [rput k _ (B_take _ hB) (by rw [List.length_take]; omega) (by rw [List.length_take]; omega), Option.bind_some, row k l _ (by omega) (by omega), Option.bind_some]
    congr 1
    rw [decide_eq_decide, ← good_iff hB h]
    simp [h]
  · rw [if_neg (by omega)]
    simp [h]

theorem rcut (k : Nat) (l : List Int) (hB : B l) (hl : l.length ≤ 140737488351232) (hk : l.length + 10 ≤ k) :
    portreeveref01_Cut.f k l = some (if l.length < 2 then ([], 2) else if on 65535 (toN l) = 61624 then (l.take (l.length - 2), 0) else ([], 3)) := by
  unfold portreeveref01_Cut.f
  by_cases h : l.length < 2
  · rw [if_pos (by omega), if_pos h]
  · rw [if_neg (by omega), if_neg h, rgood k l hB hl hk, Option.bind_some]
    by_cases hg : on 65535 (toN l) = 61624
    · rw [if_pos (by simp [hg]; omega), w64 (by omega) (by omega), if_pos (by omega), if_pos (by omega), if_pos hg, show ((l.length : Int) - 2).toNat = l.length - 2 by omega]
    · rw [if_neg (by simp [hg]), if_neg hg]
end Go.Proofs.Ytangahcilefelaa.Pure
