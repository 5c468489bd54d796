/- What is padded begins with the bytes, then 128, then fewer than 64 noughts, then as many bits as there were; two rows are padded alike just if they are the same. -/
import Derived.Test.YtadgdhefgibakaaSayMd5Pads
import Derived.Test.YtadgdhefgibakaaBase
namespace Go.Proofs.Ytadgdhefgibakaa.Pure
set_option linter.unusedVariables false
open Go Go.RowKit Go.Proofs.Ytadgdhefgibakaa.Q Go.Proofs.YtadgdhefgibakaaK Go.Proofs.YtadgdhefgibakaaW.PrintWords Go.Proofs.YtadgdhefgibakaaW.PrintLast Go.Proofs.YtadgdhefgibakaaW.PrintMore

theorem rd_pad_body {l : List Int} {i : Nat} (h0 : l.length < i) (h1 : i < l.length + 1 + zn l.length) : rd (pad l) i = 0 := by
  have hl := pad_length l
  rw [rd_lt _ _ (by omega)]
  unfold pad
  rw [List.getElem_append_left (by simp; omega), List.getElem_append_right (by simp; omega)]
  simp
theorem rd_pad_128 (l : List Int) : rd (pad l) (l.length : Nat) = 128 := by
  have hl := pad_length l
  rw [rd_lt _ _ (by omega)]
  unfold pad
  rw [List.getElem_append_left (by simp), List.getElem_append_left (by simp), List.getElem_append_right (by simp)]
  simp
theorem rd_pad_tail (l : List Int) (j : Nat) : rd (pad l) (((pad l).length - 8 + j : Nat) : Int) = (lb l.length).getD j 0 := by
  have hl := pad_length l
  obtain ⟨n, hn⟩ : ∃ n, (pad l).length - 8 + j = n := ⟨_, rfl⟩
  rw [hn]
  unfold rd
  rw [Int.toNat_natCast]
  have hA : (l ++ [128] ++ List.replicate (zn l.length) (0 : Int)).length = l.length + 1 + zn l.length := by
    simp only [List.length_append, List.length_cons, List.length_nil, List.length_replicate]
  show (l ++ [128] ++ List.replicate (zn l.length) (0 : Int) ++ lb l.length).getD n 0 = _
  rw [List.getD_eq_getElem?_getD, List.getElem?_append_right (by omega), hA, ← List.getD_eq_getElem?_getD]
  congr 1
  omega
theorem pads_l1 (a b : List Int) (ha : a.length ≤ 1000) (hb : b.length ≤ 1000) (k : Nat) (hk : 3000 ≤ k) : portreevelaw02_Md5Pads.l1 k a b true (pad a) 0 7 = some true := by
  have hl := pad_length a
  have hz := zn_lt a.length
  have hlb := pad_length b
  have hzb := zn_lt b.length
  have t0 := rd_pad_tail a 0
  have t1 := rd_pad_tail a 1
  have t2 := rd_pad_tail a 2
  have t3 := rd_pad_tail a 3
  have t4 := rd_pad_tail a 4
  have t5 := rd_pad_tail a 5
  have t6 := rd_pad_tail a 6
  have t7 := rd_pad_tail a 7
  obtain ⟨k, rfl⟩ : ∃ m, k = m + 9 := ⟨k - 9, by omega⟩
  obtain ⟨L, hL⟩ : ∃ L, (pad a).length = L := ⟨_, rfl⟩
  have hp := pad_f b k (by omega) (by omega)
  have hr := row k (pad a) (pad b) (by omega) (by omega)
  have hr2 := row k a b (by omega) (by omega)
  have w8 : wrap64 ((L : Int) - 8) = (L : Int) - 8 := w64 (by omega) (by omega)
  rw [hL] at t0 t1 t2 t3 t4 t5 t6 t7
  have s : ∀ (j : Nat) (n : Nat) (x : Int), j < 8 → (L : Int) - 8 + (j : Int) = ((L - 8 + j : Nat) : Int) ∧ wrap64 ((L : Int) - 8 + (j : Int)) = ((L - 8 + j : Nat) : Int) := by
    intro j n x hj
    have e : (L : Int) - 8 + (j : Int) = ((L - 8 + j : Nat) : Int) := by omega
    exact ⟨e, by rw [e, w64] <;> omega⟩
  have step : ∀ (j k2 : Nat) (x9 : Int) (v : Int), j < 8 → rd (pad a) ((L - 8 + j : Nat) : Int) = v → wrap64 v = v → wrap64 (x9 * 256) = x9 * 256 → wrap64 (x9 * 256 + v) = x9 * 256 + v → portreevelaw02_Md5Pads.l1 (k2 + 1) a b true (pad a) x9 (j : Int) = portreevelaw02_Md5Pads.l1 k2 a b true (pad a) (x9 * 256 + v) ((j : Int) - 1) := by
    intro j k2 x9 v hj hv h1 h2 h3
    conv => lhs; rw [portreevelaw02_Md5Pads.l1]
    rw [hL, w8, (s j 0 0 hj).2, if_pos (by omega), if_pos (by omega), if_pos (by omega), hv, h1, h2, h3, w64 (by omega) (by omega)]
  have q := step 7 (k + 8) 0 0 (by omega) t7 (by rw [w64] <;> omega) (by rw [w64] <;> omega) (by rw [w64] <;> omega)
  have q6 := step 6 (k + 7) 0 0 (by omega) t6 (by rw [w64] <;> omega) (by rw [w64] <;> omega) (by rw [w64] <;> omega)
  have q5 := step 5 (k + 6) 0 0 (by omega) t5 (by rw [w64] <;> omega) (by rw [w64] <;> omega) (by rw [w64] <;> omega)
  have q4 := step 4 (k + 5) 0 0 (by omega) t4 (by rw [w64] <;> omega) (by rw [w64] <;> omega) (by rw [w64] <;> omega)
  have q3 := step 3 (k + 4) 0 0 (by omega) t3 (by rw [w64] <;> omega) (by rw [w64] <;> omega) (by rw [w64] <;> omega)
  have q2 := step 2 (k + 3) 0 0 (by omega) t2 (by rw [w64] <;> omega) (by rw [w64] <;> omega) (by rw [w64] <;> omega)
  obtain ⟨c1, hc1⟩ : ∃ c1, ((8 * a.length : Nat) : Int) / 256 = c1 := ⟨_, rfl⟩
  obtain ⟨c0, hc0⟩ : ∃ c0, ((8 * a.length : Nat) : Int) % 256 = c0 := ⟨_, rfl⟩
  have q1 := step 1 (k + 2) 0 c1 (by omega) (by rw [t1]; exact hc1) (w64 (by omega) (by omega)) (by rw [w64] <;> omega) (by rw [w64] <;> omega)
  have q0 := step 0 (k + 1) c1 c0 (by omega) (by rw [t0]; exact hc0) (w64 (by omega) (by omega)) (w64 (by omega) (by omega)) (w64 (by omega) (by omega))
  simp only [Int.zero_mul, Int.zero_add] at q q6 q5 q4 q3 q2 q1 q0
  have z1 : (((7 : Nat) : Int) - 1) = ((6 : Nat) : Int) := by decide
  have z2 : (((6 : Nat) : Int) - 1) = ((5 : Nat) : Int) := by decide
  have z3 : (((5 : Nat) : Int) - 1) = ((4 : Nat) : Int) := by decide
  have z4 : (((4 : Nat) : Int) - 1) = ((3 : Nat) : Int) := by decide
  have z5 : (((3 : Nat) : Int) - 1) = ((2 : Nat) : Int) := by decide
  have z6 : (((2 : Nat) : Int) - 1) = ((1 : Nat) : Int) := by decide
  have z7 : (((1 : Nat) : Int) - 1) = ((0 : Nat) : Int) := by decide
  rw [z1] at q
  rw [z2] at q6
  rw [z3] at q5
  rw [z4] at q4
  rw [z5] at q3
  rw [z6] at q2
  rw [z7] at q1
  show portreevelaw02_Md5Pads.l1 (k + 8 + 1) a b true (pad a) 0 ((7 : Nat) : Int) = _
  rw [q, q6, q5, q4, q3, q2, q1, q0]
  conv => lhs; rw [portreevelaw02_Md5Pads.l1]
  rw [if_neg (by omega), if_pos rfl, if_pos (by rw [w64] <;> omega), hp]
  simp only [Option.bind_some, hr, hr2]
  congr 1
  by_cases h : a = b
  · subst h
    simp
  · have h2 : pad a ≠ pad b := fun he => h (pad_inj (by omega) (by omega) he)
    simp [h, h2]
theorem pads_l0 (a b : List Int) (ha : a.length ≤ 1000) (hb : b.length ≤ 1000) : ∀ (d k i : Nat), i + d = zn a.length → d + 3001 ≤ k → portreevelaw02_Md5Pads.l0 k a b true (pad a) (zn a.length : Nat) (i : Int) = some true
  | 0, k, i, hi, hk => by
    obtain ⟨k, rfl⟩ : ∃ m, k = m + 1 := ⟨k - 1, by omega⟩
    conv => lhs; rw [portreevelaw02_Md5Pads.l0]
    rw [if_neg (by omega)]
    exact pads_l1 a b ha hb k (by omega)
  | d + 1, k, i, hi, hk => by
    obtain ⟨k, rfl⟩ : ∃ m, k = m + 1 := ⟨k - 1, by omega⟩
    have hl := pad_length a
    have hz := zn_lt a.length
    have e : wrap64 (wrap64 ((a.length : Int) + 1) + (i : Int)) = ((a.length + 1 + i : Nat) : Int) := by
      rw [w64 (a := (a.length : Int) + 1) (by omega) (by omega), w64] <;> omega
    conv => lhs; rw [portreevelaw02_Md5Pads.l0]
    rw [if_pos (by omega), e, if_pos (by omega), if_pos (by omega), rd_pad_body (by omega) (by omega), if_pos rfl, w64 (by omega) (by omega), show ((i : Int) + 1) = ((i + 1 : Nat) : Int) by omega]
    exact pads_l0 a b ha hb d k (i + 1) (by omega) (by omega)
theorem Md5Pads : portreevelaw02_Md5Pads.Pure := by
  intro a b h0 h1
  refine ⟨5000, ?_⟩
  unfold portreevelaw02_Md5Pads.f
  rw [shown_f 5000 (by omega)]
  show (if (a.length : Int) > 1000 then portreevelaw02_Md5Pads.j0 5000 a b true true else portreevelaw02_Md5Pads.j0 5000 a b true (decide ((b.length : Int) > 1000))) = some true
  have hj : portreevelaw02_Md5Pads.j0 5000 a b true true = some true := by
    conv => lhs; rw [portreevelaw02_Md5Pads.j0]
    rw [if_pos rfl]
  by_cases ha : (a.length : Int) > 1000
  · rw [if_pos ha]
    exact hj
  · rw [if_neg ha]
    by_cases hb : (b.length : Int) > 1000
    · rw [decide_eq_true hb]
      exact hj
    · rw [decide_eq_false hb]
      have hl := pad_length a
      have hz := zn_lt a.length
      have hp := pad_f a 4999 (by omega) (by omega)
      have hr := row 4999 ((pad a).take a.length) a (by rw [List.length_take]; omega) (by rw [List.length_take]; omega)
      have ht : (pad a).take a.length = a := by
        unfold pad
        rw [List.append_assoc, List.append_assoc, List.take_left' rfl]
      rw [ht] at hr
      have e : wrap64 (wrap64 (((pad a).length : Int) - 9) - (a.length : Int)) = ((zn a.length : Nat) : Int) := by
        rw [w64 (a := ((pad a).length : Int) - 9) (by omega) (by omega), w64] <;> omega
      conv => lhs; rw [portreevelaw02_Md5Pads.j0]
      rw [if_neg (by decide), hp]
      simp only [Option.bind_some, e, Int.toNat_natCast, ht, hr, decide_true, if_true, rd_pad_128]
      rw [if_neg (by omega), if_neg (by omega), if_pos (by omega), if_pos (by omega), if_pos (by omega)]
      conv => lhs; rw [portreevelaw02_Md5Pads.j1]
      rw [if_neg (by decide)]
      exact pads_l0 a b (by omega) (by omega) (zn a.length) 4998 0 (by omega) (by omega)
end Go.Proofs.Ytadgdhefgibakaa.Pure
