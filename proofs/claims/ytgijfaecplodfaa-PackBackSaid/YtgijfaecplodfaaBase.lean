/- What the functions of packets compute, over plain numbers and rows. -/
import Derived.Test.YtgijfaecplodfaaQx1
import Derived.Test.YtgijfaecplodfaaQx3
import Derived.Test.YtgijfaecplodfaaQx5
import Derived.Test.YtgijfaecplodfaaPureKit
import Derived.Test.YtgijfaecplodfaaRow
import Derived.Lib.Bytes
namespace Go.Proofs.Ytgijfaecplodfaa.Pure
set_option linter.unusedVariables false
open Go Go.RowKit Go.Proofs.Ytgijfaecplodfaa.Q Go.Proofs.YtgijfaecplodfaaK Go.Proofs.YtgijfaecplodfaaW.PrintWords Go.Proofs.YtgijfaecplodfaaW.PrintLast Go.Proofs.YtgijfaecplodfaaW.PrintMore

theorem bytes_inj : ∀ {l m : List Int}, B l → B m → (l.map fun n => UInt8.ofNat n.toNat) = (m.map fun n => UInt8.ofNat n.toNat) → l = m
  | [], [], _, _, _ => rfl
  | [], _ :: _, _, _, h => by simp at h
  | _ :: _, [], _, _, h => by simp at h
  | a :: l, b :: m, hl, hm, h => by
    simp only [List.map_cons, List.cons.injEq] at h
    have ha := hl a (by simp)
    have hb := hm b (by simp)
    have h1 := congrArg UInt8.toNat h.1
    simp only [UInt8.toNat_ofNat'] at h1
    rw [Nat.mod_eq_of_lt (by omega), Nat.mod_eq_of_lt (by omega)] at h1
    rw [bytes_inj (fun c hc => hl c (List.mem_cons_of_mem _ hc)) (fun c hc => hm c (List.mem_cons_of_mem _ hc)) h.2, show a = b by omega]

theorem equal_own (l m : List Int) (hl : B l) (hm : B m) : bytes_Equal.f l m = some (decide (l = m)) := by
  unfold bytes_Equal.f
  congr 1
  rw [Lib.strOfNums_toList, Lib.strOfNums_toList, Bool.eq_iff_iff]
  simp only [beq_iff_eq, decide_eq_true_eq]
  exact ⟨fun h => bytes_inj hl hm h, fun h => by rw [h]⟩

theorem rd_B {l : List Int} (h : B l) (i : Int) (h0 : 0 ≤ i) (h1 : i < l.length) : 0 ≤ rd l i ∧ rd l i ≤ 255 := by
  obtain ⟨n, rfl⟩ : ∃ n : Nat, i = n := ⟨i.toNat, by omega⟩
  rw [rd_lt l n (by omega)]
  exact h _ (List.getElem_mem (by omega))

def ln (l : List Int) : Int := rd l 2 * 256 + rd l 3
def pb (c i : Int) (d : List Int) : List Int × Int := if d.length ≤ 1496 then ([c, i, ((d.length : Int) + 4) / 256, ((d.length : Int) + 4) % 256] ++ d, 0) else ([], 1)
def pr (l : List Int) : Int × Int × List Int × Int := if 4 ≤ l.length ∧ 4 ≤ ln l ∧ ln l ≤ l.length ∧ ln l ≤ 1500 then (rd l 0, rd l 1, (l.take (ln l).toNat).drop 4, 0) else (0, 0, [], 2)

theorem bytes_own (c i : Int) (d : List Int) (hl : d.length ≤ 140737488351232) : pack_Bytes.f c i d = some (pb c i d) := by
  unfold pack_Bytes.f pb
  rw [w64 (by omega) (by omega)]
  by_cases h : d.length ≤ 1496
  · rw [if_neg (by omega), if_pos h, Option.bind_some, if_pos (by simp only [List.length_cons, List.length_nil]; omega), show ((d.length : Int) + 4) / 256 % 256 = ((d.length : Int) + 4) / 256 by omega]
  · rw [if_pos (by omega), if_neg h]

theorem rbytes (c i : Int) (d : List Int) (hl : d.length ≤ 140737488351232) : portreeveref09_Bytes.f c i d = some (pb c i d) := by
  unfold portreeveref09_Bytes.f pb
  rw [w64 (a := 4 + (d.length : Int)) (by omega) (by omega)]
  by_cases h : d.length ≤ 1496
  · rw [if_neg (by omega), if_pos h, Option.bind_some, if_pos (by simp only [List.length_cons, List.length_nil]; omega), Int.tdiv_eq_ediv_of_nonneg (by omega), Int.tmod_eq_emod_of_nonneg (by omega), w64 (by omega) (by omega), show (4 + (d.length : Int)) / 256 % 256 = ((d.length : Int) + 4) / 256 by omega, show (4 + (d.length : Int)) % 256 % 256 = ((d.length : Int) + 4) % 256 by omega]
  · rw [if_pos (by omega), if_neg h]

theorem or_ln (a b : Int) (ha : 0 ≤ a ∧ a ≤ 255) (hb : 0 ≤ b ∧ b ≤ 255) : Go.bits .or .i64 (wrap64 ((wrap64 a) * 256)) (wrap64 b) = a * 256 + b := by
  obtain ⟨a, rfl⟩ : ∃ n : Nat, a = n := ⟨a.toNat, by omega⟩
  obtain ⟨b, rfl⟩ : ∃ n : Nat, b = n := ⟨b.toNat, by omega⟩
  rw [w64 (a := (a : Int)) (by omega) (by omega), w64 (by omega) (by omega), w64 (by omega) (by omega), show (a : Int) * 256 = ((2 ^ 8 * a : Nat) : Int) by omega, (bits_nat .i64 63 (by decide) wr_i64 (2 ^ 8 * a) b (by omega) (by omega)).2, ← Nat.two_pow_add_eq_or_of_lt (by omega)]
  omega

theorem read_own (k : Nat) (l : List Int) (hB : B l) (hl : l.length ≤ 140737488355328) (hk : 1 ≤ k) : pack_Read.f k l = some (pr l) := by
  obtain ⟨k, rfl⟩ : ∃ m, k = m + 1 := ⟨k - 1, by omega⟩
  unfold pack_Read.f pr
  by_cases h : 4 ≤ l.length
  · rw [if_neg (by omega), if_pos (by omega), if_pos (by omega), or_ln _ _ (rd_B hB 2 (by omega) (by omega)) (rd_B hB 3 (by omega) (by omega))]
    rw [show rd l 2 * 256 + rd l 3 = ln l from rfl]
    by_cases h1 : ln l < 4
    · rw [if_pos h1, pack_Read.j0, if_pos rfl, if_neg (by omega)]
    by_cases h2 : ln l > l.length
    · rw [if_neg h1, if_pos h2, pack_Read.j0, if_pos rfl, if_neg (by omega)]
    by_cases h3 : ln l > 1500
    · rw [if_neg h1, if_neg h2, pack_Read.j0, if_pos (decide_eq_true h3), if_neg (by omega)]
    · rw [if_neg h1, if_neg h2, pack_Read.j0, if_neg (by simpa using h3), if_pos (by omega), if_pos (by omega), if_pos (by omega), if_pos (by omega), if_pos (by omega)]
  · rw [if_pos (by omega), if_neg (by omega)]

theorem rread (k : Nat) (l : List Int) (hB : B l) (hl : l.length ≤ 140737488355328) (hk : 1 ≤ k) : portreeveref09_Read.f k l = some (pr l) := by
  obtain ⟨k, rfl⟩ : ∃ m, k = m + 1 := ⟨k - 1, by omega⟩
  unfold portreeveref09_Read.f pr
  by_cases h : 4 ≤ l.length
  · have h2 := rd_B hB 2 (by omega) (by omega)
    have h3 := rd_B hB 3 (by omega) (by omega)
    rw [if_neg (by omega), if_pos (by omega), if_pos (by omega), w64 (a := rd l 2) (by omega) (by omega), w64 (a := rd l 3) (by omega) (by omega), w64 (a := rd l 2 * 256) (by omega) (by omega), w64 (by omega) (by omega)]
    rw [show rd l 2 * 256 + rd l 3 = ln l from rfl]
    by_cases h1 : ln l < 4
    · rw [if_pos h1, portreeveref09_Read.j0, if_pos rfl, if_neg (by omega)]
    by_cases h2 : ln l > l.length
    · rw [if_neg h1, if_pos h2, portreeveref09_Read.j0, if_pos rfl, if_neg (by omega)]
    by_cases h3 : ln l > 1500
    · rw [if_neg h1, if_neg h2, portreeveref09_Read.j0, if_pos (decide_eq_true h3), if_neg (by omega)]
    · rw [if_neg h1, if_neg h2, portreeveref09_Read.j0, if_neg (by simpa using h3), if_pos (by omega), if_pos (by omega), if_pos (by omega), if_pos (by omega), if_pos (by omega)]
  · rw [if_pos (by omega), if_neg (by omega)]

theorem same_own (c i : Int) (d : List Int) (c' i' : Int) (d' : List Int) (hd : B d) (hd' : B d') : pack_Same.f c i d c' i' d' = some (decide (c = c' ∧ i = i' ∧ d = d')) := by
  unfold pack_Same.f
  rw [equal_own d d' hd hd', Option.bind_some]
  by_cases h1 : c = c'
  · by_cases h2 : i = i'
    · rw [if_pos h1, if_pos h2]; simp [h1, h2]
    · rw [if_pos h1, if_neg h2]; simp [h2]
  · rw [if_neg h1]; simp [h1]

theorem rsame (k : Nat) (c i : Int) (d : List Int) (c' i' : Int) (d' : List Int) (hl : d.length ≤ 140737488355328) (hk : d.length < k) : portreeveref09_Same.f k c i d c' i' d' = some (decide (c = c' ∧ i = i' ∧ d = d')) := by
  unfold portreeveref09_Same.f
  rw [row k d d' hl hk, Option.bind_some]
  by_cases h3 : d = d'
  · rw [if_pos (decide_eq_true h3)]
    by_cases h1 : c = c'
    · rw [if_pos h1]
      by_cases h2 : i = i' <;> simp [h1, h2, h3]
    · rw [if_neg h1]; simp [h1]
  · rw [if_neg (by simpa using h3)]; simp [h3]

theorem short_own (l : List Int) (hl : l.length ≤ 140737488355328) : pack_short.f l = some (l.take 1496) := by
  unfold pack_short.f mn
  by_cases h : 1496 < (l.length : Int)
  · rw [if_pos h, if_pos (by omega), if_pos (by omega)]
    rfl
  · rw [if_neg h, if_pos (by omega), if_pos (by omega), Int.toNat_natCast, List.take_of_length_le (Nat.le_refl _), List.take_of_length_le (by omega)]

theorem pb_length (c i : Int) (d : List Int) (h : d.length ≤ 1496) : (pb c i d).1.length = d.length + 4 := by
  unfold pb
  rw [if_pos h]
  simp only [List.length_append, List.length_cons, List.length_nil]
  omega

theorem pb_short (c i : Int) (d : List Int) : (pb c i d).1.length ≤ 1500 := by
  by_cases h : d.length ≤ 1496
  · rw [pb_length c i d h]; omega
  · unfold pb; rw [if_neg h]; simp

theorem pb_ok (c i : Int) (d : List Int) : (pb c i d).2 = 0 ↔ d.length ≤ 1496 := by
  unfold pb
  by_cases h : d.length ≤ 1496
  · rw [if_pos h]; simp [h]
  · rw [if_neg h]; simp [h]

theorem pb_B (c i : Int) (d : List Int) (hc : 0 ≤ c ∧ c ≤ 255) (hi : 0 ≤ i ∧ i ≤ 255) (hd : B d) : B (pb c i d).1 := by
  unfold pb
  by_cases h : d.length ≤ 1496
  · rw [if_pos h]
    refine B_append ?_ hd
    intro x hx
    simp only [List.mem_cons, List.not_mem_nil, or_false] at hx
    omega
  · rw [if_neg h]
    intro x hx
    simp at hx

theorem reject_own (c i : Int) (d : List Int) (id : Int) (hl : d.length ≤ 140737488351232) : pack_Reject.f c i d id = some (7, id, (pb c i d).1.take 1496) := by
  unfold pack_Reject.f
  have := pb_short c i d
  rw [bytes_own c i d hl, Option.bind_some, short_own _ (by omega), Option.bind_some]

/-- What was written is read, whatever stands behind it. -/
theorem pr_pb (c i : Int) (d t : List Int) (h : d.length ≤ 1496) : pr ((pb c i d).1 ++ t) = (c, i, d, 0) := by
  unfold pb
  rw [if_pos h]
  have hln : ln ([c, i, ((d.length : Int) + 4) / 256, ((d.length : Int) + 4) % 256] ++ d ++ t) = (d.length : Int) + 4 := by
    show ((d.length : Int) + 4) / 256 * 256 + ((d.length : Int) + 4) % 256 = _
    omega
  unfold pr
  rw [hln, if_pos (by simp only [List.length_append, List.length_cons, List.length_nil]; omega)]
  refine Prod.ext rfl (Prod.ext rfl (Prod.ext ?_ rfl))
  show (([c, i, ((d.length : Int) + 4) / 256, ((d.length : Int) + 4) % 256] ++ d ++ t).take ((d.length : Int) + 4).toNat).drop 4 = d
  rw [show ((d.length : Int) + 4).toNat = ([c, i, ((d.length : Int) + 4) / 256, ((d.length : Int) + 4) % 256] ++ d).length by simp only [List.length_append, List.length_cons, List.length_nil]; omega, List.take_left]
  rfl

theorem pr_pb' (c i : Int) (d : List Int) (h : d.length ≤ 1496) : pr (pb c i d).1 = (c, i, d, 0) := by
  have := pr_pb c i d [] h
  rwa [List.append_nil] at this

theorem pr_B (l : List Int) (hB : B l) : B (pr l).2.2.1 := by
  unfold pr
  split
  · exact B_drop _ (B_take _ hB)
  · intro x hx; simp at hx

theorem pr_length (l : List Int) : (pr l).2.2.1.length ≤ 1496 := by
  unfold pr
  split
  · simp only [List.length_drop, List.length_take]; omega
  · simp

/-- What was read is what the bytes begin with. -/
theorem pr_bytes (l : List Int) (hB : B l) (h : (pr l).2.2.2 = 0) : ((pr l).2.2.1.length : Int) + 4 = ln l ∧ (ln l).toNat ≤ l.length ∧ (pb (pr l).1 (pr l).2.1 (pr l).2.2.1) = (l.take (ln l).toNat, 0) := by
  unfold pr at h ⊢
  split at h
  · next hc =>
    rw [if_pos hc]
    have hl : (((l.take (ln l).toNat).drop 4).length : Int) + 4 = ln l := by
      simp only [List.length_drop, List.length_take]; omega
    refine ⟨hl, by omega, ?_⟩
    unfold pb
    rw [if_pos (by show ((l.take (ln l).toNat).drop 4).length ≤ 1496; omega)]
    refine Prod.ext ?_ rfl
    show [rd l 0, rd l 1, ((((l.take (ln l).toNat).drop 4).length : Int) + 4) / 256, ((((l.take (ln l).toNat).drop 4).length : Int) + 4) % 256] ++ (l.take (ln l).toNat).drop 4 = l.take (ln l).toNat
    rw [hl]
    have b2 := rd_B hB 2 (by omega) (by omega)
    have b3 := rd_B hB 3 (by omega) (by omega)
    have e2 : ln l / 256 = rd l 2 := by unfold ln; omega
    have e3 : ln l % 256 = rd l 3 := by unfold ln; omega
    rw [e2, e3]
    have h4 : l.take 4 = [rd l 0, rd l 1, rd l 2, rd l 3] := by
      obtain ⟨a, b, c, d, t, rfl⟩ : ∃ a b c d t, l = a :: b :: c :: d :: t := by
        match l, hc.1 with
        | a :: b :: c :: d :: t, _ => exact ⟨a, b, c, d, t, rfl⟩
      rfl
    rw [← h4, show l.take 4 = (l.take (ln l).toNat).take 4 by rw [List.take_take, Nat.min_eq_left (by omega)], List.take_append_drop]
  · simp at h
end Go.Proofs.Ytgijfaecplodfaa.Pure
