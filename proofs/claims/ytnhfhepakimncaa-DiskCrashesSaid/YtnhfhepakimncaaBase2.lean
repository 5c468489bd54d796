/- Which disks are small, right, and the same; a new one; the worked answers. -/
import Derived.Test.YtnhfhepakimncaaQx0
import Derived.Test.YtnhfhepakimncaaQx1
import Derived.Test.YtnhfhepakimncaaQx3
import Derived.Test.YtnhfhepakimncaaQx7
import Derived.Test.YtnhfhepakimncaaQx8
import Derived.Test.YtnhfhepakimncaaQx9
import Derived.Test.YtnhfhepakimncaaQx10
import Derived.Test.YtnhfhepakimncaaQx12
import Derived.Test.YtnhfhepakimncaaPureKit
import Derived.Test.YtnhfhepakimncaaBase
import Derived.Test.YtnhfhepakimncaaRow
namespace Go.Proofs.Ytnhfhepakimncaa.Pure
set_option linter.unusedVariables false
open Go Go.RowKit Go.Proofs.Ytnhfhepakimncaa.Q Go.Proofs.YtnhfhepakimncaaK Go.Proofs.YtnhfhepakimncaaW.PrintWords Go.Proofs.YtnhfhepakimncaaW.PrintLast Go.Proofs.YtnhfhepakimncaaW.PrintMore

theorem small_l1 (S : List (List Int)) (W : List S47) (hl : W.length ≤ 1000) : ∀ (d k i : Nat), i + d = W.length → d < k → ∃ b, portreeveref03_Small.l1 k (i : Int) S W = some b
  | 0, k, i, hd, hk => by
    obtain ⟨k, rfl⟩ : ∃ m, k = m + 1 := ⟨k - 1, by omega⟩
    rw [portreeveref03_Small.l1, if_neg (by omega)]
    exact ⟨_, rfl⟩
  | d + 1, k, i, hd, hk => by
    obtain ⟨k, rfl⟩ : ∃ m, k = m + 1 := ⟨k - 1, by omega⟩
    rw [portreeveref03_Small.l1, if_pos (by omega), if_pos (by omega)]
    by_cases h : (((rd_T47 W i).f1).length : Int) > 200
    · rw [if_pos h]; exact ⟨_, rfl⟩
    · rw [if_neg h, w64 (by omega) (by omega), show ((i : Int) + 1) = ((i + 1 : Nat) : Int) by omega]
      exact small_l1 S W hl d k (i + 1) (by omega) (by omega)
theorem small_l0 (S : List (List Int)) (W : List S47) (hS : S.length ≤ 1000) (hl : W.length ≤ 1000) : ∀ (d k i : Nat), i + d = S.length → d + 1002 ≤ k → ∃ b, portreeveref03_Small.l0 k (i : Int) S W = some b
  | 0, k, i, hd, hk => by
    obtain ⟨k, rfl⟩ : ∃ m, k = m + 1 := ⟨k - 1, by omega⟩
    rw [portreeveref03_Small.l0, if_neg (by omega)]
    exact small_l1 S W hl W.length k 0 (by omega) (by omega)
  | d + 1, k, i, hd, hk => by
    obtain ⟨k, rfl⟩ : ∃ m, k = m + 1 := ⟨k - 1, by omega⟩
    rw [portreeveref03_Small.l0, if_pos (by omega), if_pos (by omega)]
    by_cases h : ((rd_L2 S i).length : Int) > 200
    · rw [if_pos h]; exact ⟨_, rfl⟩
    · rw [if_neg h, w64 (by omega) (by omega), show ((i : Int) + 1) = ((i + 1 : Nat) : Int) by omega]
      exact small_l0 S W hS hl d k (i + 1) (by omega) (by omega)
theorem small_own (k : Nat) (S : List (List Int)) (W : List S47) (hk : 1200 ≤ k) : ∃ b, portreeveref03_Small.f k S W = some b ∧ (b = true → S.length ≤ 70 ∧ W.length ≤ 70) := by
  obtain ⟨k, rfl⟩ : ∃ m, k = m + 1 := ⟨k - 1, by omega⟩
  unfold portreeveref03_Small.f
  by_cases h : (S.length : Int) > 70
  · rw [if_pos h, portreeveref03_Small.j0, if_pos rfl]; exact ⟨_, rfl, by simp⟩
  by_cases h1 : (W.length : Int) > 70
  · rw [if_neg h, decide_eq_true h1, portreeveref03_Small.j0, if_pos rfl]; exact ⟨_, rfl, by simp⟩
  rw [if_neg h, decide_eq_false h1, portreeveref03_Small.j0, if_neg (by simp)]
  obtain ⟨b, hb⟩ := small_l0 S W (by omega) (by omega) S.length k 0 (by omega) (by omega)
  exact ⟨b, hb, fun _ => by omega⟩

def okS (S : List (List Int)) : Bool := S.all fun s => s.length == 128
def okW (W : List S47) : Bool := W.all fun w => decide (0 ≤ w.f0) && decide (w.f0 ≤ 63) && w.f1.length == 128
theorem okW_fit {W : List S47} : okW W = true ↔ Fit W := by
  unfold okW Fit
  simp only [List.all_eq_true, Bool.and_eq_true, decide_eq_true_eq, beq_iff_eq, and_assoc]
theorem okS_all {S : List (List Int)} : okS S = true ↔ ∀ s ∈ S, s.length = 128 := by
  unfold okS
  simp only [List.all_eq_true, beq_iff_eq]

theorem right_l1 (S : List (List Int)) (W : List S47) (hl : W.length ≤ 1000) : ∀ (d k i : Nat), i + d = W.length → d < k → portreeveref03_Right.l1 k (i : Int) S W = some (okW (W.drop i))
  | 0, k, i, hd, hk => by
    obtain ⟨k, rfl⟩ : ∃ m, k = m + 1 := ⟨k - 1, by omega⟩
    rw [portreeveref03_Right.l1, if_neg (by omega), List.drop_eq_nil_of_le (by omega)]
    rfl
  | d + 1, k, i, hd, hk => by
    obtain ⟨k, rfl⟩ : ∃ m, k = m + 1 := ⟨k - 1, by omega⟩
    have hi : i < W.length := by omega
    rw [portreeveref03_Right.l1, if_pos (by omega), if_pos (by omega), T_lt W i hi, List.drop_eq_getElem_cons hi, w64 (by omega) (by omega), show ((i : Int) + 1) = ((i + 1 : Nat) : Int) by omega]
    have ho : okW (W[i] :: W.drop (i + 1)) = ((decide (0 ≤ W[i].f0) && decide (W[i].f0 ≤ 63) && W[i].f1.length == 128) && okW (W.drop (i + 1))) := rfl
    rw [ho]
    by_cases h0 : W[i].f0 < 0
    · rw [if_pos h0, decide_eq_false (show ¬ 0 ≤ W[i].f0 by omega)]; rfl
    by_cases h1 : W[i].f0 > 63
    · rw [if_neg h0, if_pos h1, decide_eq_false (show ¬ W[i].f0 ≤ 63 by omega), Bool.and_false]; rfl
    by_cases h2 : W[i].f1.length = 128
    · rw [if_neg h0, if_neg h1, if_pos (by omega), right_l1 S W hl d k (i + 1) (by omega) (by omega), decide_eq_true (show 0 ≤ W[i].f0 by omega), decide_eq_true (show W[i].f0 ≤ 63 by omega), h2]
      rfl
    · rw [if_neg h0, if_neg h1, if_neg (by omega), beq_eq_false_iff_ne.2 h2, Bool.and_false]
      rfl
theorem right_l0 (S : List (List Int)) (W : List S47) (hS : S.length = 64) (hl : W.length ≤ 1000) : ∀ (d k i : Nat), i + d = 64 → d + 1002 ≤ k → portreeveref03_Right.l0 k (i : Int) S W = some (okS (S.drop i) && okW W)
  | 0, k, i, hd, hk => by
    obtain ⟨k, rfl⟩ : ∃ m, k = m + 1 := ⟨k - 1, by omega⟩
    rw [portreeveref03_Right.l0, if_neg (by omega), List.drop_eq_nil_of_le (by omega)]
    have := right_l1 S W hl W.length k 0 (by omega) (by omega)
    simpa [okS] using this
  | d + 1, k, i, hd, hk => by
    obtain ⟨k, rfl⟩ : ∃ m, k = m + 1 := ⟨k - 1, by omega⟩
    have hi : i < S.length := by omega
    have ho : okS (S[i] :: S.drop (i + 1)) = ((S[i].length == 128) && okS (S.drop (i + 1))) := rfl
    rw [portreeveref03_Right.l0, if_pos (by omega), if_pos (by omega), if_pos (by omega), L_lt S i hi, List.drop_eq_getElem_cons hi, ho, w64 (by omega) (by omega), show ((i : Int) + 1) = ((i + 1 : Nat) : Int) by omega]
    by_cases h : S[i].length = 128
    · rw [if_pos (by omega), right_l0 S W hS hl d k (i + 1) (by omega) (by omega), h]
      rfl
    · rw [if_neg (by omega), beq_eq_false_iff_ne.2 h]
      rfl
theorem right_own (k : Nat) (S : List (List Int)) (W : List S47) (hl : W.length ≤ 1000) (hk : 1100 ≤ k) : portreeveref03_Right.f k S W = some (S.length == 64 && (okS S && okW W)) := by
  unfold portreeveref03_Right.f
  by_cases h : S.length = 64
  · rw [if_pos (by omega), h]
    have := right_l0 S W h hl 64 k 0 (by omega) (by omega)
    simpa using this
  · rw [if_neg (by omega), beq_eq_false_iff_ne.2 h]
    rfl
theorem RD_of {S : List (List Int)} {W : List S47} (hl : W.length ≤ 1000) (h : (S.length == 64 && (okS S && okW W)) = true) : RD S W := by
  simp only [Bool.and_eq_true, beq_iff_eq] at h
  exact ⟨h.1, okS_all.1 h.2.1, okW_fit.1 h.2.2, hl⟩
theorem right_true (k : Nat) {S : List (List Int)} {W : List S47} (h : RD S W) (hk : 1100 ≤ k) : portreeveref03_Right.f k S W = some true := by
  rw [right_own k S W h.few hk, h.s64, okS_all.2 h.s128, okW_fit.2 h.fit]
  rfl

/-! the program's own -/
theorem find_S (S : List (List Int)) (h : ∀ s ∈ S, s.length = 128) (hl : S.length ≤ 1000) : ∀ (d k i : Nat), i + d = S.length → d < k → slices_IndexFunc_byte_byte.l0 k S (S.length : Int) (i : Int) = some (-1)
  | 0, k, i, hd, hk => by
    obtain ⟨k, rfl⟩ : ∃ m, k = m + 1 := ⟨k - 1, by omega⟩
    rw [slices_IndexFunc_byte_byte.l0, if_neg (by omega)]
  | d + 1, k, i, hd, hk => by
    obtain ⟨k, rfl⟩ : ∃ m, k = m + 1 := ⟨k - 1, by omega⟩
    have hi : i < S.length := by omega
    have hs := h _ (List.getElem_mem hi)
    rw [slices_IndexFunc_byte_byte.l0, if_pos (by omega), if_pos (by omega), if_pos (by omega), L_lt S i hi]
    unfold disk_Right_1.f
    rw [Option.bind_some, if_neg (by simp [hs]), w64 (by omega) (by omega), show ((i : Int) + 1) = ((i + 1 : Nat) : Int) by omega, find_S S h hl d k (i + 1) (by omega) (by omega)]
theorem find_W (W : List S47) (h : Fit W) (hl : W.length ≤ 1000) : ∀ (d k i : Nat), i + d = W.length → d < k → api_Put_39.l0 k W (W.length : Int) (i : Int) = some (-1)
  | 0, k, i, hd, hk => by
    obtain ⟨k, rfl⟩ : ∃ m, k = m + 1 := ⟨k - 1, by omega⟩
    rw [api_Put_39.l0, if_neg (by omega)]
  | d + 1, k, i, hd, hk => by
    obtain ⟨k, rfl⟩ : ∃ m, k = m + 1 := ⟨k - 1, by omega⟩
    have hi : i < W.length := by omega
    have hw := h.get i hi
    rw [api_Put_39.l0, if_pos (by omega), if_pos (by omega), if_pos (by omega), T_lt W i hi]
    unfold disk_Right_2.f disk_isSector.f
    rw [if_pos hw.1, if_pos (by omega), Option.bind_some, hw.2.2, Option.bind_some, if_neg (by decide), w64 (by omega) (by omega), show ((i : Int) + 1) = ((i + 1 : Nat) : Int) by omega, find_W W h hl d k (i + 1) (by omega) (by omega)]
theorem dright_true (k : Nat) {S : List (List Int)} {W : List S47} (h : RD S W) (hk : 1100 ≤ k) : disk_Right.f k S W = some true := by
  have h1 := find_S S h.s128 (by rw [h.s64]; omega) S.length k 0 (by omega) (by rw [h.s64]; omega)
  have h2 := find_W W h.fit h.few W.length k 0 (by omega) (by have := h.few; omega)
  unfold disk_Right.f slices_ContainsFunc_byte_byte.f slices_IndexFunc_byte_byte.f api_Put_32.f api_Put_39.f
  rw [if_pos (by have := h.s64; omega)]
  simp only [Int.ofNat_zero] at h1 h2
  rw [h1]
  simp only [Option.bind_some]
  rw [h2]
  rfl

theorem same_l1 (S : List (List Int)) (W : List S47) (hf : Fit W) (hl : W.length ≤ 1000) : ∀ (d k i : Nat), i + d = W.length → d + 200 ≤ k → portreeveref03_Same.l1 k (i : Int) S W S W = some true
  | 0, k, i, hd, hk => by
    obtain ⟨k, rfl⟩ : ∃ m, k = m + 1 := ⟨k - 1, by omega⟩
    rw [portreeveref03_Same.l1, if_neg (by omega)]
  | d + 1, k, i, hd, hk => by
    obtain ⟨k, rfl⟩ : ∃ m, k = m + 1 := ⟨k - 1, by omega⟩
    have hi : i < W.length := by omega
    have hw := hf.get i hi
    rw [portreeveref03_Same.l1, if_pos (by omega), if_pos (by omega), if_pos (by omega), T_lt W i hi, row _ _ _ (by omega) (by omega), Option.bind_some, if_pos (by simp), if_pos rfl, w64 (by omega) (by omega), show ((i : Int) + 1) = ((i + 1 : Nat) : Int) by omega, same_l1 S W hf hl d k (i + 1) (by omega) (by omega)]
theorem same_l0 {S : List (List Int)} {W : List S47} (h : RD S W) : ∀ (d k i : Nat), i + d = 64 → d + 1202 ≤ k → portreeveref03_Same.l0 k (i : Int) S W S W = some true
  | 0, k, i, hd, hk => by
    obtain ⟨k, rfl⟩ : ∃ m, k = m + 1 := ⟨k - 1, by omega⟩
    have := h.s64
    have := h.few
    rw [portreeveref03_Same.l0, if_neg (by omega)]
    exact same_l1 S W h.fit h.few W.length k 0 (by omega) (by omega)
  | d + 1, k, i, hd, hk => by
    obtain ⟨k, rfl⟩ : ∃ m, k = m + 1 := ⟨k - 1, by omega⟩
    have := h.s64
    have hr := h.get i (by omega)
    rw [portreeveref03_Same.l0, if_pos (by omega), if_pos (by omega), if_pos (by omega), row _ _ _ (by omega) (by omega), Option.bind_some, if_pos (by simp), w64 (by omega) (by omega), show ((i : Int) + 1) = ((i + 1 : Nat) : Int) by omega, same_l0 h d k (i + 1) (by omega) (by omega)]
theorem same_own (k : Nat) {S : List (List Int)} {W : List S47} (h : RD S W) (hk : 1300 ≤ k) : portreeveref03_Same.f k S W S W = some true := by
  obtain ⟨k, rfl⟩ : ∃ m, k = m + 1 := ⟨k - 1, by omega⟩
  unfold portreeveref03_Same.f
  rw [if_pos rfl, portreeveref03_Same.j0, if_neg (by simp)]
  exact same_l0 h 64 k 0 (by omega) (by omega)

theorem new_l0 : ∀ (d k i : Nat) (S : List (List Int)), i + d = 64 → S.length = 64 → d < k → ∃ S', disk_New.l0 k 64 (i : Int) S = some (S', []) ∧ S'.length = 64 ∧ ∀ j : Nat, j < 64 → rd_L2 S' (j : Int) = if i ≤ j then List.replicate 128 0 else rd_L2 S (j : Int)
  | 0, k, i, S, hd, hS, hk => by
    obtain ⟨k, rfl⟩ : ∃ m, k = m + 1 := ⟨k - 1, by omega⟩
    rw [disk_New.l0, if_neg (by omega)]
    exact ⟨S, rfl, hS, fun j hj => by rw [if_neg (by omega)]⟩
  | d + 1, k, i, S, hd, hS, hk => by
    obtain ⟨k, rfl⟩ : ∃ m, k = m + 1 := ⟨k - 1, by omega⟩
    rw [disk_New.l0, if_pos (by omega), if_pos (by omega), if_pos (by omega), if_pos (by omega), w64 (by omega) (by omega), show ((i : Int) + 1) = ((i + 1 : Nat) : Int) by omega, Int.toNat_natCast]
    obtain ⟨S', h1, h2, h3⟩ := new_l0 d k (i + 1) (S.set i (List.replicate 128 0)) (by omega) (by rw [List.length_set]; exact hS) (by omega)
    refine ⟨S', h1, h2, fun j hj => ?_⟩
    rw [h3 j hj, L_lt _ j (by rw [List.length_set]; omega), L_lt S j (by omega), List.getElem_set]
    by_cases h : i = j
    · subst h; rw [if_neg (by omega), if_pos rfl, if_pos (by omega)]
    · rw [if_neg h]
      by_cases h' : i + 1 ≤ j
      · rw [if_pos h', if_pos (by omega)]
      · rw [if_neg h', if_neg (by omega)]
theorem new_own (k : Nat) (hk : 70 ≤ k) : ∃ S, disk_New.f k = some (S, []) ∧ RD S [] ∧ ∀ j : Nat, j < 64 → rd_L2 S (j : Int) = List.replicate 128 0 := by
  obtain ⟨S, h1, h2, h3⟩ := new_l0 64 k 0 (List.replicate 64 []) (by omega) (by simp) (by omega)
  refine ⟨S, ?_, ⟨h2, ?_, by intro w hw; simp at hw, by simp⟩, fun j hj => by rw [h3 j hj, if_pos (by omega)]⟩
  · unfold disk_New.f
    rw [if_pos (by omega), Option.bind_some, List.length_replicate]
    exact h1
  · intro s hs
    obtain ⟨j, hj, rfl⟩ := List.mem_iff_getElem.1 hs
    have := h3 j (by omega)
    rw [L_lt S j hj, if_pos (by omega)] at this
    rw [this, List.length_replicate]

theorem eq_refl (l : List Int) : bytes_Equal.f l l = some true := by
  unfold bytes_Equal.f
  simp
theorem deq_S (S : List (List Int)) (hl : S.length ≤ 1000) : ∀ (d k i : Nat), i + d = S.length → d < k → slices_EqualFunc_byte_byte_byte_byte.l0 k S S (S.length : Int) (i : Int) = some true
  | 0, k, i, hd, hk => by
    obtain ⟨k, rfl⟩ : ∃ m, k = m + 1 := ⟨k - 1, by omega⟩
    rw [slices_EqualFunc_byte_byte_byte_byte.l0, if_neg (by omega)]
  | d + 1, k, i, hd, hk => by
    obtain ⟨k, rfl⟩ : ∃ m, k = m + 1 := ⟨k - 1, by omega⟩
    rw [slices_EqualFunc_byte_byte_byte_byte.l0, if_pos (by omega), if_pos (by omega), if_pos (by omega), if_pos (by omega), eq_refl, Option.bind_some, if_pos rfl, w64 (by omega) (by omega), show ((i : Int) + 1) = ((i + 1 : Nat) : Int) by omega, deq_S S hl d k (i + 1) (by omega) (by omega)]
theorem deq_W (W : List S47) (hl : W.length ≤ 1000) : ∀ (d k i : Nat), i + d = W.length → d < k → api_Put_33.l0 k W W (W.length : Int) (i : Int) = some true
  | 0, k, i, hd, hk => by
    obtain ⟨k, rfl⟩ : ∃ m, k = m + 1 := ⟨k - 1, by omega⟩
    rw [api_Put_33.l0, if_neg (by omega)]
  | d + 1, k, i, hd, hk => by
    obtain ⟨k, rfl⟩ : ∃ m, k = m + 1 := ⟨k - 1, by omega⟩
    rw [api_Put_33.l0, if_pos (by omega), if_pos (by omega), if_pos (by omega), if_pos (by omega)]
    unfold disk_Same_1.f
    rw [if_pos rfl, eq_refl, Option.bind_some, Option.bind_some, if_pos rfl, w64 (by omega) (by omega), show ((i : Int) + 1) = ((i + 1 : Nat) : Int) by omega, deq_W W hl d k (i + 1) (by omega) (by omega)]
theorem dsame_own (k : Nat) {S : List (List Int)} {W : List S47} (h : RD S W) (hk : 1100 ≤ k) : disk_Same.f k S W S W = some true := by
  have h1 := deq_S S (by rw [h.s64]; omega) S.length k 0 (by omega) (by rw [h.s64]; omega)
  have h2 := deq_W W h.few W.length k 0 (by omega) (by have := h.few; omega)
  unfold disk_Same.f api_Put_33.f slices_EqualFunc_byte_byte_byte_byte.f
  rw [if_pos rfl, if_pos rfl]
  simp only [Int.ofNat_zero] at h1 h2
  rw [h2, Option.bind_some, if_pos rfl, h1, Option.bind_some]

def b7 : List Int := (List.replicate 128 (0 : Int)).set 0 7
theorem b7_len : b7.length = 128 := by unfold b7; rw [List.length_set, List.length_replicate]
theorem shown_true (k : Nat) (h : 2200 ≤ k) : portreevelaw03_shown.f k = some true := by
  obtain ⟨S, h1, h2, h3⟩ := new_own k (by omega)
  have hF : Fit [(⟨3, b7⟩ : S47)] := by
    intro w hw
    simp only [List.mem_singleton] at hw
    subst hw
    exact ⟨by decide, by decide, b7_len⟩
  have hD : RD S [⟨3, b7⟩] := ⟨h2.s64, h2.s128, hF, by simp⟩
  have h3' := h3 3 (by omega)
  have hw : disk_Write.f S [] 3 b7 = some (S, [⟨3, b7⟩], 0) := by
    rw [write_own S [] 3 b7 (by simp) (by rw [b7_len]; omega), if_pos ⟨by decide, by decide, b7_len⟩]; rfl
  have hc := h2.done (l := []) (by intro w hw; simp at hw)
  have hf := h2.done hF
  have e3 : rd_L2 (dn S [⟨3, b7⟩]) 3 = b7 := (dn_get [⟨3, b7⟩] S 3 (by rw [h2.s64]; omega) hF).trans (by simp [lk])
  unfold portreevelaw03_shown.f portreevelaw03_shown_g.f
  rw [if_pos (by omega), Option.bind_some, if_pos (by simp), h1, Option.bind_some, show (List.replicate 128 (0 : Int)).set (0 : Int).toNat 7 = b7 from rfl]
  simp only [hw, Option.bind_some, read_own k hD 3 (by omega) (by omega) (by omega), crash_own k hD [] (by simp) (by omega), kp_nil, dn, read_own k h2 3 (by omega) (by omega) (by omega), lk, flush_own k hD (by omega)]
  rw [show dn S [(⟨3, b7⟩ : S47)] = S.set 3 b7 from rfl] at hf e3
  have er := read_own k hf 3 (by omega) (by omega) (by omega)
  have e2 : rd_L2 S 3 = List.replicate 128 0 := h3'
  rw [show (3 : Int).toNat = 3 from rfl, er, Option.bind_some, e3, lk, e2]
  simp only [if_true, dright_true k hD (by omega), dsame_own k hD (by omega), Option.bind_some, b7_len, List.length_replicate]
  rw [if_pos (by omega), if_pos (by omega), if_pos (by omega), if_pos (by omega), if_pos (by rfl), if_pos (by omega), if_pos (by rfl), if_pos (by omega)]
  rfl
end Go.Proofs.Ytnhfhepakimncaa.Pure
