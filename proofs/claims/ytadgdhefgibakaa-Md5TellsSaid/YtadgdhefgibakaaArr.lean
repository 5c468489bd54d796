/- An array that is cut whole: its cells as a row; a row of whole blocks. -/
import Derived.Test.YtadgdhefgibakaaPureKit
import Derived.Test.YtadgdhefgibakaaNm
import Derived.Test.YtadgdhefgibakaaQx1
namespace Go.Proofs.Ytadgdhefgibakaa.Pure
set_option linter.unusedVariables false
open Go Go.RowKit Go.Proofs.Ytadgdhefgibakaa.Q Go.Proofs.YtadgdhefgibakaaK Go.Proofs.YtadgdhefgibakaaV Go.Proofs.YtadgdhefgibakaaW.PrintWords Go.Proofs.YtadgdhefgibakaaW.PrintLast Go.Proofs.YtadgdhefgibakaaW.PrintMore

theorem C_nums {W : World} {g : Nat} {t : TypeId} {xs : List Int} (h : Nums W g t .u8 xs) (hl : xs.length ≤ 9223372036854775807) : Kd.C (Kd.int .u8) W (some ⟨g, 0, none⟩) xs.length xs := by
  refine Kd.C_of_reads (d := (0 : Int)) (h1 := fun _ => rfl) ⟨rfl, hl, fun _ => ⟨_, rfl, fun i hi => ?_⟩⟩
  have e : Addr.add ⟨g, 0, none⟩ i = ⟨g, i, none⟩ := by
    unfold Addr.add
    split
    · rename_i h0
      subst h0
      rfl
    · simp
  rw [e]
  exact h.at_ hi
/-- k times the same block. -/
def rep (k : Nat) (ms : List Int) : List Int := (List.replicate k ms).flatten
theorem rep_succ (k : Nat) (ms : List Int) : rep (k + 1) ms = ms ++ rep k ms := by
  unfold rep
  rw [List.replicate_succ, List.flatten_cons]
theorem rep_snoc (ms : List Int) : ∀ k, rep (k + 1) ms = rep k ms ++ ms
  | 0 => by simp [rep]
  | k + 1 => by rw [rep_succ, rep_snoc ms k, ← List.append_assoc, ← rep_succ, rep_snoc ms k]
theorem rep_length (ms : List Int) (h : ms.length = 64) : ∀ k, (rep k ms).length = 64 * k
  | 0 => rfl
  | k + 1 => by rw [rep_succ, List.length_append, rep_length ms h k, h]; omega
theorem rep_chunk (ms rest : List Int) (h : ms.length = 64) : ∀ (k i : Nat), i < k → ((rep k ms ++ rest).take (64 * i + 64)).drop (64 * i) = ms
  | 0, i, hi => absurd hi (Nat.not_lt_zero i)
  | k + 1, 0, _ => by
    rw [rep_succ, List.append_assoc]
    show ((ms ++ (rep k ms ++ rest)).take 64).drop 0 = ms
    rw [List.drop_zero, List.take_left' h]
  | k + 1, i + 1, hi => by
    have ih := rep_chunk ms rest h k i (by omega)
    rw [rep_succ, List.append_assoc, show 64 * (i + 1) + 64 = ms.length + (64 * i + 64) by omega, List.take_append, List.drop_append, List.take_of_length_le (by omega), List.drop_of_length_le (by omega), List.nil_append]
    rw [show ms.length + (64 * i + 64) - ms.length = 64 * i + 64 by omega, show 64 * (i + 1) - ms.length = 64 * i by omega]
    exact ih
theorem ints_cells {k : IntKind} : ∀ (ms : List Int) (cs : List Value), cs.length = ms.length → (∀ j p, ms[j]? = some p → (cs.drop j).take 1 = [Value.int k p]) → cs = ms.map (Value.int k)
  | [], cs, hl, _ => List.eq_nil_of_length_eq_zero hl
  | m :: ms, [], hl, _ => by simp at hl
  | m :: ms, c :: cs, hl, h => by
    have h0 := h 0 m rfl
    simp only [List.drop_zero, List.take_succ_cons, List.take_zero, List.cons.injEq, and_true] at h0
    subst h0
    rw [List.map_cons, ← ints_cells ms cs (by simpa using hl) (fun j p hj => by simpa using h (j + 1) p (by simpa using hj))]
theorem arr_ints {W : World} {n : Nat} {k : IntKind} {hs : 0 < (Kd.int k).sz} {cs : Array Value} {ms : List Int} (h : (Kd.arr n (Kd.int k) hs).K W ms cs.toList) : ms.length = n ∧ cs = (ms.map (Value.int k)).toArray := by
  obtain ⟨hl, hlen, hp⟩ := h
  refine ⟨hl, ?_⟩
  have hlen' : cs.toList.length = ms.length := by
    rw [hlen]
    exact Nat.mul_one _
  have := ints_cells (k := k) ms cs.toList hlen' (fun j p hj => by
    have h1 := hp j p hj
    have h2 : ((cs.toList.drop (j * 1)).take 1) = [Value.int k p] := h1
    rwa [Nat.mul_one] at h2)
  rw [← this]
end Go.Proofs.Ytadgdhefgibakaa.Pure
