/- What is padded, and digests, over plain rows. -/
import Derived.Test.YtpbkdphilcodmaaQx2
import Derived.Test.YtpbkdphilcodmaaQx3
import Derived.Test.YtpbkdphilcodmaaQx5
import Derived.Test.YtpbkdphilcodmaaPureKit
namespace Go.Proofs.Ytpbkdphilcodmaa.Pure
set_option linter.unusedVariables false
open Go Go.RowKit Go.Proofs.Ytpbkdphilcodmaa.Q Go.Proofs.YtpbkdphilcodmaaK Go.Proofs.YtpbkdphilcodmaaV Go.Proofs.YtpbkdphilcodmaaW.PrintWords Go.Proofs.YtpbkdphilcodmaaW.PrintLast Go.Proofs.YtpbkdphilcodmaaW.PrintMore

/-- How many noughts are put behind. -/
def zn (n : Nat) : Nat := (119 - n % 64) % 64
/-- How many bits there were, as eight bytes. -/
def lb (n : Nat) : List Int := [((8 * n : Nat) : Int) % 256, ((8 * n : Nat) : Int) / 256, 0, 0, 0, 0, 0, 0]
def pad (l : List Int) : List Int := l ++ [128] ++ List.replicate (zn l.length) 0 ++ lb l.length

theorem zn_lt (n : Nat) : zn n < 64 := by unfold zn; omega
theorem pad_length (l : List Int) : (pad l).length = l.length + 9 + zn l.length := by
  simp only [pad, lb, List.length_append, List.length_cons, List.length_nil, List.length_replicate]
  omega
theorem pad_mod (l : List Int) : (pad l).length % 64 = 0 := by
  rw [pad_length]
  unfold zn
  omega

def lenb (n : Int) (i : Nat) : Nat → List Int
  | 0 => []
  | d + 1 => (n / 2 ^ (8 * i) % 256) :: lenb n (i + 1) d
theorem pad_l1 (n : Int) : ∀ (d k i : Nat) (x3 : List Int), i + d = 8 → d < k → x3.length + d < 140737488355328 → md5_Pad.l1 k x3 n i = some (x3 ++ lenb n i d)
  | 0, k, i, x3, hi, hk, hl => by
    obtain ⟨k, rfl⟩ : ∃ m, k = m + 1 := ⟨k - 1, by omega⟩
    simp only [md5_Pad.l1, lenb, List.append_nil]
    rw [if_neg (by omega)]
  | d + 1, k, i, x3, hi, hk, hl => by
    obtain ⟨k, rfl⟩ : ∃ m, k = m + 1 := ⟨k - 1, by omega⟩
    simp only [md5_Pad.l1, lenb]
    rw [if_pos (by omega), w64 (by omega) (by omega), if_pos (by omega), if_pos (by omega), w64 (by omega) (by omega), show ((i : Int) + 1) = ((i + 1 : Nat) : Int) by omega, pad_l1 n d k (i + 1) _ (by omega) (by omega) (by simp; omega)]
    rw [List.append_assoc]
    congr 2
    show [_] ++ _ = _
    rw [List.singleton_append]
    congr 1
    unfold shr
    rw [show (8 * (i : Int)).toNat = 8 * i by omega, Nat.min_eq_left (show 8 * i ≤ IntKind.u64.bits by show 8 * i ≤ 64; omega)]
theorem lenb_lb (n : Nat) (hn : n ≤ 8000) : lenb (8 * n : Nat) 0 8 = lb n := by
  have h : ∀ j, 2 ≤ j → (((8 * n : Nat) : Int) / 2 ^ (8 * j) % 256) = 0 := by
    intro j hj
    have h1 : ((8 * n : Nat) : Int) / 2 ^ (8 * j) = 0 := by
      apply Int.ediv_eq_zero_of_lt (by omega)
      have h2 : (2 : Int) ^ 16 ≤ 2 ^ (8 * j) := by
        have : (2 : Nat) ^ 16 ≤ 2 ^ (8 * j) := Nat.pow_le_pow_right (by omega) (by omega)
        exact_mod_cast this
      have h3 : (2 : Int) ^ 16 = 65536 := by decide
      omega
    rw [h1]
    rfl
  simp only [lenb, lb]
  rw [h 2 (by omega), h 3 (by omega), h 4 (by omega), h 5 (by omega), h 6 (by omega), h 7 (by omega)]
  congr 1
  · congr 1
    simp
  · congr 1
    show _ / 2 ^ (8 * 1) % 256 = _
    rw [show (2 : Int) ^ (8 * 1) = 256 by decide]
    omega
theorem pad_l0 (x0 : List Int) (hx : x0.length ≤ 8000) : ∀ (m k : Nat) (x3 : List Int), m < 64 → (x3.length + m) % 64 = 56 → m + 10 < k → x3.length + m ≤ 20000 → md5_Pad.l0 k x0 x3 = some (x3 ++ List.replicate m 0 ++ lb x0.length)
  | 0, k, x3, hm, h, hk, hl => by
    obtain ⟨k, rfl⟩ : ∃ m, k = m + 1 := ⟨k - 1, by omega⟩
    simp only [md5_Pad.l0]
    rw [if_pos (by omega)]
    have e : IntKind.u64.wrap (IntKind.u64.wrap (x0.length : Int) * 8) = ((8 * x0.length : Nat) : Int) := by rw [wu64, wu64]; omega
    rw [e]
    have := pad_l1 ((8 * x0.length : Nat) : Int) 8 k 0 x3 rfl (by omega) (by omega)
    rw [lenb_lb _ hx] at this
    simpa using this
  | m + 1, k, x3, hm, h, hk, hl => by
    obtain ⟨k, rfl⟩ : ∃ m, k = m + 1 := ⟨k - 1, by omega⟩
    simp only [md5_Pad.l0]
    rw [if_neg (by omega), if_pos (by omega), pad_l0 x0 hx m k (x3 ++ [0]) (by omega) (by simp; omega) (by omega) (by simp; omega)]
    rw [List.replicate_succ, List.append_assoc x3]
    rfl
theorem pad_f (l : List Int) (k : Nat) (hl : l.length ≤ 8000) (hk : 80 ≤ k) : md5_Pad.f k l = some (pad l) := by
  unfold md5_Pad.f slices_Clone_byte_byte.f
  rw [if_pos (by omega)]
  show (if l.length < 140737488355328 then md5_Pad.l0 k l (l ++ [128]) else none) = _
  have hz := zn_lt l.length
  rw [if_pos (by omega), pad_l0 l hl (zn l.length) k (l ++ [128]) hz (by simp only [List.length_append, List.length_cons, List.length_nil]; unfold zn; omega) (by omega) (by simp; omega)]
  rfl
theorem pad_inj {a b : List Int} (ha : a.length ≤ 8000) (hb : b.length ≤ 8000) (h : pad a = pad b) : a = b := by
  unfold pad at h
  obtain ⟨h1, h2⟩ := List.append_inj' h (by simp [lb])
  have hlen : a.length = b.length := by
    simp only [lb, List.cons.injEq, and_true] at h2
    obtain ⟨e1, e2⟩ := h2
    omega
  rw [List.append_assoc, List.append_assoc] at h1
  exact (List.append_inj h1 hlen).1
/-- A digest. -/
def dig (l : List Int) : Int × Int × Int × Int × Int × Int × Int × Int × Int × Int × Int × Int × Int × Int × Int × Int := tup16 (md5_Sum.outs (md5_Sum.st (pad l) (List.range ((pad l).length / 64))) 16)
theorem sum_f (l : List Int) (k : Nat) (hl : l.length ≤ 8000) (hk : 80 ≤ k) : md5_Sum.f k l = some (dig l) := by
  unfold md5_Sum.f
  rw [pad_f l k hl hk]
  show (if (pad l).length % 64 = 0 ∧ 0 < (pad l).length ∧ (pad l).length ≤ 140737488355328 then some (tup16 (md5_Sum.outs (md5_Sum.st (pad l) (List.range ((pad l).length / 64))) 16)) else none) = _
  have h1 := pad_length l
  have h2 := zn_lt l.length
  rw [if_pos ⟨pad_mod l, by omega, by omega⟩]
  rfl
end Go.Proofs.Ytpbkdphilcodmaa.Pure
