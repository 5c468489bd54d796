/- A step with a byte is eight steps of a bit: with nought for the byte the register is only moved; a byte is as good as the register turned by it. -/
import Derived.Test.YtfnmlhcpolfjaaaSayFcsBits
import Derived.Test.YtfnmlhcpolfjaaaBase
namespace Go.Proofs.Ytfnmlhcpolfjaaa.Pure
set_option linter.unusedVariables false
open Go Go.RowKit Go.Proofs.Ytfnmlhcpolfjaaa.Q Go.Proofs.YtfnmlhcpolfjaaaK Go.Proofs.YtfnmlhcpolfjaaaCrc Go.Proofs.YtfnmlhcpolfjaaaW.PrintWords Go.Proofs.YtfnmlhcpolfjaaaW.PrintLast Go.Proofs.YtfnmlhcpolfjaaaW.PrintMore

theorem bits_l0 (s c : Nat) (hs : s < 65536) (hc : c < 256) : ∀ (j k n : Nat) (i : Int), n < 65536 → i + j = 8 → 0 ≤ i → j + 30 < k → sn j n = st s c → portreevelaw01_FcsBits.l0 k s c true n i = some true
  | 0, k, n, i, hn, hi, h0, hk, e => by
    obtain ⟨k, rfl⟩ : ∃ m, k = m + 1 := ⟨k - 1, by omega⟩
    simp only [portreevelaw01_FcsBits.l0]
    have e' : n = st s c := e
    have hx : s ^^^ c < 65536 := Nat.xor_lt_two_pow (n := 16) hs (by omega)
    rw [if_neg (by omega), if_pos trivial, step _ s c hs hc (by omega), Option.bind_some, ← e', if_pos rfl, wr_u16 _ (by omega) (by omega), xor16 s c hs (by omega)]
    have z := step k (s ^^^ c) 0 hx (by omega) (by omega)
    have ez : st (s ^^^ c) 0 = st s c := by
      unfold st
      rw [Nat.xor_zero]
    rw [ez] at z
    rw [show (0 : Int) = ((0 : Nat) : Int) from rfl, z, Option.bind_some, ← e', if_pos rfl]
    have hb : B [((c : Nat) : Int)] := fun x hx => by
      simp only [List.mem_cons, List.not_mem_nil, or_false] at hx
      omega
    rw [on_own _ s _ hb (by simp) hs (by simp; omega), Option.bind_some]
    have : on s (toN [((c : Nat) : Int)]) = st s c := by rw [show toN [((c : Nat) : Int)] = [c] by simp [toN], on_cons, on_nil]
    rw [this, ← e']
    simp
  | j + 1, k, n, i, hn, hi, h0, hk, e => by
    obtain ⟨k, rfl⟩ : ∃ m, k = m + 1 := ⟨k - 1, by omega⟩
    simp only [portreevelaw01_FcsBits.l0]
    rw [if_pos (by omega), Int.tmod_eq_emod_of_nonneg (by omega), Int.tdiv_eq_ediv_of_nonneg (by omega), wr_u16 _ (by omega) (by omega), w64 (show _ ≤ i + 1 by omega) (by omega), half]
    by_cases h1 : n % 2 = 1
    · rw [if_pos (by omega), show (33800 : Int) = ((33800 : Nat) : Int) from rfl, xor16 _ _ (by omega) (by omega)]
      have e1 : n / 2 ^^^ 33800 = s1 n := by unfold s1; rw [if_pos h1]
      rw [e1]
      exact bits_l0 s c hs hc j k (s1 n) (i + 1) (s1_lt hn) (by omega) (by omega) (by omega) e
    · rw [if_neg (by omega)]
      have e1 : n / 2 = s1 n := by unfold s1; rw [if_neg h1]
      rw [e1]
      exact bits_l0 s c hs hc j k (s1 n) (i + 1) (s1_lt hn) (by omega) (by omega) (by omega) e

theorem FcsBits : portreevelaw01_FcsBits.Pure := by
  intro s c hs hc
  refine ⟨100, ?_⟩
  rw [wf_u16] at hs
  rw [wf_u8] at hc
  obtain ⟨s, rfl⟩ : ∃ n : Nat, s = n := ⟨s.toNat, by omega⟩
  obtain ⟨c, rfl⟩ : ∃ n : Nat, c = n := ⟨c.toNat, by omega⟩
  unfold portreevelaw01_FcsBits.f
  rw [shown_true _ (by omega), Option.bind_some, wr_u16 _ (by omega) (by omega), xor16 s c (by omega) (by omega)]
  exact bits_l0 s c (by omega) (by omega) 8 100 _ 0 (Nat.xor_lt_two_pow (n := 16) (by omega) (by omega)) (by omega) (by omega) (by omega) rfl
end Go.Proofs.Ytfnmlhcpolfjaaa.Pure
