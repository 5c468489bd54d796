/- Steps go on: with two rows, one behind the other, they are those with the one and then with the other; of an exclusive-or they are the exclusive-or, but for what the register began with. -/
import Derived.Test.YtfnmlhcpolfjaaaSayFcsOn
import Derived.Test.YtfnmlhcpolfjaaaBase
namespace Go.Proofs.Ytfnmlhcpolfjaaa.Pure
set_option linter.unusedVariables false
open Go Go.RowKit Go.Proofs.Ytfnmlhcpolfjaaa.Q Go.Proofs.YtfnmlhcpolfjaaaK Go.Proofs.YtfnmlhcpolfjaaaCrc Go.Proofs.YtfnmlhcpolfjaaaW.PrintWords Go.Proofs.YtfnmlhcpolfjaaaW.PrintLast Go.Proofs.YtfnmlhcpolfjaaaW.PrintMore

theorem toN_zeros (n : Nat) : toN (List.replicate n 0) = List.replicate n 0 := by simp [toN]
theorem B_zeros (n : Nat) : B (List.replicate n 0) := fun c hc => by
  have := (List.mem_replicate.1 hc).2
  omega

theorem FcsOn : portreevelaw01_FcsOn.Pure := by
  intro s o a b hs ho ha hb
  refine ⟨4000, ?_⟩
  have hA := B_of ha.2
  have hB := B_of hb.2
  rw [wf_u16] at hs ho
  obtain ⟨s, rfl⟩ : ∃ n : Nat, s = n := ⟨s.toNat, by omega⟩
  obtain ⟨o, rfl⟩ : ∃ n : Nat, o = n := ⟨o.toNat, by omega⟩
  have hs' : s < 65536 := by omega
  have ho' : o < 65536 := by omega
  unfold portreevelaw01_FcsOn.f
  rw [shown_true _ (by omega), Option.bind_some, w64 (by omega) (by omega)]
  by_cases h : (a.length : Int) + (b.length : Int) > 2000
  · rw [if_pos h]
  · have h1 := on_lt (toN a) hs' (toN_lt hA)
    have h2 := on_lt (List.replicate a.length 0) ho' (fun c hc => by have := (List.mem_replicate.1 hc).2; omega)
    rw [if_neg h, on_own _ s a hA (by omega) hs' (by omega), Option.bind_some, on_own _ _ b hB (by omega) h1 (by omega), Option.bind_some, Option.bind_some, if_pos (by simp; omega), Option.bind_some, if_pos (by simp; omega)]
    simp only [List.nil_append]
    rw [on_own _ s (a ++ b) (B_append hA hB) (by simp; omega) hs' (by simp; omega), Option.bind_some, toN_append, on_append, if_pos rfl, if_pos trivial, xor16 s o hs' ho', on_own _ _ a hA (by omega) (Nat.xor_lt_two_pow (n := 16) hs' ho') (by omega), Option.bind_some, Option.bind_some, if_pos (by omega), if_pos (by omega), Int.toNat_natCast]
    rw [on_own _ o _ (B_zeros _) (by simp; omega) ho' (by simp; omega), Option.bind_some, toN_zeros, xor16 _ _ h1 h2, on_xor, toN_length]
    simp
end Go.Proofs.Ytfnmlhcpolfjaaa.Pure
