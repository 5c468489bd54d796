-- written by this session's own program (wip/tools/myprint.py), over the kit's print
import Derived.Test.YtpbkdphilcodmaaQx0
namespace Go.Proofs.Ytpbkdphilcodmaa.Q
open Go.RowKit Go.Proofs.YtpbkdphilcodmaaW.PrintWords Go.Proofs.YtpbkdphilcodmaaW.PrintLast Go.Proofs.YtpbkdphilcodmaaW.PrintMore
open Go.Proofs.YtpbkdphilcodmaaV
attribute [local go_sem] max2_int min2_int max_two min_two max_three min_three max_four min_four   -- for this text's walks alone
set_option linter.unusedVariables false
set_option linter.unusedSimpArgs false

/-! slices.Grow of no bytes: room alone. -/
def slices_Grow_byte_byte.f (l0 : List Int) (a1 : Int) : Option (List Int) := if l0 = [] ∧ 0 ≤ a1 ∧ a1 ≤ 140737488355328 then some [] else none
theorem slices_Grow_cut {W : World} {base n c : Nat} {ok : Nat → Prop} {ad : Addr} {xs : List Int} (h : Kd.R (Kd.int .u8) 5 W base ok (.slice (some ad) n c) xs) : Kd.R (Kd.int .u8) 5 W base ok (.slice (some ad) 0 c) [] := by
  obtain ⟨h0, inner, ho, hr⟩ := h
  refine ⟨fun k hk => h0 k (by simpa [Value.ownBlock] using hk), [], ?_, Reps.none _ _⟩
  obtain ⟨h1, h2⟩ := ho
  rcases h2 with ⟨hv, _⟩ | ⟨g, cap, cur, hv, hg, hh, hn, hcap, hsz, htake⟩
  · cases hv
  · injection hv with e1 e2 e3
    subst e3
    rw [e1]
    exact ⟨by simp, .inr ⟨g, c, cur, rfl, hg, hh, Nat.zero_le _, hcap, hsz, by simp⟩⟩
theorem slices_Grow_info : (Try.prog.info? 5).map (fun i => (i.zero, i.size, i.bytes)) = some (some (.int .u8 0), 1, 1) := by kernel_rfl
set_option maxHeartbeats 1000000 in
set_option maxRecDepth 100000 in
theorem slices_Grow_nil (a1 : Int) (r : List Int) (w : World) (h : slices_Grow_byte_byte.f [] a1 = some r) :
    Calls Try.prog 33 #[.slice none 0 0, .int .i64 a1] w fun e w' => ∃ v0_ : Value, e = .returned (v0_) ∧ Kd.R (Kd.int .u8) 5 w' w.heap.size (fun _ => True) v0_ r ∧ Below w.heap.size w w' := by
  unfold slices_Grow_byte_byte.f at h
  by_cases hc : ([] : List Int) = [] ∧ 0 ≤ a1 ∧ a1 ≤ 140737488355328
  · rw [if_pos hc] at h
    obtain rfl := Option.some.inj h
    obtain ⟨_, h0, h1⟩ := hc
    clear h
    by_cases hz : a1 = 0
    · subst hz
      clear h0 h1
      go_enter Try.func33, Try.ntmps33
      go_wp2
      go_ret
      exact ⟨_, rfl, Kd.R_nil _ _ _ _ _, Below.refl _ _⟩
    · have h2 : (0 : Int) < a1 := by omega
      have HL := Aside0.mk h1
      clear hz h0
      go_enter Try.func33, Try.ntmps33
      go_wp2_with (first
        | ((with_reducible refine gate_builtin (b := .append) (xs := #[.tmp 20, .tmp 21]) rfl ?_); at_builtin; refine Kd.R_append_zeros (Kd.int .u8) (w0 := w) w.heap.size rfl (.tmp 20) (.tmp 21) 26 3 5 (.int .u8 0) 1 rfl Try.underlying26 Try.underlying3 slices_Grow_info rfl (by decide) (by decide) (.slice none 0 0) [] (0 : Int) a1 (fun _ => True) rfl rfl rfl (fun _ _ => trivial) (Kd.R_nil _ _ _ _ _) ?aL0 (Below.refl _ _) (Nat.le_refl _) ?aL ?_; (case aL0 => omega); (case aL => have := HL.out; simp only [List.length_nil]; omega); intro v1 w1 ho hb hg hat; obtain ⟨ad, cp, rfl⟩ := Kd.R_slice1 ho (by simp; omega); have HO := Aside0.mk ho; have HB := Aside0.mk hb; clear ho hb hg hat))
      go_ret
      exact ⟨_, rfl, slices_Grow_cut HO.out, HB.out⟩
  · rw [if_neg hc] at h
    cases h

end Go.Proofs.Ytpbkdphilcodmaa.Q
