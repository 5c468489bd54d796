-- written by this session's own program (wip/tools/myprint.py), over the kit's print
import Derived.Test.YtgijfaecplodfaaQx0
import Derived.Test.YtgijfaecplodfaaMp
namespace Go.Proofs.Ytgijfaecplodfaa.Q
open Go.RowKit Go.Proofs.YtgijfaecplodfaaW.PrintWords Go.Proofs.YtgijfaecplodfaaW.PrintLast Go.Proofs.YtgijfaecplodfaaW.PrintMore
open Go.Proofs.YtgijfaecplodfaaV
attribute [local go_sem] max2_int min2_int max_two min_two max_three min_three max_four min_four   -- for this text's walks alone
set_option linter.unusedVariables false
set_option linter.unusedSimpArgs false

/-! pack.Known: is a code one of a protocol's? (It asks a map that it makes.) -/
open Go.Proofs.YtgijfaecplodfaaM
def pack_Known.f (a0 a1 : Int) : Option (Bool) := some (decide ((a0 = 49185 ∧ 1 ≤ a1 ∧ a1 ≤ 11) ∨ (a0 = 49699 ∧ 1 ≤ a1 ∧ a1 ≤ 4) ∨ (a0 = 32801 ∧ 1 ≤ a1 ∧ a1 ≤ 7)))
def pack_es : Array MapEntry := #[{ key := .int .u16 49185, val := .agg #[.int .u8 1, .int .u8 11], born := 0 }, { key := .int .u16 49699, val := .agg #[.int .u8 1, .int .u8 4], born := 1 }, { key := .int .u16 32801, val := .agg #[.int .u8 1, .int .u8 7], born := 2 }]
def pack_isCodes (w : World) (e : Ending) (w' : World) : Prop := ∃ b, e = .returned (.map (some b)) ∧ w'.heap[b]? = some (.map pack_es 3) ∧ Below w.heap.size w w'
theorem pack_key (n : Int) : MapKept.IsKey (.int .u16) (.int .u16 n) := by simp [MapKept.IsKey]
set_option maxHeartbeats 1000000 in
theorem pack_codes_calls (w : World) : Calls Try.prog 20 #[] w (pack_isCodes w) := by
  have hm : Try.prog.underlying 50 = some (.map 39 48) := Try.underlying50
  have hk : Try.prog.underlying 39 = some (.int .u16) := Try.underlying39
  have h0 : (w.alloc (.map #[] 0)).heap[w.heap.size]? = some (.map #[] 0) := (MapKept.heap_alloc w _).1
  obtain ⟨W1, r1, b1, g1⟩ := put_new (val := .agg #[.int .u8 1, .int .u8 11]) hm hk h0 (pack_key 49185) (by rfl)
  obtain ⟨W2, r2, b2, g2⟩ := put_new (val := .agg #[.int .u8 1, .int .u8 4]) hm hk b1 (pack_key 49699) (by rfl)
  obtain ⟨W3, r3, b3, g3⟩ := put_new (val := .agg #[.int .u8 1, .int .u8 7]) hm hk b2 (pack_key 32801) (by rfl)
  have HB := Aside0.mk (g3 _ _ (Nat.le_refl _) (g2 _ _ (Nat.le_refl _) (g1 _ _ (Nat.le_refl _) ((Below.refl w.heap.size w).alloc (Nat.le_refl _) (.map #[] 0)))))
  have HH := Aside0.mk b3
  clear h0 b1 b2 b3 g1 g2 g3 hm hk
  have hu := Try.underlying48
  have hmm : ∀ W : World, (Instr.makeMap 50 none).run Try.prog W = .ok (.map (some W.heap.size)) (W.alloc (.map #[] 0)) := fun _ => rfl
  go_enter Try.func20, Try.ntmps20
  go_wp2
  go_ret
  exact ⟨_, rfl, HH.out, HB.out⟩
set_option maxHeartbeats 2000000 in
theorem pack_Known.walk (p a1 lo hi : Int) (ok : Bool) (w : World)
    (hl : ∀ W b c, W.heap[b]? = some (.map pack_es c) → (Instr.lookup 50 (.map (some b)) (.int .u16 p) true).run Try.prog W = .ok (.tuple #[.agg #[.int .u8 lo, .int .u8 hi], .bool ok]) W) :
    Calls Try.prog 16 #[.int .u16 p, .int .u8 a1] w fun e w' => e = .returned (.bool (ok && (decide (lo ≤ a1) && decide (a1 ≤ hi)))) ∧ Below w.heap.size w w' := by
  have HL := Aside0.mk hl
  clear hl
  have hu := Try.underlying48
  cases ok with
  | false =>
    go_enter Try.func16, Try.ntmps16
    go_wp2_with (go_at_call 20; refine (pack_codes_calls w).mono ?_; rintro e w1 ⟨b, rfl, hb, hB⟩; have hrun := HL.out _ _ _ hb; have HB := Aside0.mk hB; clear hb hB)
    go_ret
    exact ⟨by simp, by repeat (first | exact HB.out | apply pA | apply pN | apply pD | refine pS ?_ (below_size HB.out))⟩
  | true =>
    by_cases h1 : lo ≤ a1
    · have d1 : decide (lo ≤ a1) = true := decide_eq_true h1
      by_cases h2 : a1 ≤ hi
      · have d2 : decide (a1 ≤ hi) = true := decide_eq_true h2
        clear h1 h2
        go_enter Try.func16, Try.ntmps16
        go_wp2_with (go_at_call 20; refine (pack_codes_calls w).mono ?_; rintro e w1 ⟨b, rfl, hb, hB⟩; have hrun := HL.out _ _ _ hb; have HB := Aside0.mk hB; clear hb hB)
        go_ret
        exact ⟨by simp [d1, d2], by repeat (first | exact HB.out | apply pA | apply pN | apply pD | refine pS ?_ (below_size HB.out))⟩
      · have d2 : decide (a1 ≤ hi) = false := decide_eq_false h2
        clear h1 h2
        go_enter Try.func16, Try.ntmps16
        go_wp2_with (go_at_call 20; refine (pack_codes_calls w).mono ?_; rintro e w1 ⟨b, rfl, hb, hB⟩; have hrun := HL.out _ _ _ hb; have HB := Aside0.mk hB; clear hb hB)
        go_ret
        exact ⟨by simp [d1, d2], by repeat (first | exact HB.out | apply pA | apply pN | apply pD | refine pS ?_ (below_size HB.out))⟩
    · have d1 : decide (lo ≤ a1) = false := decide_eq_false h1
      clear h1
      go_enter Try.func16, Try.ntmps16
      go_wp2_with (go_at_call 20; refine (pack_codes_calls w).mono ?_; rintro e w1 ⟨b, rfl, hb, hB⟩; have hrun := HL.out _ _ _ hb; have HB := Aside0.mk hB; clear hb hB)
      go_ret
      exact ⟨by simp [d1], by repeat (first | exact HB.out | apply pA | apply pN | apply pD | refine pS ?_ (below_size HB.out))⟩
theorem pack_Known.calls (a0 : Int) (a1 : Int) (r : Bool) (w : World) (h : pack_Known.f a0 a1 = some r) :
    Calls Try.prog 16 #[.int .u16 a0, .int .u8 a1] w fun e w' => e = .returned (.bool r) ∧ Below w.heap.size w w' := by
  obtain rfl := Option.some.inj h
  have hm : Try.prog.underlying 50 = some (.map 39 48) := Try.underlying50
  have hk : Try.prog.underlying 39 = some (.int .u16) := Try.underlying39
  by_cases e1 : a0 = 49185
  · subst e1
    refine (pack_Known.walk 49185 a1 1 11 true w (fun W b c hb => get_there hm hk hb (pack_key _) (by rfl))).mono ?_
    rintro e w' ⟨rfl, hB⟩
    exact ⟨by congr 2; rw [Bool.eq_iff_iff]; simp, hB⟩
  by_cases e2 : a0 = 49699
  · subst e2
    refine (pack_Known.walk 49699 a1 1 4 true w (fun W b c hb => get_there hm hk hb (pack_key _) (by rfl))).mono ?_
    rintro e w' ⟨rfl, hB⟩
    exact ⟨by congr 2; rw [Bool.eq_iff_iff]; simp, hB⟩
  by_cases e3 : a0 = 32801
  · subst e3
    refine (pack_Known.walk 32801 a1 1 7 true w (fun W b c hb => get_there hm hk hb (pack_key _) (by rfl))).mono ?_
    rintro e w' ⟨rfl, hB⟩
    exact ⟨by congr 2; rw [Bool.eq_iff_iff]; simp, hB⟩
  · refine (pack_Known.walk a0 a1 0 0 false w (fun W b c hb => get_none hm hk hb (pack_key _) (by simp [pack_es, Instr.findNow, Instr.sameNow, beq_eq_false_iff_ne.2 e1, beq_eq_false_iff_ne.2 e2, beq_eq_false_iff_ne.2 e3]) (by kernel_rfl))).mono ?_
    rintro e w' ⟨rfl, hB⟩
    exact ⟨by congr 2; rw [Bool.eq_iff_iff]; simp [e1, e2, e3], hB⟩

end Go.Proofs.Ytgijfaecplodfaa.Q
