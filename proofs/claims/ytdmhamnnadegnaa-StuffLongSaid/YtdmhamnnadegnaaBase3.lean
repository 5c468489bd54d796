/- What the laws of stuffing rest on, over plain rows. -/
import Derived.Test.YtdmhamnnadegnaaPureKit
import Derived.Test.YtdmhamnnadegnaaShown
namespace Go.Proofs.Ytdmhamnnadegnaa.Pure
set_option linter.unusedVariables false
open Go Go.RowKit Go.Proofs.Ytdmhamnnadegnaa.Q Go.Proofs.YtdmhamnnadegnaaK Go.Proofs.YtdmhamnnadegnaaW.PrintWords Go.Proofs.YtdmhamnnadegnaaW.PrintLast Go.Proofs.YtdmhamnnadegnaaW.PrintMore

theorem tm {a c : Int} (ha : 0 ≤ a ∧ a ≤ 4294967295) (h0 : 0 ≤ c) (h1 : c < 32) : (Int.tmod (shr .u32 a c) 2 == 1) = abit a c := by
  rw [shr_lt h0 h1, Int.tmod_eq_emod_of_nonneg (div_range c.toNat ha).1]
  unfold abit
  rw [Bool.eq_iff_iff]
  simp

theorem E_clean (a : Int) : ∀ {l : List Int}, B l → ∀ c ∈ E a l, (0 ≤ c ∧ c ≤ 255) ∧ c ≠ 126 ∧ (c < 32 → abit a c = false)
  | [], _ => by simp [E]
  | c :: t, h => by
    have hc := h c (by simp)
    have ht := E_clean a (l := t) (fun x hx => h x (List.mem_cons_of_mem _ hx))
    intro x hx
    rw [E_cons, List.mem_append] at hx
    rcases hx with hx | hx
    · by_cases he : esc a c = true
      · rw [if_pos he] at hx
        simp only [List.mem_cons, List.not_mem_nil, or_false] at hx
        rcases hx with rfl | rfl
        · exact ⟨by omega, by omega, by omega⟩
        · unfold esc at he
          simp only [Bool.or_eq_true, beq_iff_eq, Bool.and_eq_true, decide_eq_true_eq] at he
          rcases he with (rfl | rfl) | ⟨h3, _⟩
          · rw [x32_126]; exact ⟨by omega, by omega, by omega⟩
          · rw [x32_125]; exact ⟨by omega, by omega, by omega⟩
          · have := (x32_facts hc).2.2 h3
            exact ⟨(x32_facts hc).1, by omega, by omega⟩
      · rw [if_neg he] at hx
        simp only [List.mem_cons, List.not_mem_nil, or_false] at hx
        subst hx
        unfold esc at he
        simp only [Bool.or_eq_true, beq_iff_eq, Bool.and_eq_true, decide_eq_true_eq, not_or, not_and] at he
        exact ⟨hc, he.1.1, fun h3 => by simpa using he.2 h3⟩
    · exact ht x hx

theorem abit_all {c : Int} (h0 : 0 ≤ c) (h1 : c < 32) : abit 4294967295 c = true := by
  have : ∀ n : Fin 32, abit 4294967295 (n.val : Int) = true := by decide +kernel
  have := this ⟨c.toNat, by omega⟩
  rwa [show ((c.toNat : Nat) : Int) = c by omega] at this

theorem E_high {l : List Int} (hB : B l) (c : Int) (h : c ∈ E 4294967295 l) : 32 ≤ c := by
  have := E_clean 4294967295 hB c h
  by_cases h3 : c < 32
  · rw [abit_all this.1.1 h3] at this
    exact absurd (this.2.2 h3) (by simp)
  · omega

theorem bit_test (m : Nat) (c : Int) : abit (m : Int) c = m.testBit c.toNat := by
  unfold abit
  rw [Nat.testBit_eq_decide_div_mod_eq, Bool.eq_iff_iff]
  simp only [decide_eq_true_eq]
  have : ((2 : Int) ^ c.toNat) = ((2 ^ c.toNat : Nat) : Int) := by simp
  rw [this]
  constructor
  · intro h; have := congrArg Int.toNat h; omega
  · intro h; omega

theorem or_range {a b : Int} (ha : 0 ≤ a ∧ a ≤ 4294967295) (hb : 0 ≤ b ∧ b ≤ 4294967295) : (0 ≤ Go.bits .or .u32 a b ∧ Go.bits .or .u32 a b ≤ 4294967295) ∧ ∀ c, abit a c = true → abit (Go.bits .or .u32 a b) c = true := by
  obtain ⟨m, rfl⟩ : ∃ n : Nat, a = n := ⟨a.toNat, by omega⟩
  obtain ⟨n, rfl⟩ : ∃ n : Nat, b = n := ⟨b.toNat, by omega⟩
  rw [(bits_nat .u32 32 (by decide) wr_u32 m n (by omega) (by omega)).2]
  have := Nat.or_lt_two_pow (x := m) (y := n) (n := 32) (by omega) (by omega)
  refine ⟨by omega, fun c h => ?_⟩
  rw [bit_test] at h ⊢
  rw [Nat.testBit_or, h, Bool.true_or]

theorem E_mono {a b : Int} (h : ∀ c, abit a c = true → abit b c = true) : ∀ l : List Int, (E a l).length ≤ (E b l).length
  | [] => by simp [E]
  | c :: t => by
    have := E_mono h t
    have he : esc a c = true → esc b c = true := by
      unfold esc
      simp only [Bool.or_eq_true, beq_iff_eq, Bool.and_eq_true, decide_eq_true_eq]
      rintro (h1 | ⟨h1, h2⟩)
      · exact Or.inl h1
      · exact Or.inr ⟨h1, h _ h2⟩
    rw [E_cons, E_cons, List.length_append, List.length_append]
    by_cases h1 : esc a c = true
    · rw [if_pos h1, if_pos (he h1)]; omega
    · rw [if_neg h1]
      split <;> simp only [List.length_cons, List.length_nil] <;> omega

/-! frames one behind the other -/
def Se (a : Int) : List (List Int) → List Int
  | [] => []
  | l :: r => send a l ++ Se a r
def On (a : Int) : List (List Int) → List Int
  | [] => []
  | l :: r => 126 :: E a l ++ On a r
theorem Sg_Se (a : Int) : ∀ r : List (List Int), (∀ l ∈ r, B l ∧ 1 ≤ l.length ∧ l.length ≤ 700) → Sg [] (Se a r) = r
  | [], _ => rfl
  | l :: r, h => by
    have h1 := h l (by simp)
    have := E_length a l
    rw [Se, Sg_send a h1.1 h1.2.1 (by omega), Sg_Se a r (fun x hx => h x (List.mem_cons_of_mem _ hx))]
theorem Sg_On (a : Int) : ∀ r : List (List Int), (∀ l ∈ r, B l ∧ 1 ≤ l.length ∧ l.length ≤ 700) → ∃ t, On a r ++ [126] = 126 :: t ∧ Sg [] t = r
  | [], _ => ⟨[], rfl, rfl⟩
  | l :: r, h => by
    have h1 := h l (by simp)
    have := E_length a l
    obtain ⟨t, ht, hr⟩ := Sg_On a r (fun x hx => h x (List.mem_cons_of_mem _ hx))
    refine ⟨E a l ++ 126 :: t, ?_, ?_⟩
    · rw [On, List.append_assoc, ht]; rfl
    · rw [Sg_E a h1.1 h1.2.1 (by omega), hr]
theorem Se_snoc (a : Int) (l : List Int) : ∀ r : List (List Int), Se a (r ++ [l]) = Se a r ++ send a l
  | [] => by simp [Se]
  | m :: r => by simp only [List.cons_append, Se, Se_snoc a l r, List.append_assoc]
theorem On_snoc (a : Int) (l : List Int) : ∀ r : List (List Int), On a (r ++ [l]) = On a r ++ [126] ++ E a l
  | [] => by simp [On]
  | m :: r => by simp only [List.cons_append, On, On_snoc a l r, List.append_assoc]
theorem SeOn_length (a : Int) : ∀ r : List (List Int), (∀ l ∈ r, 1 ≤ l.length ∧ l.length ≤ 700) → (Se a r).length ≤ 1402 * r.length ∧ (On a r).length ≤ 1402 * r.length
  | [], _ => by simp [Se, On]
  | l :: r, h => by
    have h1 := h l (by simp)
    have := send_length a l
    have := E_length a l
    have := SeOn_length a r (fun x hx => h x (List.mem_cons_of_mem _ hx))
    simp only [Se, On, List.length_append, List.length_cons]
    omega
theorem Se_B (a : Int) : ∀ r : List (List Int), (∀ l ∈ r, B l) → B (Se a r) ∧ B (On a r)
  | [], _ => ⟨by intro c hc; simp [Se] at hc, by intro c hc; simp [On] at hc⟩
  | l :: r, h => by
    have h1 := send_B a (h l (by simp))
    have h2 := E_B a (h l (by simp))
    have ht := Se_B a r (fun x hx => h x (List.mem_cons_of_mem _ hx))
    constructor
    · intro c hc
      rw [Se, List.mem_append] at hc
      exact hc.elim (h1 c) (ht.1 c)
    · intro c hc
      rw [On, List.cons_append, List.mem_cons, List.mem_append] at hc
      rcases hc with rfl | hc | hc
      · omega
      · exact h2 c hc
      · exact ht.2 c hc

/-! a right line stays so -/
def Ri (l : List Int) (long : Bool) : Prop := l.length ≤ 1508 ∧ (long = true → l.length = 0) ∧ 126 ∉ l
theorem fd_right {l : List Int} {long : Bool} (c : Int) (h : Ri l long) : Ri (fd l long c).1 (fd l long c).2.1 := by
  unfold fd Ri at *
  split
  · split
    · split <;> simp
    · simp
  · next hc =>
    split
    · simp
    · next hn =>
      refine ⟨?_, by simp, ?_⟩
      · simp only [List.length_append, List.length_cons, List.length_nil]; omega
      · simp only [List.mem_append, List.mem_singleton, not_or]
        exact ⟨h.2.2, fun h => hc h.symm⟩
theorem fd_flag (l : List Int) (long : Bool) : (fd l long 126).1 = [] ∧ (fd l long 126).2.1 = false := by
  unfold fd
  rw [if_pos rfl]
  split
  · split <;> simp
  · simp
theorem fd_none (l : List Int) (long : Bool) (c : Int) (h : (fd l long c).2.2.2 = false) : (fd l long c).2.2.1 = [] := by
  unfold fd at *
  split
  · next hc =>
    rw [if_pos hc] at h
    split
    · next p hp =>
      rw [hp] at h
      split
      · rfl
      · next hn => simp only [if_neg hn] at h; exact absurd h (by simp)
    · rfl
  · split <;> rfl
end Go.Proofs.Ytdmhamnnadegnaa.Pure
