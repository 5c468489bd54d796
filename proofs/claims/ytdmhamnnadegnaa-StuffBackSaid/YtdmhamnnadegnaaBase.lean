/- What the functions of stuffing compute, over plain numbers and rows. -/
import Derived.Test.YtdmhamnnadegnaaQx2
import Derived.Test.YtdmhamnnadegnaaQx3
import Derived.Test.YtdmhamnnadegnaaQx7
import Derived.Test.YtdmhamnnadegnaaPureKit
import Derived.Test.YtdmhamnnadegnaaRow
namespace Go.Proofs.Ytdmhamnnadegnaa.Pure
set_option linter.unusedVariables false
open Go Go.RowKit Go.Proofs.Ytdmhamnnadegnaa.Q Go.Proofs.YtdmhamnnadegnaaK Go.Proofs.YtdmhamnnadegnaaW.PrintWords Go.Proofs.YtdmhamnnadegnaaW.PrintLast Go.Proofs.YtdmhamnnadegnaaW.PrintMore

/-- A byte with its sixth bit turned. -/
def x32 (c : Int) : Int := Go.bits .xor .u8 c 32
theorem x32_nat (n : Nat) (h : n < 256) : x32 n = ((n ^^^ 32 : Nat) : Int) := xor8 n 32 h (by omega)
theorem x32_tab : ∀ n : Fin 256, (n.val ^^^ 32) < 256 ∧ (n.val ^^^ 32) ^^^ 32 = n.val ∧ (n.val < 32 → 32 ≤ n.val ^^^ 32 ∧ n.val ^^^ 32 < 64) := by decide +kernel
theorem x32_facts {c : Int} (h : 0 ≤ c ∧ c ≤ 255) : (0 ≤ x32 c ∧ x32 c ≤ 255) ∧ x32 (x32 c) = c ∧ (c < 32 → 32 ≤ x32 c ∧ x32 c < 64) := by
  obtain ⟨n, rfl⟩ : ∃ n : Nat, c = n := ⟨c.toNat, by omega⟩
  have hn : n < 256 := by omega
  obtain ⟨t1, t2, t3⟩ : (n ^^^ 32) < 256 ∧ (n ^^^ 32) ^^^ 32 = n ∧ (n < 32 → 32 ≤ n ^^^ 32 ∧ n ^^^ 32 < 64) := x32_tab ⟨n, hn⟩
  rw [x32_nat n hn, x32_nat _ t1]
  refine ⟨by omega, by rw [t2], fun hc => ?_⟩
  have := t3 (by omega)
  omega
theorem x32_126 : x32 126 = 94 := by rw [show (126 : Int) = ((126 : Nat) : Int) from rfl, x32_nat _ (by omega)]; decide
theorem x32_125 : x32 125 = 93 := by rw [show (125 : Int) = ((125 : Nat) : Int) from rfl, x32_nat _ (by omega)]; decide
theorem xor0 {c : Int} (h : 0 ≤ c ∧ c ≤ 255) : Go.bits .xor .u8 c 0 = c := by
  obtain ⟨n, rfl⟩ : ∃ n : Nat, c = n := ⟨c.toNat, by omega⟩
  rw [show (0 : Int) = ((0 : Nat) : Int) from rfl, xor8 n 0 (by omega) (by omega), Nat.xor_zero]

theorem rdB {l : List Int} (hB : B l) (i : Nat) (h : i < l.length) : 0 ≤ l[i] ∧ l[i] ≤ 255 := hB _ (List.getElem_mem h)

/-! escaping -/
def abit (a c : Int) : Bool := decide ((a / 2 ^ c.toNat) % 2 = 1)
def esc (a c : Int) : Bool := c == 126 || c == 125 || (decide (c < 32) && abit a c)
def E (a : Int) : List Int → List Int
  | [] => []
  | c :: t => (if esc a c = true then [125, x32 c] else [c]) ++ E a t
theorem E_cons (a c : Int) (t : List Int) : E a (c :: t) = (if esc a c = true then [125, x32 c] else [c]) ++ E a t := rfl

theorem shr_lt {a c : Int} (h0 : 0 ≤ c) (h1 : c < 32) : shr .u32 a c = a / 2 ^ c.toNat := by
  show a / 2 ^ min c.toNat 32 = _
  rw [Nat.min_eq_left (by omega)]

theorem div_range {a : Int} (n : Nat) (ha : 0 ≤ a ∧ a ≤ 4294967295) : 0 ≤ a / 2 ^ n ∧ a / 2 ^ n ≤ 4294967295 := by
  have hp : (0 : Int) < 2 ^ n := Int.pow_pos (by omega)
  refine ⟨Int.ediv_nonneg ha.1 (by omega), ?_⟩
  exact Int.le_trans (Int.ediv_le_self _ ha.1) ha.2

theorem escape1_own {a c : Int} (ha : 0 ≤ a ∧ a ≤ 4294967295) (hc : 0 ≤ c ∧ c ≤ 255) : stuff_Escape_1.f c a = some (esc a c) := by
  unfold stuff_Escape_1.f esc
  by_cases h1 : c = 126
  · rw [if_pos h1]; simp [h1]
  by_cases h2 : c = 125
  · rw [if_neg h1, if_pos h2]; simp [h2]
  by_cases h3 : c < 32
  · rw [if_neg h1, if_neg h2, if_pos h3, if_pos hc.1, shr_lt hc.1 h3]
    have hr := div_range c.toNat ha
    obtain ⟨n, hn⟩ : ∃ n : Nat, a / 2 ^ c.toNat = n := ⟨(a / 2 ^ c.toNat).toNat, by omega⟩
    unfold abit
    rw [hn, show (1 : Int) = ((1 : Nat) : Int) from rfl, (bits_nat .u32 32 (by decide) wr_u32 n 1 (by omega) (by omega)).1, Nat.and_one_is_mod]
    congr 1
    rw [Bool.eq_iff_iff]
    simp only [beq_iff_eq, Bool.or_eq_true, Bool.and_eq_true, decide_eq_true_eq]
    omega
  · rw [if_neg h1, if_neg h2, if_neg h3]; simp [h1, h2, h3]

theorem escape_l0 (a : Int) (ha : 0 ≤ a ∧ a ≤ 4294967295) (l : List Int) (hB : B l) (hl : l.length ≤ 1000000) : ∀ (d k i : Nat) (out : List Int), i + d = l.length → out.length + 2 * d ≤ 10000000 → d < k → stuff_Escape.l0 k out l (l.length : Int) i a = some (out ++ E a (l.drop i))
  | 0, k, i, out, hd, ho, hk => by
    obtain ⟨k, rfl⟩ : ∃ m, k = m + 1 := ⟨k - 1, by omega⟩
    rw [stuff_Escape.l0, if_neg (by omega), List.drop_eq_nil_of_le (by omega), E, List.append_nil]
  | d + 1, k, i, out, hd, ho, hk => by
    obtain ⟨k, rfl⟩ : ∃ m, k = m + 1 := ⟨k - 1, by omega⟩
    have hi : i < l.length := by omega
    have hb := rdB hB i hi
    rw [stuff_Escape.l0, if_pos (by omega), if_pos (by omega), if_pos (by omega), rd_lt l i hi, escape1_own ha hb, Option.bind_some, w64 (by omega) (by omega), show ((i : Int) + 1) = ((i + 1 : Nat) : Int) by omega, List.drop_eq_getElem_cons hi, E_cons]
    by_cases he : esc a l[i] = true
    · rw [if_pos he, if_pos he, Option.bind_some, if_pos (by simp only [List.length_cons, List.length_nil]; omega), escape_l0 a ha l hB hl d k (i + 1) _ (by omega) (by simp only [List.length_append, List.length_cons, List.length_nil]; omega) (by omega), List.append_assoc]
      rfl
    · rw [if_neg he, if_neg he, if_pos (by omega), escape_l0 a ha l hB hl d k (i + 1) _ (by omega) (by simp only [List.length_append, List.length_cons, List.length_nil]; omega) (by omega), List.append_assoc]

theorem escape_own (k : Nat) (a : Int) (ha : 0 ≤ a ∧ a ≤ 4294967295) (l : List Int) (hB : B l) (hl : l.length ≤ 1000000) (hk : l.length < k) : stuff_Escape.f k l a = some (E a l) := by
  unfold stuff_Escape.f
  have := escape_l0 a ha l hB hl l.length k 0 [] (by omega) (by simp only [List.length_nil]; omega) hk
  simpa using this

theorem bit_l0 (c : Nat) (hc : c < 32) : ∀ (d k i : Nat) (a : Int), i + d = c → 0 ≤ a ∧ a ≤ 4294967295 → d < k → portreeveref07_bit.l0 k a c i = some (decide ((a / 2 ^ d) % 2 = 1))
  | 0, k, i, a, hd, ha, hk => by
    obtain ⟨k, rfl⟩ : ∃ m, k = m + 1 := ⟨k - 1, by omega⟩
    rw [portreeveref07_bit.l0, if_neg (by omega), Int.tmod_eq_emod_of_nonneg ha.1, Int.pow_zero, Int.ediv_one]
    congr 1
  | d + 1, k, i, a, hd, ha, hk => by
    obtain ⟨k, rfl⟩ : ∃ m, k = m + 1 := ⟨k - 1, by omega⟩
    rw [portreeveref07_bit.l0, if_pos (by omega), Int.tdiv_eq_ediv_of_nonneg ha.1, show a / 2 % 4294967296 = a / 2 by omega, w64 (by omega) (by omega), show ((i : Int) + 1) = ((i + 1 : Nat) : Int) by omega, bit_l0 c hc d k (i + 1) (a / 2) (by omega) (by omega) (by omega), Int.pow_succ, Int.mul_comm, Int.ediv_ediv_of_nonneg (by omega)]

theorem bit_own (k : Nat) {a c : Int} (ha : 0 ≤ a ∧ a ≤ 4294967295) (h0 : 0 ≤ c) (h1 : c < 32) (hk : 40 ≤ k) : portreeveref07_bit.f k a (wrap64 c) = some (abit a c) := by
  obtain ⟨n, rfl⟩ : ∃ n : Nat, c = n := ⟨c.toNat, by omega⟩
  unfold portreeveref07_bit.f abit
  rw [w64 (by omega) (by omega)]
  have := bit_l0 n (by omega) n k 0 a (by omega) ha (by omega)
  simpa using this

theorem rescape_j1 (k : Nat) (l : List Int) (a : Int) (out : List Int) (i : Int) (c : Int) (b : Bool) (ho : out.length ≤ 10000000) : portreeveref07_Escape.j1 (k + 2) l a out i c b = portreeveref07_Escape.l0 k l a (out ++ (if (b || c == 125 || c == 126) = true then [125, x32 c] else [c])) (wrap64 (i + 1)) := by
  have h2 : ∀ y : Bool, portreeveref07_Escape.j2 (k + 1) l a out i c y = portreeveref07_Escape.l0 k l a (out ++ (if y = true then [125, x32 c] else [c])) (wrap64 (i + 1)) := by
    intro y
    rw [portreeveref07_Escape.j2]
    cases y with
    | true => rw [if_pos rfl, if_pos (by omega), Option.bind_some, if_pos (by simp only [List.length_append, List.length_cons, List.length_nil]; omega), List.append_assoc, if_pos rfl]; rfl
    | false => rw [if_neg (by simp), if_pos (by omega), if_neg (by simp)]
  rw [portreeveref07_Escape.j1]
  cases b with
  | true => rw [if_pos rfl, h2]; rfl
  | false =>
    rw [if_neg (by simp)]
    by_cases h : c = 125
    · rw [if_pos h, h2, h]; rfl
    · rw [if_neg h, h2, show (false || c == 125 || c == 126) = (c == 126) by rw [beq_eq_false_iff_ne.2 h]; rfl]

theorem rescape_l0 (a : Int) (ha : 0 ≤ a ∧ a ≤ 4294967295) (l : List Int) (hB : B l) (hl : l.length ≤ 1000000) : ∀ (d k i : Nat) (out : List Int), i + d = l.length → out.length + 2 * d ≤ 10000000 → 3 * d + 50 ≤ k → portreeveref07_Escape.l0 k l a out i = some (out ++ E a (l.drop i))
  | 0, k, i, out, hd, ho, hk => by
    obtain ⟨k, rfl⟩ : ∃ m, k = m + 1 := ⟨k - 1, by omega⟩
    rw [portreeveref07_Escape.l0, if_neg (by omega), List.drop_eq_nil_of_le (by omega), E, List.append_nil]
  | d + 1, k, i, out, hd, ho, hk => by
    obtain ⟨k, rfl⟩ : ∃ m, k = m + 3 := ⟨k - 3, by omega⟩
    have hi : i < l.length := by omega
    have hb := rdB hB i hi
    have fin : ∀ b : Bool, b = (decide (l[i] < 32) && abit a l[i]) → portreeveref07_Escape.j1 (k + 2) l a out i l[i] b = some (out ++ E a (l.drop i)) := by
      rintro b rfl
      have hlen : (out ++ (if (decide (l[i] < 32) && abit a l[i] || l[i] == 125 || l[i] == 126) = true then [125, x32 l[i]] else [l[i]])).length + 2 * d ≤ 10000000 := by
        split <;> simp only [List.length_append, List.length_cons, List.length_nil] <;> omega
      rw [rescape_j1 k l a out i l[i] _ (by omega), w64 (by omega) (by omega), show ((i : Int) + 1) = ((i + 1 : Nat) : Int) by omega, rescape_l0 a ha l hB hl d k (i + 1) _ (by omega) hlen (by omega), List.drop_eq_getElem_cons hi, E_cons, List.append_assoc]
      rw [show (decide (l[i] < 32) && abit a l[i] || l[i] == 125 || l[i] == 126) = esc a l[i] by unfold esc; rw [Bool.or_comm, Bool.or_comm (decide (l[i] < 32) && abit a l[i]), ← Bool.or_assoc]]
    rw [portreeveref07_Escape.l0, if_pos (by omega), if_pos (by omega), rd_lt l i hi]
    by_cases h : l[i] < 32
    · rw [if_pos h, bit_own _ ha hb.1 h (by omega), Option.bind_some]
      exact fin _ (by rw [decide_eq_true h]; rfl)
    · rw [if_neg h]
      exact fin _ (by rw [decide_eq_false h]; rfl)

theorem rescape (k : Nat) (a : Int) (ha : 0 ≤ a ∧ a ≤ 4294967295) (l : List Int) (hB : B l) (hl : l.length ≤ 1000000) (hk : 3 * l.length + 50 ≤ k) : portreeveref07_Escape.f k l a = some (E a l) := by
  unfold portreeveref07_Escape.f
  have := rescape_l0 a ha l hB hl l.length k 0 [] (by omega) (by simp only [List.length_nil]; omega) hk
  simpa using this

theorem E_length (a : Int) : ∀ l : List Int, l.length ≤ (E a l).length ∧ (E a l).length ≤ 2 * l.length
  | [] => by simp [E]
  | c :: t => by
    have := E_length a t
    rw [E_cons]
    split <;> simp only [List.length_append, List.length_cons, List.length_nil] <;> omega

theorem E_B (a : Int) : ∀ {l : List Int}, B l → B (E a l)
  | [], _ => by intro x hx; simp [E] at hx
  | c :: t, h => by
    have hc := h c (by simp)
    have ht := E_B a (l := t) (fun x hx => h x (List.mem_cons_of_mem _ hx))
    rw [E_cons]
    refine B_append ?_ ht
    intro x hx
    split at hx
    · simp only [List.mem_cons, List.not_mem_nil, or_false] at hx
      rcases hx with rfl | rfl
      · omega
      · exact (x32_facts hc).1
    · simp only [List.mem_cons, List.not_mem_nil, or_false] at hx
      rw [hx]; exact hc

def send (a : Int) (l : List Int) : List Int := [126] ++ E a l ++ [126]
theorem send_own (k : Nat) (a : Int) (ha : 0 ≤ a ∧ a ≤ 4294967295) (l : List Int) (hB : B l) (hl : l.length ≤ 1000000) (hk : l.length < k) : stuff_Send.f k l a = some (send a l) := by
  unfold stuff_Send.f
  have := E_length a l
  rw [Option.bind_some, escape_own k a ha l hB hl hk, Option.bind_some, if_pos (by simp only [List.length_cons, List.length_nil]; omega), Option.bind_some, if_pos (by simp only [List.length_append, List.length_cons, List.length_nil]; omega)]
  rfl
theorem rsend (k : Nat) (a : Int) (ha : 0 ≤ a ∧ a ≤ 4294967295) (l : List Int) (hB : B l) (hl : l.length ≤ 1000000) (hk : 3 * l.length + 50 ≤ k) : portreeveref07_Send.f k l a = some (send a l) := by
  unfold portreeveref07_Send.f
  have := E_length a l
  rw [Option.bind_some, rescape k a ha l hB hl hk, Option.bind_some, if_pos (by simp only [List.length_cons, List.length_nil]; omega), Option.bind_some, if_pos (by simp only [List.length_append, List.length_cons, List.length_nil]; omega)]
  rfl
theorem send_length (a : Int) (l : List Int) : l.length + 2 ≤ (send a l).length ∧ (send a l).length ≤ 2 * l.length + 2 := by
  have := E_length a l
  unfold send
  simp only [List.length_append, List.length_cons, List.length_nil]
  omega
theorem send_B (a : Int) {l : List Int} (h : B l) : B (send a l) := by
  have h1 : B [126] := by intro x hx; simp only [List.mem_cons, List.not_mem_nil, or_false] at hx; omega
  exact B_append (B_append h1 (E_B a h)) h1
end Go.Proofs.Ytdmhamnnadegnaa.Pure
