/- What is sent, over plain rows; the worked answers. -/
import Derived.Test.YtangahcilefelaaQx10
import Derived.Test.YtangahcilefelaaQx11
import Derived.Test.YtangahcilefelaaPureKit
import Derived.Test.YtangahcilefelaaCrc
import Derived.Test.YtangahcilefelaaBase
namespace Go.Proofs.Ytangahcilefelaa.Pure
set_option linter.unusedVariables false
open Go Go.RowKit Go.Proofs.Ytangahcilefelaa.Q Go.Proofs.YtangahcilefelaaK Go.Proofs.YtangahcilefelaaCrc Go.Proofs.YtangahcilefelaaW.PrintWords Go.Proofs.YtangahcilefelaaW.PrintLast Go.Proofs.YtangahcilefelaaW.PrintMore

def x32 (c : Int) : Int := Go.bits .xor .u8 c 32
theorem x32_nat (n : Nat) (h : n < 256) : x32 n = ((n ^^^ 32 : Nat) : Int) := xor8 n 32 h (by omega)
theorem x32_tab : ∀ n : Fin 256, (n.val ^^^ 32) < 256 ∧ (n.val ^^^ 32) ^^^ 32 = n.val ∧ (n.val < 32 → 32 ≤ n.val ^^^ 32 ∧ n.val ^^^ 32 < 64) := by decide +kernel
theorem x32_facts {c : Int} (h : 0 ≤ c ∧ c ≤ 255) : (0 ≤ x32 c ∧ x32 c ≤ 255) ∧ x32 (x32 c) = c ∧ (c < 32 → 32 ≤ x32 c ∧ x32 c < 64) := by
  obtain ⟨n, rfl⟩ : ∃ n : Nat, c = n := ⟨c.toNat, by omega⟩
  have hn : n < 256 := by omega
  obtain ⟨t1, t2, t3⟩ : (n ^^^ 32) < 256 ∧ (n ^^^ 32) ^^^ 32 = n ∧ (n < 32 → 32 ≤ n ^^^ 32 ∧ n ^^^ 32 < 64) := x32_tab ⟨n, hn⟩
  rw [x32_nat n hn, x32_nat _ t1]
  refine ⟨by omega, by rw [t2], fun hc => ?_⟩
  have := t3 (by omega)
  omega
theorem x32_126 : x32 126 = 94 := by rw [show (126 : Int) = ((126 : Nat) : Int) from rfl, x32_nat _ (by omega)]; decide
theorem x32_125 : x32 125 = 93 := by rw [show (125 : Int) = ((125 : Nat) : Int) from rfl, x32_nat _ (by omega)]; decide
theorem xor0 {c : Int} (h : 0 ≤ c ∧ c ≤ 255) : Go.bits .xor .u8 c 0 = c := by
  obtain ⟨n, rfl⟩ : ∃ n : Nat, c = n := ⟨c.toNat, by omega⟩
  rw [show (0 : Int) = ((0 : Nat) : Int) from rfl, xor8 n 0 (by omega) (by omega), Nat.xor_zero]
theorem rdB {l : List Int} (hB : B l) (i : Nat) (h : i < l.length) : 0 ≤ l[i] ∧ l[i] ≤ 255 := hB _ (List.getElem_mem h)
def abit (a c : Int) : Bool := decide ((a / 2 ^ c.toNat) % 2 = 1)
def esc (a c : Int) : Bool := c == 126 || c == 125 || (decide (c < 32) && abit a c)
def E (a : Int) : List Int → List Int
  | [] => []
  | c :: t => (if esc a c = true then [125, x32 c] else [c]) ++ E a t
theorem E_cons (a c : Int) (t : List Int) : E a (c :: t) = (if esc a c = true then [125, x32 c] else [c]) ++ E a t := rfl
theorem shr_lt {a c : Int} (h0 : 0 ≤ c) (h1 : c < 32) : shr .u32 a c = a / 2 ^ c.toNat := by
  show a / 2 ^ min c.toNat 32 = _
  rw [Nat.min_eq_left (by omega)]
theorem div_range {a : Int} (n : Nat) (ha : 0 ≤ a ∧ a ≤ 4294967295) : 0 ≤ a / 2 ^ n ∧ a / 2 ^ n ≤ 4294967295 := by
  have hp : (0 : Int) < 2 ^ n := Int.pow_pos (by omega)
  refine ⟨Int.ediv_nonneg ha.1 (by omega), ?_⟩
  exact Int.le_trans (Int.ediv_le_self _ ha.1) ha.2
theorem escape1_own {a c : Int} (ha : 0 ≤ a ∧ a ≤ 4294967295) (hc : 0 ≤ c ∧ c ≤ 255) : stuff_Escape_1.f c a = some (esc a c) := by
  unfold stuff_Escape_1.f esc
  by_cases h1 : c = 126
  · rw [if_pos h1]; simp [h1]
  by_cases h2 : c = 125
  · rw [if_neg h1, if_pos h2]; simp [h2]
  by_cases h3 : c < 32
  · rw [if_neg h1, if_neg h2, if_pos h3, if_pos hc.1, shr_lt hc.1 h3]
    have hr := div_range c.toNat ha
    obtain ⟨n, hn⟩ : ∃ n : Nat, a / 2 ^ c.toNat = n := ⟨(a / 2 ^ c.toNat).toNat, by omega⟩
    unfold abit
    rw [hn, show (1 : Int) = ((1 : Nat) : Int) from rfl, (bits_nat .u32 32 (by decide) wr_u32 n 1 (by omega) (by omega)).1, Nat.and_one_is_mod]
    congr 1
    rw [Bool.eq_iff_iff]
    simp only [beq_iff_eq, Bool.or_eq_true, Bool.and_eq_true, decide_eq_true_eq]
    omega
  · rw [if_neg h1, if_neg h2, if_neg h3]; simp [h1, h2, h3]
theorem escape_l0 (a : Int) (ha : 0 ≤ a ∧ a ≤ 4294967295) (l : List Int) (hB : B l) (hl : l.length ≤ 1000000) : ∀ (d k i : Nat) (out : List Int), i + d = l.length → out.length + 2 * d ≤ 10000000 → d < k → stuff_Escape.l0 k out l (l.length : Int) i a = some (out ++ E a (l.drop i))
  | 0, k, i, out, hd, ho, hk => by
    obtain ⟨k, rfl⟩ : ∃ m, k = m + 1 := ⟨k - 1, by omega⟩
    rw [stuff_Escape.l0, if_neg (by omega), List.drop_eq_nil_of_le (by omega), E, List.append_nil]
  | d + 1, k, i, out, hd, ho, hk => by
    obtain ⟨k, rfl⟩ : ∃ m, k = m + 1 := ⟨k - 1, by omega⟩
    have hi : i < l.length := by omega
    have hb := rdB hB i hi
    rw [stuff_Escape.l0, if_pos (by omega), if_pos (by omega), if_pos (by omega), rd_lt l i hi, escape1_own ha hb, Option.bind_some, w64 (by omega) (by omega), show ((i : Int) + 1) = ((i + 1 : Nat) : Int) by omega, List.drop_eq_getElem_cons hi, E_cons]
    by_cases he : esc a l[i] = true
    · rw [if_pos he, if_pos he, Option.bind_some, if_pos (by simp only [List.length_cons, List.length_nil]; omega), escape_l0 a ha l hB hl d k (i + 1) _ (by omega) (by simp only [List.length_append, List.length_cons, List.length_nil]; omega) (by omega), List.append_assoc]
      rfl
    · rw [if_neg he, if_neg he, if_pos (by omega), escape_l0 a ha l hB hl d k (i + 1) _ (by omega) (by simp only [List.length_append, List.length_cons, List.length_nil]; omega) (by omega), List.append_assoc]
theorem escape_own (k : Nat) (a : Int) (ha : 0 ≤ a ∧ a ≤ 4294967295) (l : List Int) (hB : B l) (hl : l.length ≤ 1000000) (hk : l.length < k) : stuff_Escape.f k l a = some (E a l) := by
  unfold stuff_Escape.f
  have := escape_l0 a ha l hB hl l.length k 0 [] (by omega) (by simp only [List.length_nil]; omega) hk
  simpa using this
theorem E_length (a : Int) : ∀ l : List Int, l.length ≤ (E a l).length ∧ (E a l).length ≤ 2 * l.length
  | [] => by simp [E]
  | c :: t => by
    have := E_length a t
    rw [E_cons]
    split <;> simp only [List.length_append, List.length_cons, List.length_nil] <;> omega
theorem E_B (a : Int) : ∀ {l : List Int}, B l → B (E a l)
  | [], _ => by intro x hx; simp [E] at hx
  | c :: t, h => by
    have hc := h c (by simp)
    have ht := E_B a (l := t) (fun x hx => h x (List.mem_cons_of_mem _ hx))
    rw [E_cons]
    refine B_append ?_ ht
    intro x hx
    split at hx
    · simp only [List.mem_cons, List.not_mem_nil, or_false] at hx
      rcases hx with rfl | rfl
      · omega
      · exact (x32_facts hc).1
    · simp only [List.mem_cons, List.not_mem_nil, or_false] at hx
      rw [hx]; exact hc
def send (a : Int) (l : List Int) : List Int := [126] ++ E a l ++ [126]
theorem send_own (k : Nat) (a : Int) (ha : 0 ≤ a ∧ a ≤ 4294967295) (l : List Int) (hB : B l) (hl : l.length ≤ 1000000) (hk : l.length < k) : stuff_Send.f k l a = some (send a l) := by
  unfold stuff_Send.f
  have := E_length a l
  rw [Option.bind_some, escape_own k a ha l hB hl hk, Option.bind_some, if_pos (by simp only [List.length_cons, List.length_nil]; omega), Option.bind_some, if_pos (by simp only [List.length_append, List.length_cons, List.length_nil]; omega)]
  rfl
theorem send_length (a : Int) (l : List Int) : l.length + 2 ≤ (send a l).length ∧ (send a l).length ≤ 2 * l.length + 2 := by
  have := E_length a l
  unfold send
  simp only [List.length_append, List.length_cons, List.length_nil]
  omega
theorem send_B (a : Int) {l : List Int} (h : B l) : B (send a l) := by
  have h1 : B [126] := by intro x hx; simp only [List.mem_cons, List.not_mem_nil, or_false] at hx; omega
  exact B_append (B_append h1 (E_B a h)) h1

theorem fsend_own (k : Nat) (p : Int) (l : List Int) (m : Int) (a : Bool) (h : 0 ≤ p ∧ p ≤ 65535) (hB : B l) (hm : 0 ≤ m ∧ m ≤ 4294967295) (hk : 1600 ≤ k) :
    frame_Send.f k p l m a = some (if ok p = true ∧ l.length ≤ 1500 then (send m (put (plain p l a)), 0) else ([], 1)) := by
  unfold frame_Send.f
  rw [bytes_own k p l a h hB hk, Option.bind_some]
  by_cases h1 : ok p = true ∧ l.length ≤ 1500
  · have hpl := plain_length p l a
    have hpp := put_length (plain p l a)
    rw [if_pos h1, if_pos rfl, send_own k m hm _ (B_put (plain_B h hB a)) (by omega) (by omega), Option.bind_some, if_pos h1]
  · rw [if_neg h1, if_neg (by decide), if_neg h1]
theorem allB (l : List Int) (h : l.all (fun x => decide (0 ≤ x) && decide (x ≤ 255)) = true) : B l := by
  intro x hx
  have := List.all_eq_true.mp h x hx
  simpa using this
theorem shown_true (k : Nat) (h : 1600 ≤ k) : portreevelaw08_shown.f k = some true := by
  have B0 : B [] := allB _ (by decide)
  have B1 : B [1] := allB _ (by decide)
  unfold portreevelaw08_shown.f portreevelaw08_shown_g.f
  rw [bytes_own k 33 [] true (by decide) B0 h, if_pos (by decide), Option.bind_some, read_back k 33 [] true (by decide) (by decide) B0 (by decide) h, Option.bind_some,
    fsend_own k 49185 [1] 0 true (by decide) B1 (by decide) h, if_pos (by decide), Option.bind_some, proto_own (p := 49699) (by decide)]
  unfold frame_Same.f
  rw [if_pos rfl, equal_own _ _ B0 B0, Option.bind_some, Option.bind_some]
  decide +kernel
end Go.Proofs.Ytangahcilefelaa.Pure
