/- A block's state: the program's is the document's. -/
import Derived.Test.YtpbkdphilcodmaaQx4
import Derived.Test.YtpbkdphilcodmaaQx5
import Derived.Test.YtpbkdphilcodmaaQx11
import Derived.Test.YtpbkdphilcodmaaQx12
import Derived.Test.YtpbkdphilcodmaaQx13
import Derived.Test.YtpbkdphilcodmaaPureKit
import Derived.Test.YtpbkdphilcodmaaDig
namespace Go.Proofs.Ytpbkdphilcodmaa.Pure
set_option linter.unusedVariables false
open Go Go.RowKit Go.Proofs.Ytpbkdphilcodmaa.Q Go.Proofs.YtpbkdphilcodmaaK Go.Proofs.YtpbkdphilcodmaaV Go.Proofs.YtpbkdphilcodmaaW.PrintWords Go.Proofs.YtpbkdphilcodmaaW.PrintLast Go.Proofs.YtpbkdphilcodmaaW.PrintMore

/-- A word, turned left by n. -/
def rot (x n : Nat) : Nat := x * 2 ^ n % 4294967296 + x / 2 ^ (32 - n)
theorem rot_step (x n : Nat) (hn : n ≤ 30) (hx : x < 4294967296) : (rot x n * 2 % 4294967296 + rot x n / 2147483648 % 4294967296) % 4294967296 = rot x (n + 1) := by
  unfold rot
  obtain ⟨N, hN⟩ : ∃ N, 2 ^ n = N := ⟨_, rfl⟩
  obtain ⟨M, hM⟩ : ∃ M, 2 ^ (31 - n) = M := ⟨_, rfl⟩
  have hNM : N * M = 2147483648 := by rw [← hN, ← hM, ← Nat.pow_add, show n + (31 - n) = 31 by omega]
  have e1 : 2 ^ (32 - n) = 2 * M := by rw [← hM, show 32 - n = (31 - n) + 1 by omega, Nat.pow_succ, Nat.mul_comm]
  have e2 : 2 ^ (n + 1) = 2 * N := by rw [← hN, Nat.pow_succ, Nat.mul_comm]
  have e3 : 2 ^ (32 - (n + 1)) = M := by rw [← hM, show 32 - (n + 1) = 31 - n by omega]
  rw [e1, e2, e3, hN]
  have hM0 : 0 < M := by rw [← hM]; exact Nat.pow_pos (by omega)
  obtain ⟨a, ha⟩ : ∃ a, x / (2 * M) = a := ⟨_, rfl⟩
  obtain ⟨b, hb⟩ : ∃ b, x % (2 * M) = b := ⟨_, rfl⟩
  obtain ⟨c, hc⟩ : ∃ c, b / M = c := ⟨_, rfl⟩
  obtain ⟨d, hd⟩ : ∃ d, b % M = d := ⟨_, rfl⟩
  have hx1 : x = 2 * M * a + b := by rw [← ha, ← hb]; exact (Nat.div_add_mod x (2 * M)).symm
  have hb1 : b = M * c + d := by rw [← hc, ← hd]; exact (Nat.div_add_mod b M).symm
  have hbl : b < 2 * M := by rw [← hb]; exact Nat.mod_lt _ (by omega)
  have hdl : d < M := by rw [← hd]; exact Nat.mod_lt _ hM0
  have hc2 : c < 2 := by rw [← hc]; exact (Nat.div_lt_iff_lt_mul hM0).2 hbl
  have haN : a < N := by
    have h1 : 2 * M * a < 2 * M * N := by
      have : 2 * M * N = 4294967296 := by rw [Nat.mul_assoc, Nat.mul_comm M N, hNM]
      omega
    exact Nat.lt_of_mul_lt_mul_left h1
  have hP : d * N + N ≤ 2147483648 := by
    have h1 : (d + 1) * N ≤ M * N := Nat.mul_le_mul_right N hdl
    rw [Nat.add_mul, Nat.one_mul, Nat.mul_comm M N, hNM] at h1
    exact h1
  have hxN : x * N = 4294967296 * a + 2147483648 * c + d * N := by
    rw [hx1, hb1]
    have h1 : (2 * M * a + (M * c + d)) * N = 2 * (N * M) * a + (N * M) * c + d * N := by
      simp only [Nat.add_mul, Nat.add_assoc]
      congr 1
      · ac_rfl
      · congr 1
        ac_rfl
    rw [h1, hNM]
  have hx2N : x * (2 * N) = 2 * (x * N) := by ac_rfl
  have hxM : x / M = 2 * a + c := by
    rw [hx1, hb1]
    have h1 : 2 * M * a + (M * c + d) = d + M * (2 * a + c) := by
      rw [Nat.mul_add, show M * (2 * a) = 2 * M * a by ac_rfl]
      omega
    rw [h1, Nat.add_mul_div_left _ _ hM0, Nat.div_eq_of_lt hdl, Nat.zero_add]
  rw [hx2N, hxM, hxN, ha]
  obtain ⟨P, hPP⟩ : ∃ P, d * N = P := ⟨_, rfl⟩
  rw [hPP] at hP ⊢
  clear hPP hxN hx2N hxM hx1 hb1 hbl hdl ha hb hc hd hM0 e1 e2 e3 hNM hM hN
  have t1 : (4294967296 * a + 2147483648 * c + P) % 4294967296 = 2147483648 * c + P := by omega
  have t2 : 2 * (4294967296 * a + 2147483648 * c + P) % 4294967296 = 2 * P := by omega
  have t3 : (2147483648 * c + P + a) * 2 % 4294967296 = 2 * P + 2 * a := by omega
  have t4 : (2147483648 * c + P + a) / 2147483648 = c := by omega
  rw [t1, t2, t3, t4]
  omega
theorem rot_lt (x n : Nat) (hn : n ≤ 31) (hx : x < 4294967296) : rot x n < 4294967296 := by
  rcases Nat.eq_zero_or_pos n with rfl | h
  · unfold rot
    rw [Nat.pow_zero, Nat.mul_one, show (2 : Nat) ^ (32 - 0) = 4294967296 by decide]
    omega
  · obtain ⟨m, rfl⟩ : ∃ m, n = m + 1 := ⟨n - 1, by omega⟩
    rw [← rot_step x m (by omega) hx]
    exact Nat.mod_lt _ (by omega)
/-- The document's turns. -/
theorem turn_l0 (x : Nat) (hx : x < 4294967296) (n : Nat) (hn : n ≤ 31) : ∀ (d k i : Nat), i + d = n → d < k → portreeveref02_turn.l0 k ((rot x i : Nat) : Int) (n : Int) (i : Int) = some ((rot x n : Nat) : Int)
  | 0, k, i, hi, hk => by
    obtain ⟨k, rfl⟩ : ∃ m, k = m + 1 := ⟨k - 1, by omega⟩
    rw [portreeveref02_turn.l0, if_neg (by omega), show i = n by omega]
  | d + 1, k, i, hi, hk => by
    obtain ⟨k, rfl⟩ : ∃ m, k = m + 1 := ⟨k - 1, by omega⟩
    rw [portreeveref02_turn.l0, if_pos (by omega), w64 (by omega) (by omega), show ((i : Int) + 1) = ((i + 1 : Nat) : Int) by omega]
    have h := rot_step x i (by omega) hx
    have e : (((((rot x i : Nat) : Int) * 2) % 4294967296) + ((Int.tdiv ((rot x i : Nat) : Int) 2147483648) % 4294967296)) % 4294967296 = ((rot x (i + 1) : Nat) : Int) := by
      rw [← h, Int.tdiv_eq_ediv_of_nonneg (by omega)]
      omega
    rw [e]
    exact turn_l0 x hx n hn d k (i + 1) (by omega) (by omega)
theorem rot_zero (x : Nat) (hx : x < 4294967296) : rot x 0 = x := by
  unfold rot
  rw [Nat.pow_zero, Nat.mul_one, show (2 : Nat) ^ (32 - 0) = 4294967296 by decide]
  omega
theorem turn_f (x n k : Nat) (hx : x < 4294967296) (hn : n ≤ 31) (hk : n < k) : portreeveref02_turn.f k (x : Int) (n : Int) = some ((rot x n : Nat) : Int) := by
  unfold portreeveref02_turn.f
  have := turn_l0 x hx n hn n k 0 (by omega) hk
  rw [rot_zero x hx] at this
  exact this
theorem or_add (a b i : Nat) (hb : b < 2 ^ i) (h : 2 ^ i * a + b < 4294967296) : bits .or .u32 ((2 ^ i * a : Nat) : Int) (b : Int) = ((2 ^ i * a + b : Nat) : Int) := by
  have h1 := (bits_nat .u32 32 (by decide) wr_u32 (2 ^ i * a) b (by show _ < 4294967296; omega) (by show _ < 4294967296; omega)).2
  rw [h1, ← Nat.two_pow_add_eq_or_of_lt hb]
theorem or_add' (a b i : Nat) (hb : b < 2 ^ i) (h : 2 ^ i * a + b < 4294967296) : bits .or .u32 (b : Int) ((2 ^ i * a : Nat) : Int) = ((2 ^ i * a + b : Nat) : Int) := by
  have h1 := (bits_nat .u32 32 (by decide) wr_u32 b (2 ^ i * a) (by show _ < 4294967296; omega) (by show _ < 4294967296; omega)).2
  rw [h1, Nat.or_comm, ← Nat.two_pow_add_eq_or_of_lt hb]
theorem or_rot (x n : Nat) (hx : x < 4294967296) (hn : n ≤ 31) : bits .or .u32 (u32w ((x : Int) * 2 ^ n)) ((x : Int) / 2 ^ (32 - n)) = ((rot x n : Nat) : Int) := by
  have hp : 2 ^ n * 2 ^ (32 - n) = 4294967296 := by rw [← Nat.pow_add, show n + (32 - n) = 32 by omega]
  have e0 : x * 2 ^ n % 4294967296 = 2 ^ n * (x % 2 ^ (32 - n)) := by
    rw [Nat.mul_comm x, ← hp, Nat.mul_mod_mul_left]
  have e1 : u32w ((x : Int) * 2 ^ n) = ((2 ^ n * (x % 2 ^ (32 - n)) : Nat) : Int) := by
    unfold u32w
    rw [wu32, ← e0]
    have h2 : ((2 ^ n : Nat) : Int) = (2 : Int) ^ n := Int.natCast_pow 2 n
    rw [← h2, ← Int.natCast_mul]
    omega
  have e2 : (x : Int) / 2 ^ (32 - n) = ((x / 2 ^ (32 - n) : Nat) : Int) := by
    have h2 : ((2 ^ (32 - n) : Nat) : Int) = (2 : Int) ^ (32 - n) := Int.natCast_pow 2 (32 - n)
    rw [← h2]
    exact (Int.natCast_ediv x (2 ^ (32 - n))).symm
  have hlt : x / 2 ^ (32 - n) < 2 ^ n := by
    rw [Nat.div_lt_iff_lt_mul (Nat.pow_pos (by omega)), hp]
    exact hx
  have hr := rot_lt x n hn hx
  unfold rot at hr
  rw [e0] at hr
  rw [e1, e2, or_add _ _ _ hlt hr]
  unfold rot
  rw [e0]
/-- A word out of bytes. -/
def wd (l : List Int) (g k : Nat) : Int :=
  match k with
  | 0 => 0
  | 1 => l.getD (4 * g) 0
  | 2 => l.getD (4 * g) 0 + 256 * l.getD (4 * g + 1) 0
  | 3 => l.getD (4 * g) 0 + 256 * l.getD (4 * g + 1) 0 + 65536 * l.getD (4 * g + 2) 0
  | _ => l.getD (4 * g) 0 + 256 * l.getD (4 * g + 1) 0 + 65536 * l.getD (4 * g + 2) 0 + 16777216 * l.getD (4 * g + 3) 0
theorem getD_B {l : List Int} (hB : B l) (j : Nat) : 0 ≤ l.getD j 0 ∧ l.getD j 0 ≤ 255 := by
  rw [List.getD_eq_getElem?_getD]
  rcases Nat.lt_or_ge j l.length with h | h
  · rw [List.getElem?_eq_getElem h]
    exact hB _ (List.getElem_mem h)
  · rw [List.getElem?_eq_none h]
    decide
theorem bor_wd {l : List Int} (hB : B l) (g k : Nat) (hk : k < 4) : bor (wd l g k) (l.getD (4 * g + k) 0) k = wd l g (k + 1) := by
  have b0 := getD_B hB (4 * g)
  have b1 := getD_B hB (4 * g + 1)
  have b2 := getD_B hB (4 * g + 2)
  have b3 := getD_B hB (4 * g + 3)
  have key : ∀ (m c : Nat) (i : Nat), i < 25 → c ≤ 255 → m < 2 ^ i → 2 ^ i * c + m < 4294967296 → bits .or .u32 (m : Int) (IntKind.u32.wrap (IntKind.u32.wrap (c : Int) * ((2 ^ i : Nat) : Int))) = ((2 ^ i * c + m : Nat) : Int) := by
    intro m c i hi hc hm hlt
    have e : IntKind.u32.wrap (IntKind.u32.wrap (c : Int) * ((2 ^ i : Nat) : Int)) = ((2 ^ i * c : Nat) : Int) := by
      rw [wu32 (c : Int), Int.emod_eq_of_lt (by omega) (by omega), wu32, ← Int.natCast_mul, Nat.mul_comm c]
      omega
    rw [e]
    exact or_add' c m i hm hlt
  have hk' : k = 0 ∨ k = 1 ∨ k = 2 ∨ k = 3 := by omega
  unfold bor
  rcases hk' with rfl | rfl | rfl | rfl
  · have h := key 0 (l.getD (4 * g) 0).toNat 0 (by omega) (by omega) (by decide) (by omega)
    show _ = l.getD (4 * g) 0
    have e : ((l.getD (4 * g) 0).toNat : Int) = l.getD (4 * g) 0 := by omega
    rw [e] at h
    refine (Eq.trans ?_ h).trans ?_
    · rfl
    · omega
  · have h := key (l.getD (4 * g) 0).toNat (l.getD (4 * g + 1) 0).toNat 8 (by omega) (by omega) (by show _ < 256; omega) (by show 256 * _ + _ < _; omega)
    simp only [wd]
    have e : ((l.getD (4 * g) 0).toNat : Int) = l.getD (4 * g) 0 := by omega
    have e' : ((l.getD (4 * g + 1) 0).toNat : Int) = l.getD (4 * g + 1) 0 := by omega
    rw [e, e'] at h
    refine (Eq.trans ?_ h).trans ?_
    · rfl
    · rw [show (2 : Nat) ^ 8 = 256 by decide]; omega
  · have h := key (l.getD (4 * g) 0 + 256 * l.getD (4 * g + 1) 0).toNat (l.getD (4 * g + 2) 0).toNat 16 (by omega) (by omega) (by show _ < 65536; omega) (by show 65536 * _ + _ < _; omega)
    simp only [wd]
    have e : ((l.getD (4 * g) 0 + 256 * l.getD (4 * g + 1) 0).toNat : Int) = l.getD (4 * g) 0 + 256 * l.getD (4 * g + 1) 0 := by omega
    have e' : ((l.getD (4 * g + 2) 0).toNat : Int) = l.getD (4 * g + 2) 0 := by omega
    rw [e, e'] at h
    refine (Eq.trans ?_ h).trans ?_
    · rfl
    · rw [show (2 : Nat) ^ 16 = 65536 by decide]; omega
  · have h := key (l.getD (4 * g) 0 + 256 * l.getD (4 * g + 1) 0 + 65536 * l.getD (4 * g + 2) 0).toNat (l.getD (4 * g + 3) 0).toNat 24 (by omega) (by omega) (by show _ < 16777216; omega) (by show 16777216 * _ + _ < _; omega)
    simp only [wd]
    have e : ((l.getD (4 * g) 0 + 256 * l.getD (4 * g + 1) 0 + 65536 * l.getD (4 * g + 2) 0).toNat : Int) = l.getD (4 * g) 0 + 256 * l.getD (4 * g + 1) 0 + 65536 * l.getD (4 * g + 2) 0 := by omega
    have e' : ((l.getD (4 * g + 3) 0).toNat : Int) = l.getD (4 * g + 3) 0 := by omega
    rw [e, e'] at h
    refine (Eq.trans ?_ h).trans ?_
    · rfl
    · rw [show (2 : Nat) ^ 24 = 16777216 by decide]; omega
theorem bmi_other (l : List Int) (i : Nat) (ms : List Int) (j : Nat) (hj : j ≠ i) : ∀ k, (bmi l i ms k).getD j 0 = ms.getD j 0
  | 0 => rfl
  | k + 1 => by
    rw [bmi, List.getD_eq_getElem?_getD, List.getElem?_set_ne (Ne.symm hj), ← List.getD_eq_getElem?_getD]
    exact bmi_other l i ms j hj k
theorem bmi_same {l : List Int} (hB : B l) (i : Nat) (ms : List Int) (hi : i < ms.length) (h0 : ms.getD i 0 = 0) : ∀ k, k ≤ 4 → (bmi l i ms k).getD i 0 = wd l i k
  | 0, _ => h0
  | k + 1, hk => by
    have ih := bmi_same hB i ms hi h0 k (by omega)
    rw [bmi, List.getD_eq_getElem?_getD, List.getElem?_set_self (by rw [bmi_length]; exact hi), Option.getD_some, ih]
    exact bor_wd hB i k (by omega)
theorem bm_get {l : List Int} (hB : B l) : ∀ n, n ≤ 16 → ∀ g, g < 16 → (bm l n).getD g 0 = if g < n then wd l g 4 else 0
  | 0, _, g, hg => by
    rw [if_neg (by omega), bm, List.getD_eq_getElem?_getD, List.getElem?_replicate]
    split <;> rfl
  | n + 1, hn, g, hg => by
    have ih := bm_get hB n (by omega)
    rw [bm]
    by_cases h : g = n
    · subst h
      rw [if_pos (by omega)]
      exact bmi_same hB g _ (by rw [bm_length]; omega) (by rw [ih g hg, if_neg (by omega)]) 4 (Nat.le_refl _)
    · rw [bmi_other l n _ g h, ih g hg]
      by_cases h2 : g < n
      · rw [if_pos h2, if_pos (by omega)]
      · rw [if_neg h2, if_neg (by omega)]
theorem at_f {l : List Int} (hB : B l) (hl : 64 ≤ l.length) (hm : l.length ≤ 140737488355328) (g : Nat) (hg : g < 16) : portreeveref02_at.f l (g : Int) = some (wd l g 4) := by
  have e0 : wrap64 (4 * (g : Int)) = ((4 * g : Nat) : Int) := by rw [w64] <;> omega
  have e1 : wrap64 (((4 * g : Nat) : Int) + 1) = ((4 * g + 1 : Nat) : Int) := by rw [w64] <;> omega
  have e2 : wrap64 (((4 * g : Nat) : Int) + 2) = ((4 * g + 2 : Nat) : Int) := by rw [w64] <;> omega
  have e3 : wrap64 (((4 * g : Nat) : Int) + 3) = ((4 * g + 3 : Nat) : Int) := by rw [w64] <;> omega
  have r : ∀ j : Nat, rd l (j : Int) = l.getD j 0 := fun j => by unfold rd; rw [Int.toNat_natCast]
  unfold portreeveref02_at.f
  rw [e0, e1, e2, e3, if_pos (by omega), if_pos (by omega), if_pos (by omega), if_pos (by omega), if_pos (by omega), if_pos (by omega), if_pos (by omega), if_pos (by omega), r, r, r, r]
  have b0 := getD_B hB (4 * g)
  have b1 := getD_B hB (4 * g + 1)
  have b2 := getD_B hB (4 * g + 2)
  have b3 := getD_B hB (4 * g + 3)
  simp only [wd, Option.some.injEq]
  omega
theorem far_i (i : Nat) (hi : i < 64) : wrap64 (wrap64 (wrap64 ((i : Int) / 16) * 4) + (i : Int) % 4) = ((4 * (i / 16) + i % 4 : Nat) : Int) := by
  rw [w64 (a := (i : Int) / 16) (by omega) (by omega), w64 (a := (i : Int) / 16 * 4) (by omega) (by omega), w64] <;> omega
theorem far_f (i : Nat) (hi : i < 64) : portreeveref02_far.f (i : Int) = some (md5_turns.l.getD (4 * (i / 16) + i % 4) 0) := by
  have e : wrap64 (wrap64 (wrap64 (Int.tdiv (i : Int) 16) * 4) + Int.tmod (i : Int) 4) = ((4 * (i / 16) + i % 4 : Nat) : Int) := by
    rw [Int.tdiv_eq_ediv_of_nonneg (Int.natCast_nonneg i), Int.tmod_eq_emod_of_nonneg (Int.natCast_nonneg i)]
    exact far_i i hi
  have HE := Aside0.mk e
  clear e
  delta portreeveref02_far.f
  rw [Option.bind_some, HE.out]
  rw [if_pos (by omega), if_pos (by show ((4 * (i / 16) + i % 4 : Nat) : Int) < 16; omega)]
  congr 1
theorem not32 (b : Nat) (hb : b < 4294967296) : bits .xor .u32 IntKind.u32.max (b : Int) = (4294967295 - (b : Int)) % 4294967296 := by
  rw [max_u32, show (4294967295 : Int) = ((4294967295 : Nat) : Int) from rfl, xor_nat .u32 32 (by decide) wr_u32 4294967295 b (by decide) hb]
  have e : 4294967295 ^^^ b = 4294967295 - b := by
    have h := congrArg BitVec.toNat (BitVec.allOnes_xor (x := BitVec.ofNat 32 b))
    rw [BitVec.toNat_xor, BitVec.toNat_not, BitVec.toNat_allOnes, BitVec.toNat_ofNat, Nat.mod_eq_of_lt hb] at h
    exact h
  rw [e]
  omega
/-- A state of words. -/
def w32 (x : Int) : Prop := 0 ≤ x ∧ x < 4294967296
theorem w32_u32w (x : Int) : w32 (u32w x) := by unfold w32 u32w; rw [wu32]; omega
theorem bits_w32 (op : BinOp) (hop : op = .and ∨ op = .or ∨ op = .xor) {a b : Int} (ha : w32 a) (hb : w32 b) : w32 (bits op .u32 a b) := by
  obtain ⟨m, rfl⟩ : ∃ m : Nat, a = m := ⟨a.toNat, by unfold w32 at ha; omega⟩
  obtain ⟨n, rfl⟩ : ∃ n : Nat, b = n := ⟨b.toNat, by unfold w32 at hb; omega⟩
  unfold w32 at *
  have hm : m < 2 ^ 32 := by show m < 4294967296; omega
  have hn : n < 2 ^ 32 := by show n < 4294967296; omega
  rcases hop with rfl | rfl | rfl
  · rw [(bits_nat .u32 32 (by decide) wr_u32 m n hm hn).1]
    have := Nat.and_lt_two_pow m hn
    exact ⟨by omega, by have h2 : (2 : Nat) ^ 32 = 4294967296 := by decide
                        omega⟩
  · rw [(bits_nat .u32 32 (by decide) wr_u32 m n hm hn).2]
    have := Nat.or_lt_two_pow hm hn
    exact ⟨by omega, by have h2 : (2 : Nat) ^ 32 = 4294967296 := by decide
                        omega⟩
  · rw [xor_nat .u32 32 (by decide) wr_u32 m n hm hn]
    have := Nat.xor_lt_two_pow hm hn
    exact ⟨by omega, by have h2 : (2 : Nat) ^ 32 = 4294967296 := by decide
                        omega⟩
theorem not32' {b : Int} (hb : w32 b) : bits .xor .u32 IntKind.u32.max b = (4294967295 - b) % 4294967296 := by
  obtain ⟨n, rfl⟩ : ∃ n : Nat, b = n := ⟨b.toNat, by unfold w32 at hb; omega⟩
  unfold w32 at hb
  exact not32 n (by omega)
theorem k_f : portreeveref02_k.f = some md5_words.l := rfl
theorem ref_j1 {l : List Int} (hB : B l) (hl : 64 ≤ l.length) (hm : l.length ≤ 140737488355328) (i : Nat) (hi : i < 64) (a b c d f : Int) (g : Nat) (hg : g < 16) (hf : f = bff i b c d) (hgi : g = bg i % 16) (k : Nat) (hk : 40 ≤ k) (s0 s1 s2 s3 : Int) :
    portreeveref02_Block.j1 (k + 1) l a b c d (i : Int) f (g : Int) s0 s1 s2 s3 = portreeveref02_Block.l0 k l (bstep (bm l 16) i (a, b, c, d)).1 (bstep (bm l 16) i (a, b, c, d)).2.1 (bstep (bm l 16) i (a, b, c, d)).2.2.1 (bstep (bm l 16) i (a, b, c, d)).2.2.2 ((i + 1 : Nat) : Int) s0 s1 s2 s3 := by
  obtain ⟨⟨nn, hn32⟩, hnn⟩ := turns_lt ⟨4 * (i / 16) + i % 4, by omega⟩
  dsimp only at hnn
  have hgm := bm_get hB 16 (Nat.le_refl _) g hg
  rw [if_pos hg] at hgm
  have hrd : rd md5_words.l (i : Int) = md5_words.l.getD i 0 := by unfold rd; rw [Int.toNat_natCast]
  have hlen : md5_words.l.length = 64 := rfl
  obtain ⟨kv, hkv⟩ : ∃ kv, md5_words.l.getD i 0 = kv := ⟨_, rfl⟩
  obtain ⟨mv, hmv⟩ : ∃ mv, wd l g 4 = mv := ⟨_, rfl⟩
  obtain ⟨X, hX⟩ : ∃ X : Nat, (((((f + a) % 4294967296) + kv) % 4294967296) + mv) % 4294967296 = (X : Int) := ⟨((((((f + a) % 4294967296) + kv) % 4294967296) + mv) % 4294967296).toNat, by omega⟩
  have hXl : X < 4294967296 := by omega
  have hF : u32w (bff i b c d + u32w (u32w (a + kv) + mv)) = (X : Int) := by
    unfold u32w
    rw [wu32, wu32, wu32, ← hf]
    omega
  have hst : bstep (bm l 16) i (a, b, c, d) = (d, (b + ((rot X nn : Nat) : Int)) % 4294967296, b, c) := by
    unfold bstep
    dsimp only
    rw [hkv, ← hgi, hgm, hmv, hF, hnn, Int.toNat_natCast, or_rot X nn hXl (by omega)]
    unfold u32w
    rw [wu32]
  rw [hst, portreeveref02_Block.j1, k_f, Option.bind_some, hrd, hkv, hlen, if_pos (by omega), if_pos (by omega), at_f hB hl hm g hg, Option.bind_some, hmv, far_f i hi, Option.bind_some, hnn, hX, turn_f X nn k hXl (by omega) (by omega), Option.bind_some, w64 (by omega) (by omega)]
  rfl
theorem g_5 (i : Nat) (hi : i < 64) : Int.tmod (wrap64 (wrap64 (5 * (i : Int)) + 1)) 16 = (((5 * i + 1) % 16 : Nat) : Int) := by
  rw [w64 (a := 5 * (i : Int)) (by omega) (by omega), w64 (by omega) (by omega), Int.tmod_eq_emod_of_nonneg (by omega)]
  omega
theorem g_3 (i : Nat) (hi : i < 64) : Int.tmod (wrap64 (wrap64 (3 * (i : Int)) + 5)) 16 = (((3 * i + 5) % 16 : Nat) : Int) := by
  rw [w64 (a := 3 * (i : Int)) (by omega) (by omega), w64 (by omega) (by omega), Int.tmod_eq_emod_of_nonneg (by omega)]
  omega
theorem g_7 (i : Nat) (hi : i < 64) : Int.tmod (wrap64 (7 * (i : Int))) 16 = (((7 * i) % 16 : Nat) : Int) := by
  rw [w64 (by omega) (by omega), Int.tmod_eq_emod_of_nonneg (by omega)]
  omega
theorem ref_step {l : List Int} (hB : B l) (hl : 64 ≤ l.length) (hm : l.length ≤ 140737488355328) (i : Nat) (hi : i < 64) (a b c d : Int) (hb : w32 b) (hc : w32 c) (hd : w32 d) (k : Nat) (hk : 40 ≤ k) (s0 s1 s2 s3 : Int) :
    portreeveref02_Block.l0 (k + 2) l a b c d (i : Int) s0 s1 s2 s3 = portreeveref02_Block.l0 k l (bstep (bm l 16) i (a, b, c, d)).1 (bstep (bm l 16) i (a, b, c, d)).2.1 (bstep (bm l 16) i (a, b, c, d)).2.2.1 (bstep (bm l 16) i (a, b, c, d)).2.2.2 ((i + 1 : Nat) : Int) s0 s1 s2 s3 := by
  rw [portreeveref02_Block.l0, if_pos (by omega)]
  by_cases h1 : i < 16
  · rw [if_pos (by omega)]
    exact ref_j1 hB hl hm i hi a b c d _ i h1 (by rw [bff, if_pos h1, not32' hb]) (by rw [bg, if_pos h1]; omega) k hk s0 s1 s2 s3
  · rw [if_neg (by omega)]
    by_cases h2 : i < 32
    · rw [if_pos (by omega), g_5 i hi]
      exact ref_j1 hB hl hm i hi a b c d _ _ (Nat.mod_lt _ (by omega)) (by rw [bff, if_neg h1, if_pos h2, not32' hd]) (by rw [bg, if_neg h1, if_pos h2]) k hk s0 s1 s2 s3
    · rw [if_neg (by omega)]
      by_cases h3 : i < 48
      · rw [if_pos (by omega), g_3 i hi]
        exact ref_j1 hB hl hm i hi a b c d _ _ (Nat.mod_lt _ (by omega)) (by rw [bff, if_neg h1, if_neg h2, if_pos h3]) (by rw [bg, if_neg h1, if_neg h2, if_pos h3]) k hk s0 s1 s2 s3
      · rw [if_neg (by omega), g_7 i hi]
        exact ref_j1 hB hl hm i hi a b c d _ _ (Nat.mod_lt _ (by omega)) (by rw [bff, if_neg h1, if_neg h2, if_neg h3, not32' hd]) (by rw [bg, if_neg h1, if_neg h2, if_neg h3]) k hk s0 s1 s2 s3
def ww (S : Int × Int × Int × Int) : Prop := w32 S.1 ∧ w32 S.2.1 ∧ w32 S.2.2.1 ∧ w32 S.2.2.2
theorem bstep_ww (ms : List Int) (i : Nat) (S : Int × Int × Int × Int) (h : ww S) : ww (bstep ms i S) := by
  obtain ⟨a, b, c, d⟩ := S
  exact ⟨h.2.2.2, w32_u32w _, h.2.1, h.2.2.1⟩
theorem bx_ww (ms : List Int) (s : Int × Int × Int × Int) (h : ww s) : ∀ i, ww (bx ms s i)
  | 0 => h
  | i + 1 => bstep_ww ms i _ (bx_ww ms s h i)
theorem ref_l0 {l : List Int} (hB : B l) (hl : 64 ≤ l.length) (hm : l.length ≤ 140737488355328) (s : Int × Int × Int × Int) (hs : ww s) : ∀ (d k i : Nat), i + d = 64 → 2 * d + 42 ≤ k →
    portreeveref02_Block.l0 k l (bx (bm l 16) s i).1 (bx (bm l 16) s i).2.1 (bx (bm l 16) s i).2.2.1 (bx (bm l 16) s i).2.2.2 (i : Int) s.1 s.2.1 s.2.2.1 s.2.2.2 = some ((s.1 + (bx (bm l 16) s 64).1) % 4294967296, (s.2.1 + (bx (bm l 16) s 64).2.1) % 4294967296, (s.2.2.1 + (bx (bm l 16) s 64).2.2.1) % 4294967296, (s.2.2.2 + (bx (bm l 16) s 64).2.2.2) % 4294967296)
  | 0, k, i, hi, hk => by
    obtain ⟨k, rfl⟩ : ∃ m, k = m + 1 := ⟨k - 1, by omega⟩
    obtain rfl : i = 64 := by omega
    generalize bx (bm l 16) s 64 = S
    rw [portreeveref02_Block.l0, if_neg (by omega)]
  | d + 1, k, i, hi, hk => by
    obtain ⟨k, rfl⟩ : ∃ m, k = m + 2 := ⟨k - 2, by omega⟩
    have hw := bx_ww (bm l 16) s hs i
    have ih := ref_l0 hB hl hm s hs d k (i + 1) (by omega) (by omega)
    rw [bx] at ih
    generalize bx (bm l 16) s 64 = F at ih ⊢
    generalize bx (bm l 16) s i = S at hw ih ⊢
    obtain ⟨a, b, c, e⟩ := S
    rw [← ih]
    exact ref_step hB hl hm i (by omega) a b c e hw.2.1 hw.2.2.1 hw.2.2.2 k (by omega) _ _ _ _
/-- A block's state is the document's. -/
theorem block_ref {l : List Int} (hB : B l) (hl : 64 ≤ l.length) (hm : l.length ≤ 140737488355328) (a b c d : Int) (hs : ww (a, b, c, d)) (k : Nat) (hk : 200 ≤ k) : portreeveref02_Block.f k a b c d l = some (md5_Block.fin a b c d l) := by
  have h := ref_l0 hB hl hm (a, b, c, d) hs 64 k 0 rfl (by omega)
  unfold portreeveref02_Block.f md5_Block.fin
  rw [show bx (bm l 16) (a, b, c, d) 0 = (a, b, c, d) from rfl] at h
  generalize bx (bm l 16) (a, b, c, d) 64 = F at h ⊢
  obtain ⟨x0, x1, x2, x3⟩ := F
  dsimp only
  unfold u32w
  rw [wu32, wu32, wu32, wu32]
  exact h
/-! What is padded, as the document has it. -/
def dg (n : Nat) : Nat → List Int
  | 0 => []
  | d + 1 => ((n % 256 : Nat) : Int) :: dg (n / 256) d
theorem refpad_l0 : ∀ (d k j n : Nat) (x3 : List Int), j + d = 8 → d < k → x3.length + d < 140737488355328 → n < 18446744073709551616 → portreeveref02_Pad.l0 k x3 (n : Int) (j : Int) = some (x3 ++ dg n d)
  | 0, k, j, n, x3, hj, hk, hl, hn => by
    obtain ⟨k, rfl⟩ : ∃ m, k = m + 1 := ⟨k - 1, by omega⟩
    rw [portreeveref02_Pad.l0, if_neg (by omega), dg, List.append_nil]
  | d + 1, k, j, n, x3, hj, hk, hl, hn => by
    obtain ⟨k, rfl⟩ : ∃ m, k = m + 1 := ⟨k - 1, by omega⟩
    have e1 : Int.tmod (n : Int) 256 % 256 = ((n % 256 : Nat) : Int) := by
      rw [Int.tmod_eq_emod_of_nonneg (by omega)]
      omega
    have e2 : IntKind.u64.wrap (Int.tdiv (n : Int) 256) = ((n / 256 : Nat) : Int) := by
      rw [Int.tdiv_eq_ediv_of_nonneg (by omega), wu64]
      omega
    rw [portreeveref02_Pad.l0, e1, e2]
    clear e1 e2
    rw [if_pos (by omega), if_pos (by omega), w64 (by omega) (by omega), show ((j : Int) + 1) = ((j + 1 : Nat) : Int) by omega, refpad_l0 d k (j + 1) (n / 256) _ (by omega) (by omega) (by simp; omega) (by omega), List.append_assoc]
    rfl
theorem dg_lb (n : Nat) (hn : n ≤ 8000) : dg (8 * n) 8 = lb n := by
  simp only [dg, lb]
  rw [show 8 * n / 256 % 256 = 8 * n / 256 by omega, show 8 * n / 256 / 256 = 0 by omega]
  simp only [Nat.zero_div, Nat.zero_mod]
  rfl
theorem refpad_f (l : List Int) (k : Nat) (hl : l.length ≤ 8000) (hk : 80 ≤ k) : portreeveref02_Pad.f k l = some (pad l) := by
  have hz := zn_lt l.length
  have ez : ((119 - ((l.length : Int) % 64)) % 64).toNat = zn l.length := by unfold zn; omega
  have eb : IntKind.u64.wrap (8 * IntKind.u64.wrap (l.length : Int)) = ((8 * l.length : Nat) : Int) := by rw [wu64, wu64]; omega
  unfold portreeveref02_Pad.f
  rw [Option.bind_some, List.nil_append, if_pos (by simp; omega), Option.bind_some, if_pos (by omega), Option.bind_some, if_pos (by omega), ez, if_pos (by simp; omega), eb]
  have h := refpad_l0 8 k 0 (8 * l.length) (l ++ [128] ++ List.replicate (zn l.length) 0) rfl (by omega) (by simp; omega) (by omega)
  rw [dg_lb _ hl] at h
  exact h
/-! Digests, as the document has them. -/
theorem st_succ (p : List Int) (i : Nat) : md5_Sum.st p (List.range (i + 1)) = md5_Sum.one p (md5_Sum.st p (List.range i)) i := by
  unfold md5_Sum.st
  rw [List.range_succ, List.foldl_append]
  rfl
theorem fin_ww (a b c d : Int) (l : List Int) : ww (md5_Block.fin a b c d l) := by
  unfold md5_Block.fin
  exact ⟨w32_u32w _, w32_u32w _, w32_u32w _, w32_u32w _⟩
theorem st_ww (p : List Int) : ∀ i, ww (md5_Sum.st p (List.range i))
  | 0 => by
    show ww (1732584193, 4023233417, 2562383102, 271733878)
    unfold ww w32
    decide
  | i + 1 => by
    rw [st_succ]
    exact fin_ww _ _ _ _ _
theorem st_ref {p : List Int} (hB : B p) (hm : p.length ≤ 140737488355328) (k : Nat) (hk : 200 ≤ k) : ∀ i, 64 * i ≤ p.length → portreeveref02_Sum.st k p i = some (md5_Sum.st p (List.range i))
  | 0, _ => rfl
  | i + 1, hi => by
    have ih := st_ref hB hm k hk i (by omega)
    have hw := st_ww p i
    rw [portreeveref02_Sum.st, ih, Option.bind_some, st_succ]
    unfold md5_Sum.one
    generalize md5_Sum.st p (List.range i) = S at hw ⊢
    obtain ⟨a, b, c, d⟩ := S
    have hlen : ((p.take (64 * i + 64)).drop (64 * i)).length = 64 := by rw [List.length_drop, List.length_take]; omega
    exact block_ref (B_drop _ (B_take _ hB)) (by omega) (by omega) a b c d hw k hk
theorem dv_eq {n : Int} (hn : w32 n) : ∀ j, j < 4 → portreeveref02_Sum.dv n j = n / 2 ^ (8 * j)
  | 0, _ => by
    show n = n / 2 ^ 0
    omega
  | 1, _ => by
    show IntKind.u32.wrap (n.tdiv 256) = n / 2 ^ 8
    unfold w32 at hn
    rw [Int.tdiv_eq_ediv_of_nonneg hn.1, wu32]
    omega
  | 2, _ => by
    show IntKind.u32.wrap ((portreeveref02_Sum.dv n 1).tdiv 256) = n / 2 ^ 16
    rw [dv_eq hn 1 (by omega)]
    unfold w32 at hn
    rw [Int.tdiv_eq_ediv_of_nonneg (by show 0 ≤ n / 256; omega), wu32]
    show n / 256 / 256 % 4294967296 = n / 65536
    omega
  | 3, _ => by
    show IntKind.u32.wrap ((portreeveref02_Sum.dv n 2).tdiv 256) = n / 2 ^ 24
    rw [dv_eq hn 2 (by omega)]
    unfold w32 at hn
    rw [Int.tdiv_eq_ediv_of_nonneg (by show 0 ≤ n / 65536; omega), wu32]
    show n / 65536 / 256 % 4294967296 = n / 16777216
    omega
theorem byte_ref (S : Int × Int × Int × Int) (hS : ww S) (i : Nat) (hi : i < 16) : portreeveref02_Sum.byte S i = md5_Sum.byte S i := by
  unfold portreeveref02_Sum.byte md5_Sum.byte md5_Sum.sl
  obtain ⟨a, b, c, d⟩ := S
  obtain ⟨ha, hb, hc, hd⟩ := hS
  have hv : w32 (([a, b, c, d] : List Int).getD (i / 4) 0) := by
    have h : i / 4 = 0 ∨ i / 4 = 1 ∨ i / 4 = 2 ∨ i / 4 = 3 := by omega
    rcases h with h | h | h | h <;> rw [h]
    · exact ha
    · exact hb
    · exact hc
    · exact hd
  dsimp only
  generalize ([a, b, c, d] : List Int).getD (i / 4) 0 = v at hv ⊢
  rw [dv_eq hv _ (by omega)]
  have h0 : 0 ≤ v / 2 ^ (8 * (i % 4)) := Int.ediv_nonneg hv.1 (Int.le_of_lt (Int.pow_pos (by decide)))
  generalize v / 2 ^ (8 * (i % 4)) = u at h0 ⊢
  rw [Int.tmod_eq_emod_of_nonneg h0, wu8]
  omega
theorem outs_ref (S : Int × Int × Int × Int) (hS : ww S) : ∀ n, n ≤ 16 → portreeveref02_Sum.outs S n = md5_Sum.outs S n
  | 0, _ => rfl
  | n + 1, hn => by rw [portreeveref02_Sum.outs, md5_Sum.outs, outs_ref S hS n (by omega), byte_ref S hS n (by omega)]
theorem B_pad {l : List Int} (hB : B l) (hl : l.length ≤ 8000) : B (pad l) := by
  unfold pad lb
  refine B_append (B_append (B_append hB ?_) ?_) ?_
  · intro c hc
    simp only [List.mem_cons, List.not_mem_nil, or_false] at hc
    omega
  · intro c hc
    have := (List.mem_replicate.1 hc).2
    omega
  · intro c hc
    simp only [List.mem_cons, List.not_mem_nil, or_false] at hc
    omega
/-- A digest is the document's. -/
theorem refsum_f (l : List Int) (k : Nat) (hB : B l) (hl : l.length ≤ 8000) (hk : 200 ≤ k) : portreeveref02_Sum.f k l = some (dig l) := by
  have h1 := pad_length l
  have h2 := zn_lt l.length
  unfold portreeveref02_Sum.f
  rw [refpad_f l k hl (by omega), Option.bind_some, if_pos ⟨pad_mod l, by omega, by omega⟩, st_ref (B_pad hB hl) (by omega) k hk _ (by omega), Option.bind_some, outs_ref _ (st_ww _ _) 16 (Nat.le_refl _)]
  rfl
end Go.Proofs.Ytpbkdphilcodmaa.Pure
