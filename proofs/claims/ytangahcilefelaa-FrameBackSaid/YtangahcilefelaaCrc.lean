/- The register of a check sequence as plain numbers: its step is linear, and no two states have one successor. -/
namespace Go.Proofs.YtangahcilefelaaCrc
set_option linter.unusedVariables false

def s1 (n : Nat) : Nat := if n % 2 = 1 then n / 2 ^^^ 33800 else n / 2
def sn : Nat → Nat → Nat
  | 0, n => n
  | j + 1, n => sn j (s1 n)
def st (s c : Nat) : Nat := sn 8 (s ^^^ c)
def on (s : Nat) (l : List Nat) : Nat := l.foldl st s
theorem on_nil (s : Nat) : on s [] = s := List.foldl_nil
theorem on_cons (s c : Nat) (l : List Nat) : on s (c :: l) = on (st s c) l := List.foldl_cons ..

theorem s1_bit (n i : Nat) : (s1 n).testBit i = (n.testBit (i + 1) ^^ (n.testBit 0 && (33800 : Nat).testBit i)) := by
  unfold s1
  by_cases h : n % 2 = 1
  · rw [if_pos h, Nat.testBit_xor, Nat.testBit_div_two, Nat.testBit_zero, decide_eq_true h, Bool.true_and]
  · rw [if_neg h, Nat.testBit_div_two, Nat.testBit_zero, decide_eq_false h, Bool.false_and, Bool.xor_false]

theorem s1_lt {n : Nat} (h : n < 65536) : s1 n < 65536 := by
  unfold s1
  split
  · exact Nat.xor_lt_two_pow (n := 16) (by omega) (by omega)
  · omega

theorem s1_xor (a b : Nat) : s1 (a ^^^ b) = s1 a ^^^ s1 b := by
  apply Nat.eq_of_testBit_eq
  intro i
  rw [Nat.testBit_xor, s1_bit, s1_bit, s1_bit, Nat.testBit_xor, Nat.testBit_xor]
  cases a.testBit (i + 1) <;> cases b.testBit (i + 1) <;> cases a.testBit 0 <;> cases b.testBit 0 <;> cases (33800 : Nat).testBit i <;> rfl

theorem s1_zero {d : Nat} (h : d < 65536) (h0 : s1 d = 0) : d = 0 := by
  have hb : ∀ i, (d.testBit (i + 1) ^^ (d.testBit 0 && (33800 : Nat).testBit i)) = false := by
    intro i
    rw [← s1_bit, h0, Nat.zero_testBit]
  have h16 : d.testBit 16 = false := Nat.testBit_lt_two_pow (by omega)
  have hz : d.testBit 0 = false := by
    have := hb 15
    rw [h16, show (33800 : Nat).testBit 15 = true by decide] at this
    simpa using this
  apply Nat.eq_of_testBit_eq
  intro i
  rw [Nat.zero_testBit]
  cases i with
  | zero => exact hz
  | succ i =>
    have := hb i
    rw [hz] at this
    simpa using this

theorem sn_lt (j : Nat) : ∀ {n : Nat}, n < 65536 → sn j n < 65536 := by
  induction j with
  | zero => intro n h; exact h
  | succ j ih => intro n h; exact ih (s1_lt h)

theorem sn_xor (j : Nat) : ∀ a b : Nat, sn j (a ^^^ b) = sn j a ^^^ sn j b := by
  induction j with
  | zero => intro a b; rfl
  | succ j ih => intro a b; simp only [sn, s1_xor, ih]

theorem sn_zero (j : Nat) : ∀ {d : Nat}, d < 65536 → sn j d = 0 → d = 0 := by
  induction j with
  | zero => intro d _ h; exact h
  | succ j ih => intro d h h0; exact s1_zero h (ih (s1_lt h) h0)

theorem sn_of_zero (j : Nat) : sn j 0 = 0 := by
  induction j with
  | zero => rfl
  | succ j ih => simpa [sn, s1] using ih

theorem sn_add (i j : Nat) : ∀ n, sn (i + j) n = sn j (sn i n) := by
  induction i with
  | zero => intro n; simp [sn]
  | succ i ih => intro n; rw [Nat.succ_add]; exact ih (s1 n)

theorem sn_shift (j : Nat) : ∀ m : Nat, sn j (2 ^ j * m) = m := by
  induction j with
  | zero => intro m; simp [sn]
  | succ j ih =>
    intro m
    have : s1 (2 ^ (j + 1) * m) = 2 ^ j * m := by
      unfold s1
      rw [Nat.pow_succ, show 2 ^ j * 2 * m = 2 * (2 ^ j * m) by rw [Nat.mul_comm (2 ^ j) 2, Nat.mul_assoc], if_neg (by omega)]
      omega
    rw [sn, this, ih]

theorem xor_cancel {a b : Nat} (h : a ^^^ b = 0) : a = b := by
  have := congrArg (· ^^^ b) h
  simpa [Nat.xor_assoc] using this

theorem sn_inj (j : Nat) {a b : Nat} (ha : a < 65536) (hb : b < 65536) (h : sn j a = sn j b) : a = b := by
  apply xor_cancel
  apply sn_zero j (Nat.xor_lt_two_pow (n := 16) ha hb)
  rw [sn_xor, h, Nat.xor_self]

theorem st_lt {s c : Nat} (hs : s < 65536) (hc : c < 256) : st s c < 65536 := sn_lt 8 (Nat.xor_lt_two_pow (n := 16) hs (by omega))

theorem on_lt (l : List Nat) : ∀ {s : Nat}, s < 65536 → (∀ c ∈ l, c < 256) → on s l < 65536 := by
  induction l with
  | nil => intro s hs _; rw [on_nil]; exact hs
  | cons c l ih => intro s hs h; rw [on_cons]; exact ih (st_lt hs (h c (by simp))) (fun x hx => h x (by simp [hx]))

theorem on_append (l m : List Nat) (s : Nat) : on s (l ++ m) = on (on s l) m := List.foldl_append ..

theorem st_xor (s o c : Nat) : st (s ^^^ o) c = st s c ^^^ st o 0 := by
  unfold st
  rw [← sn_xor, Nat.xor_zero, show s ^^^ o ^^^ c = s ^^^ c ^^^ o by rw [Nat.xor_assoc, Nat.xor_comm o c, ← Nat.xor_assoc]]

/-- Of an exclusive-or it is the exclusive-or. -/
theorem on_xor (l : List Nat) : ∀ (s o : Nat), on (s ^^^ o) l = on s l ^^^ on o (List.replicate l.length 0) := by
  induction l with
  | nil =>
    intro s o
    rw [on_nil, on_nil, List.length_nil, List.replicate_zero, on_nil]
  | cons c l ih =>
    intro s o
    rw [List.length_cons, List.replicate_succ, on_cons, on_cons, on_cons, st_xor, ih]

theorem on_zeros_zero (n : Nat) : ∀ {d : Nat}, d < 65536 → on d (List.replicate n 0) = 0 → d = 0 := by
  induction n with
  | zero => intro d _ h; rw [List.replicate_zero, on_nil] at h; exact h
  | succ n ih =>
    intro d hd h
    rw [List.replicate_succ, on_cons] at h
    have h1 := ih (st_lt hd (by omega)) h
    unfold st at h1
    rw [Nat.xor_zero] at h1
    exact sn_zero 8 hd h1

theorem two (s x y : Nat) : st (st s x) y = sn 16 (s ^^^ (x ^^^ 256 * y)) := by
  have h8 : sn 8 (256 * y) = y := sn_shift 8 y
  have e : sn 8 (s ^^^ (x ^^^ 256 * y)) = sn 8 (s ^^^ x) ^^^ y := by rw [← Nat.xor_assoc, sn_xor 8 (s ^^^ x), h8]
  have e2 := sn_add 8 8 (s ^^^ (x ^^^ 256 * y))
  rw [e] at e2
  exact e2.symm

theorem word (x y : Nat) (hx : x < 256) : x ^^^ 256 * y = 256 * y + x := by
  apply Nat.eq_of_testBit_eq
  intro i
  rw [Nat.testBit_xor, show (256 : Nat) = 2 ^ 8 from rfl, Nat.testBit_two_pow_mul_add _ (by simpa using hx), Nat.testBit_two_pow_mul]
  by_cases h : i < 8
  · rw [if_pos h, decide_eq_false (show ¬ i ≥ 8 by omega), Bool.false_and, Bool.xor_false]
  · rw [if_neg h, decide_eq_true (show i ≥ 8 by omega), Bool.true_and, Nat.testBit_lt_two_pow (i := i) (x := x), Bool.false_xor]
    exact Nat.lt_of_lt_of_le hx (by rw [show (256 : Nat) = 2 ^ 8 from rfl]; exact Nat.pow_le_pow_right (by decide) (by omega))

/-- Just these two bytes make it good. -/
theorem fine (r x y : Nat) (hr : r < 65536) (hx : x < 256) (hy : y < 256) : st (st r x) y = 61624 ↔ x = (65535 ^^^ r) % 256 ∧ y = (65535 ^^^ r) / 256 := by
  have h16 : sn 16 65535 = 61624 := by decide
  have hc : 65535 ^^^ r < 65536 := Nat.xor_lt_two_pow (n := 16) (by omega) hr
  rw [two, word x y hx, ← h16]
  constructor
  · intro h
    have h1 := sn_inj 16 (Nat.xor_lt_two_pow (n := 16) hr (by omega)) (by omega) h
    have h2 : 256 * y + x = 65535 ^^^ r := by
      have := congrArg (r ^^^ ·) h1
      rw [← Nat.xor_assoc, Nat.xor_self, Nat.zero_xor, Nat.xor_comm] at this
      exact this
    omega
  · rintro ⟨rfl, rfl⟩
    rw [show 256 * ((65535 ^^^ r) / 256) + (65535 ^^^ r) % 256 = 65535 ^^^ r by omega, Nat.xor_comm 65535 r, ← Nat.xor_assoc, Nat.xor_self, Nat.zero_xor]

theorem compl {r : Nat} (h : r < 65536) : 65535 ^^^ r = 65535 - r := by
  apply Nat.eq_of_testBit_eq
  intro i
  rw [show 65535 - r = 2 ^ 16 - (r + 1) by omega, Nat.testBit_two_pow_sub_succ (by simpa using h), Nat.testBit_xor, show (65535 : Nat) = 2 ^ 16 - 1 from rfl, Nat.testBit_two_pow_sub_one]
  by_cases hi : i < 16
  · simp [hi]
  · simp only [hi, decide_false, Bool.false_and, Bool.false_xor]
    exact Nat.testBit_lt_two_pow (Nat.lt_of_lt_of_le h (by rw [show (65536 : Nat) = 2 ^ 16 from rfl]; exact Nat.pow_le_pow_right (by decide) (by omega)))
end Go.Proofs.YtangahcilefelaaCrc
