/- Small words for the pure statements: ranges of numbers, wraps, rounds. -/
import Derived.Test.YtpbkdphilcodmaaWMore
import Derived.RowKit
import Derived.IntWalk
import Derived.Laws.BitsLemmas
namespace Go.Proofs.YtpbkdphilcodmaaK
open Go Go.RowKit Go.Proofs.YtpbkdphilcodmaaW.PrintWords Go.Proofs.YtpbkdphilcodmaaW.PrintLast Go.Proofs.YtpbkdphilcodmaaW.PrintMore

theorem wf_i64 {a : Int} : (Lit.int .i64 a).wf = true ↔ -9223372036854775808 ≤ a ∧ a ≤ 9223372036854775807 := by
  simp [Lit.wf, IntKind.min, IntKind.max, IntKind.signed, IntKind.bits]
theorem wf_u64 {a : Int} : (Lit.int .u64 a).wf = true ↔ 0 ≤ a ∧ a ≤ 18446744073709551615 := by
  simp [Lit.wf, IntKind.min, IntKind.max, IntKind.signed, IntKind.bits]
theorem wf_u32 {a : Int} : (Lit.int .u32 a).wf = true ↔ 0 ≤ a ∧ a ≤ 4294967295 := by
  simp [Lit.wf, IntKind.min, IntKind.max, IntKind.signed, IntKind.bits]
theorem wf_u16 {a : Int} : (Lit.int .u16 a).wf = true ↔ 0 ≤ a ∧ a ≤ 65535 := by
  simp [Lit.wf, IntKind.min, IntKind.max, IntKind.signed, IntKind.bits]
theorem wf_u8 {a : Int} : (Lit.int .u8 a).wf = true ↔ 0 ≤ a ∧ a ≤ 255 := by
  simp [Lit.wf, IntKind.min, IntKind.max, IntKind.signed, IntKind.bits]
theorem w64 {a : Int} (h0 : -9223372036854775808 ≤ a) (h1 : a ≤ 9223372036854775807) : wrap64 a = a := by
  unfold wrap64
  omega
theorem wu64 (a : Int) : IntKind.u64.wrap a = a % 18446744073709551616 := by
  simp [IntKind.wrap, IntKind.signed, IntKind.bits]
theorem wu32 (a : Int) : IntKind.u32.wrap a = a % 4294967296 := by
  simp [IntKind.wrap, IntKind.signed, IntKind.bits]
theorem wu16 (a : Int) : IntKind.u16.wrap a = a % 65536 := by
  simp [IntKind.wrap, IntKind.signed, IntKind.bits]
theorem wu8 (a : Int) : IntKind.u8.wrap a = a % 256 := by
  simp [IntKind.wrap, IntKind.signed, IntKind.bits]

theorem max_u8 : IntKind.u8.max = 255 := by decide
theorem max_u16 : IntKind.u16.max = 65535 := by decide
theorem max_u32 : IntKind.u32.max = 4294967295 := by decide
theorem max_u64 : IntKind.u64.max = 18446744073709551615 := by decide
theorem xor_nat (k : IntKind) (j : Nat) (hj : j ≤ k.bits) (hk : ∀ n : Int, 0 ≤ n → n < 2 ^ j → k.wrap n = n) (a b : Nat) (ha : a < 2 ^ j) (hb : b < 2 ^ j) : bits .xor k a b = ((a ^^^ b : Nat) : Int) := by
  have hp : 2 ^ j ≤ 2 ^ k.bits := Nat.pow_le_pow_right (by decide) hj
  have ha' : a % 2 ^ k.bits = a := Nat.mod_eq_of_lt (Nat.lt_of_lt_of_le ha hp)
  have hb' : b % 2 ^ k.bits = b := Nat.mod_eq_of_lt (Nat.lt_of_lt_of_le hb hp)
  have cast : ∀ n : Nat, n < 2 ^ j → ((n : Nat) : Int) < 2 ^ j := fun n h => by exact_mod_cast h
  simp only [bits, BitVec.ofInt_natCast, BitVec.toNat_xor, BitVec.toNat_ofNat, ha', hb']
  exact hk _ (Int.natCast_nonneg _) (cast _ (Nat.xor_lt_two_pow ha hb))
theorem wr_u8 (n : Int) (h0 : 0 ≤ n) (h1 : n < 2 ^ 8) : IntKind.u8.wrap n = n := by rw [wu8]; omega
theorem wr_u16 (n : Int) (h0 : 0 ≤ n) (h1 : n < 2 ^ 16) : IntKind.u16.wrap n = n := by rw [wu16]; omega
theorem wr_u32 (n : Int) (h0 : 0 ≤ n) (h1 : n < 2 ^ 32) : IntKind.u32.wrap n = n := by rw [wu32]; omega
theorem wr_u64 (n : Int) (h0 : 0 ≤ n) (h1 : n < 2 ^ 64) : IntKind.u64.wrap n = n := by rw [wu64]; omega
theorem wr_i64 (n : Int) (h0 : 0 ≤ n) (h1 : n < 2 ^ 63) : IntKind.i64.wrap n = n := by rw [IntKind.wrap_i64]; omega
theorem xor8 (a b : Nat) (ha : a < 256) (hb : b < 256) : bits .xor .u8 a b = ((a ^^^ b : Nat) : Int) := xor_nat .u8 8 (by decide) wr_u8 a b ha hb
theorem xor16 (a b : Nat) (ha : a < 65536) (hb : b < 65536) : bits .xor .u16 a b = ((a ^^^ b : Nat) : Int) := xor_nat .u16 16 (by decide) wr_u16 a b ha hb
theorem xor_i64 (a b : Nat) (ha : a < 65536) (hb : b < 65536) : bits .xor .i64 a b = ((a ^^^ b : Nat) : Int) := xor_nat .i64 63 (by decide) wr_i64 a b (by omega) (by omega)
theorem and16 (a b : Nat) (ha : a < 65536) (hb : b < 65536) : bits .and .u16 a b = ((a &&& b : Nat) : Int) := (bits_nat .u16 16 (by decide) wr_u16 a b ha hb).1
theorem rd_lt (l : List Int) (i : Nat) (h : i < l.length) : rd l i = l[i] := by
  unfold rd
  rw [Int.toNat_natCast, List.getD_eq_getElem?_getD, List.getElem?_eq_getElem h]
  rfl
/-- All are bytes. -/
def B (l : List Int) : Prop := ∀ c ∈ l, 0 ≤ c ∧ c ≤ 255
theorem B_of {l : List Int} (h : ∀ a ∈ l, (Lit.int .u8 a).wf = true) : B l := fun c hc => wf_u8.1 (h c hc)
theorem B_append {l m : List Int} (hl : B l) (hm : B m) : B (l ++ m) := fun c hc => (List.mem_append.1 hc).elim (hl c) (hm c)
theorem B_take {l : List Int} (n : Nat) (h : B l) : B (l.take n) := fun c hc => h c (List.mem_of_mem_take hc)
theorem B_drop {l : List Int} (n : Nat) (h : B l) : B (l.drop n) := fun c hc => h c (List.mem_of_mem_drop hc)
/-- As natural numbers. -/
def toN (l : List Int) : List Nat := l.map Int.toNat
theorem toN_length (l : List Int) : (toN l).length = l.length := by simp [toN]
theorem toN_append (l m : List Int) : toN (l ++ m) = toN l ++ toN m := by simp [toN]
theorem toN_lt {l : List Int} (h : B l) : ∀ c ∈ toN l, c < 256 := by
  intro c hc
  obtain ⟨x, hx, rfl⟩ := List.mem_map.1 hc
  have := h x hx
  omega
theorem toN_drop (l : List Int) (i : Nat) (h : i < l.length) : (toN l).drop i = (l[i]).toNat :: (toN l).drop (i + 1) := by
  unfold toN
  rw [List.drop_eq_getElem_cons (by simpa using h)]
  simp
theorem toN_inj {l m : List Int} (hl : B l) (hm : B m) (h : toN l = toN m) : l = m := by
  apply List.ext_getElem
  · have := congrArg List.length h
    simpa [toN] using this
  · intro i h1 h2
    have := congrArg (fun x => x[i]?) h
    simp only [toN, List.getElem?_map, List.getElem?_eq_getElem h1, List.getElem?_eq_getElem h2, Option.map_some, Option.some.injEq] at this
    have a := hl _ (List.getElem_mem h1)
    have b := hm _ (List.getElem_mem h2)
    omega

/-- Rounds: at least m of them. -/
theorem more_rounds {α : Type} {g : Nat → Option α} (hm : ∀ k, LeO (g k) (g (k + 1))) {k m : Nat} {r : α} (h : g k = some r) (hkm : k ≤ m) : g m = some r := by
  induction hkm with
  | refl => exact h
  | step _ ih => exact hm _ r ih
end Go.Proofs.YtpbkdphilcodmaaK
