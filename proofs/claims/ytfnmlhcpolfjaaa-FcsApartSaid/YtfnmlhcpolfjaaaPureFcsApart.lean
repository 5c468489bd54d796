/- Two rows as long, that differ in one or two bytes that stand together, have two check sequences. -/
import Derived.Test.YtfnmlhcpolfjaaaSayFcsApart
import Derived.Test.YtfnmlhcpolfjaaaBase
namespace Go.Proofs.Ytfnmlhcpolfjaaa.Pure
set_option linter.unusedVariables false
open Go Go.RowKit Go.Proofs.Ytfnmlhcpolfjaaa.Q Go.Proofs.YtfnmlhcpolfjaaaK Go.Proofs.YtfnmlhcpolfjaaaCrc Go.Proofs.YtfnmlhcpolfjaaaW.PrintWords Go.Proofs.YtfnmlhcpolfjaaaW.PrintLast Go.Proofs.YtfnmlhcpolfjaaaW.PrintMore

theorem xor_same {a z : Nat} (h : a = a ^^^ z) : z = 0 := by
  have := congrArg (a ^^^ ·) h
  simpa [← Nat.xor_assoc] using this.symm

theorem reg_apart (m q : List Nat) (s x y d e : Nat) (hs : s < 65536) (hd : d < 256) (he : e < 256) (hx : x < 256) (hy : y < 256) (hq : ∀ c ∈ q, c < 256) (hm : ∀ c ∈ m, c < 256) (hde : d ≠ 0 ∨ e ≠ 0) :
    on s (m ++ x :: y :: q) ≠ on s (m ++ (x ^^^ d) :: (y ^^^ e) :: q) := by
  rw [on_append, on_append]
  have hr := on_lt m hs hm
  generalize on s m = r at hr
  intro h
  simp only [on_cons, two] at h
  have e1 : r ^^^ ((x ^^^ d) ^^^ 256 * (y ^^^ e)) = (r ^^^ (x ^^^ 256 * y)) ^^^ (d ^^^ 256 * e) := by
    have : 256 * (y ^^^ e) = 256 * y ^^^ 256 * e := by
      rw [show (256 : Nat) = 2 ^ 8 from rfl]
      apply Nat.eq_of_testBit_eq
      intro i
      simp only [Nat.testBit_xor, Nat.testBit_two_pow_mul]
      cases decide (i ≥ 8) <;> simp
    rw [this]
    apply Nat.eq_of_testBit_eq
    intro i
    simp only [Nat.testBit_xor]
    cases r.testBit i <;> cases x.testBit i <;> cases d.testBit i <;> cases (256 * y).testBit i <;> cases (256 * e).testBit i <;> rfl
  have hw : r ^^^ (x ^^^ 256 * y) < 65536 := Nat.xor_lt_two_pow (n := 16) hr (Nat.xor_lt_two_pow (n := 16) (by omega) (by omega))
  have hde' : d ^^^ 256 * e < 65536 := Nat.xor_lt_two_pow (n := 16) (by omega) (by omega)
  rw [e1, sn_xor 16 (r ^^^ (x ^^^ 256 * y)) (d ^^^ 256 * e), on_xor] at h
  have hz : on (sn 16 (d ^^^ 256 * e)) (List.replicate q.length 0) = 0 := by
    exact xor_same h
  have h0 := sn_zero 16 hde' (on_zeros_zero _ (sn_lt 16 hde') hz)
  rw [word d e hd] at h0
  omega

theorem apart_key (K : Nat) (hK : 3000 ≤ K) (l : List Int) (at_ b0 b1 : Int) (hB : B l) (hlen : l.length ≤ 1000) (hb0 : 0 ≤ b0 ∧ b0 ≤ 255) (hb1 : 0 ≤ b1 ∧ b1 ≤ 255) (h2 : ¬ at_ < 0) (h3 : ¬ at_ > (l.length : Int) - 2) (hne : b0 ≠ 0 ∨ b1 ≠ 0) :
    portreevelaw01_FcsApart.j0 K l at_ true false b0 b1 = some true := by
  obtain ⟨i, rfl⟩ : ∃ n : Nat, at_ = n := ⟨at_.toNat, by omega⟩
  obtain ⟨d, rfl⟩ : ∃ n : Nat, b0 = n := ⟨b0.toNat, by omega⟩
  obtain ⟨e, rfl⟩ : ∃ n : Nat, b1 = n := ⟨b1.toNat, by omega⟩
  have hi : i < l.length := by omega
  have hi1 : i + 1 < l.length := by omega
  obtain ⟨x, hx⟩ : ∃ n : Nat, l[i] = n := ⟨l[i].toNat, by have := hB _ (List.getElem_mem hi); omega⟩
  obtain ⟨y, hy⟩ : ∃ n : Nat, l[i + 1] = n := ⟨l[i + 1].toNat, by have := hB _ (List.getElem_mem hi1); omega⟩
  have hx' : x < 256 := by have := hB _ (List.getElem_mem hi); omega
  have hy' : y < 256 := by have := hB _ (List.getElem_mem hi1); omega
  obtain ⟨m, q, hm, hmq⟩ : ∃ m q, m.length = i ∧ l = m ++ (x : Int) :: (y : Int) :: q := by
    refine ⟨l.take i, l.drop (i + 2), by rw [List.length_take]; omega, ?_⟩
    conv => lhs; rw [← List.take_append_drop i l]
    rw [List.drop_eq_getElem_cons hi, List.drop_eq_getElem_cons hi1, hx, hy]
  have hBm : B m := fun c hc => hB c (by rw [hmq]; simp [hc])
  have hBq : B q := fun c hc => hB c (by rw [hmq]; simp [hc])
  have hxd : x ^^^ d < 256 := Nat.xor_lt_two_pow (n := 8) hx' (by omega)
  have hye : y ^^^ e < 256 := Nat.xor_lt_two_pow (n := 8) hy' (by omega)
  have r0 : rd l (i : Int) = (x : Int) := by rw [rd_lt l i hi, hx]
  have set1 : l.set i ((x ^^^ d : Nat) : Int) = m ++ ((x ^^^ d : Nat) : Int) :: (y : Int) :: q := by
    rw [hmq, List.set_append_right _ _ (by omega), hm, Nat.sub_self]
    rfl
  have r1 : rd (l.set i ((x ^^^ d : Nat) : Int)) ((i + 1 : Nat) : Int) = (y : Int) := by
    rw [rd_lt _ (i + 1) (by simpa using hi1), List.getElem_set_ne (by omega), hy]
  have set2 : (l.set i ((x ^^^ d : Nat) : Int)).set (i + 1) ((y ^^^ e : Nat) : Int) = m ++ ((x ^^^ d : Nat) : Int) :: ((y ^^^ e : Nat) : Int) :: q := by
    rw [set1, List.set_append_right _ _ (by omega), hm, show i + 1 - i = 1 by omega]
    rfl
  have hB2 : B (m ++ ((x ^^^ d : Nat) : Int) :: ((y ^^^ e : Nat) : Int) :: q) := B_append hBm (fun c hc => by
    simp only [List.mem_cons] at hc
    rcases hc with rfl | rfl | hc
    · omega
    · omega
    · exact hBq c hc)
  have hl2 : (m ++ ((x ^^^ d : Nat) : Int) :: ((y ^^^ e : Nat) : Int) :: q).length = l.length := by
    rw [hmq]
    simp
  obtain ⟨k, rfl⟩ : ∃ m, K = m + 1 := ⟨K - 1, by omega⟩
  rw [portreevelaw01_FcsApart.j0, if_neg (by decide), Option.bind_some, if_pos (by simp; omega), Option.bind_some, List.nil_append, if_pos (by omega), if_pos (by omega), Option.bind_some, Int.toNat_natCast, r0, xor8 x d hx' (by omega), w64 (by omega) (by omega), if_pos (by omega), if_pos (by omega), put_own _ l hB (by omega) (by omega), Option.bind_some]
  rw [show ((i : Int) + 1) = ((i + 1 : Nat) : Int) by omega, r1, xor8 y e hy' (by omega), Int.toNat_natCast, set2, put_own _ _ hB2 (by omega) (by omega), Option.bind_some, if_pos rfl, put_length, put_length, hl2, if_pos rfl, if_pos (by omega), if_pos (by omega), if_pos (by omega), Int.toNat_natCast]
  have hd1 : (put l).drop l.length = tail (on 65535 (toN l)) := by
    unfold put
    simp
  have hd2 : (put (m ++ ((x ^^^ d : Nat) : Int) :: ((y ^^^ e : Nat) : Int) :: q)).drop l.length = tail (on 65535 (toN (m ++ ((x ^^^ d : Nat) : Int) :: ((y ^^^ e : Nat) : Int) :: q))) := by
    unfold put
    rw [List.drop_append_of_le_length (by omega), List.drop_eq_nil_of_le (by omega), List.nil_append]
  rw [hd1, hd2, row _ _ _ (by simp [tail]) (by simp [tail]; omega), Option.bind_some]
  have hne2 : on 65535 (toN l) ≠ on 65535 (toN (m ++ ((x ^^^ d : Nat) : Int) :: ((y ^^^ e : Nat) : Int) :: q)) := by
    rw [hmq]
    have := reg_apart (toN m) (toN q) 65535 x y d e (by omega) (by omega) (by omega) hx' hy' (toN_lt hBq) (toN_lt hBm) (by omega)
    simpa [toN] using this
  have h16a := reg_lt hB
  have h16b := reg_lt hB2
  generalize on 65535 (toN l) = ra at hne2 h16a
  generalize on 65535 (toN (m ++ ((x ^^^ d : Nat) : Int) :: ((y ^^^ e : Nat) : Int) :: q)) = rb at hne2 h16b
  have : tail ra ≠ tail rb := by
    unfold tail
    rw [compl h16a, compl h16b]
    intro h
    simp only [List.cons.injEq, and_true] at h
    omega
  simp [this]

theorem FcsApart : portreevelaw01_FcsApart.Pure := by
  intro l at_ b0 b1 hl hat hb0 hb1
  refine ⟨4000, ?_⟩
  have hB := B_of hl.2
  rw [wf_u8] at hb0 hb1
  rw [wf_i64] at hat
  have htrue : ∀ k, 100 ≤ k → portreevelaw01_FcsApart.j0 k l at_ true true b0 b1 = some true := by
    intro k hk
    obtain ⟨k, rfl⟩ : ∃ m, k = m + 1 := ⟨k - 1, by omega⟩
    simp only [portreevelaw01_FcsApart.j0, if_true]
  unfold portreevelaw01_FcsApart.f
  rw [shown_true _ (by omega), Option.bind_some]
  by_cases h1 : (l.length : Int) > 1000
  · rw [if_pos h1]
    exact htrue _ (by omega)
  rw [if_neg h1]
  by_cases h2 : at_ < 0
  · rw [if_pos h2]
    exact htrue _ (by omega)
  rw [if_neg h2, w64 (by omega) (by omega)]
  by_cases h3 : at_ > (l.length : Int) - 2
  · rw [if_pos h3]
    exact htrue _ (by omega)
  rw [if_neg h3]
  have key : (b0 ≠ 0 ∨ b1 ≠ 0) → portreevelaw01_FcsApart.j0 4000 l at_ true false b0 b1 = some true := fun hne => apart_key 4000 (by omega) l at_ b0 b1 hB (by omega) hb0 hb1 h2 h3 hne
  by_cases h4 : b0 = 0 ∧ b1 = 0
  · rw [show (b0 == 0 && b1 == 0) = true by simp [h4.1, h4.2]]
    exact htrue _ (by omega)
  · rw [show (b0 == 0 && b1 == 0) = false by simpa using h4]
    exact key (by omega)
end Go.Proofs.Ytfnmlhcpolfjaaa.Pure
