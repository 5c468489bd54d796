/- What the document feeds and takes, over plain rows. -/
import Derived.Test.YtangahcilefelaaQx13
import Derived.Test.YtangahcilefelaaQx15
import Derived.Test.YtangahcilefelaaQx16
import Derived.Test.YtangahcilefelaaQx17
import Derived.Test.YtangahcilefelaaQx18
import Derived.Test.YtangahcilefelaaPureKit
import Derived.Test.YtangahcilefelaaCrc
import Derived.Test.YtangahcilefelaaBase3
import Derived.Test.YtangahcilefelaaFcsRef
namespace Go.Proofs.Ytangahcilefelaa.Pure
set_option linter.unusedVariables false
open Go Go.RowKit Go.Proofs.Ytangahcilefelaa.Q Go.Proofs.YtangahcilefelaaK Go.Proofs.YtangahcilefelaaCrc Go.Proofs.YtangahcilefelaaW.PrintWords Go.Proofs.YtangahcilefelaaW.PrintLast Go.Proofs.YtangahcilefelaaW.PrintMore

theorem rplain_l0 (l : List Int) (hB : B l) (hl : l.length ≤ 1000000) : ∀ (d k i : Nat) (out : List Int), i + d = l.length → out.length + d ≤ 1000000 → 2 * d + 5 ≤ k → portreeveref07_Plain.l0 k l out i = some (pres out (Pl false (l.drop i)))
  | 0, k, i, out, hd, ho, hk => by
    obtain ⟨k, rfl⟩ : ∃ m, k = m + 1 := ⟨k - 1, by omega⟩
    rw [portreeveref07_Plain.l0, if_neg (by omega), List.drop_eq_nil_of_le (by omega)]
    show some (out, 0) = some (out ++ [], 0)
    rw [List.append_nil]
  | d + 1, k, i, out, hd, ho, hk => by
    obtain ⟨k, rfl⟩ : ∃ m, k = m + 2 := ⟨k - 2, by omega⟩
    have hi : i < l.length := by omega
    have hb := rdB hB i hi
    rw [portreeveref07_Plain.l0, if_pos (by omega), if_pos (by omega), rd_lt l i hi, w64 (a := (i : Int) + 1) (by omega) (by omega), show ((i : Int) + 1) = ((i + 1 : Nat) : Int) by omega, List.drop_eq_getElem_cons hi, Pl_cons]
    by_cases h1 : l[i] = 125
    · rw [if_pos h1, if_neg (show ¬ l[i] = 126 by omega), if_pos (show l[i] = 125 ∧ false = false from ⟨h1, rfl⟩)]
      by_cases h2 : i + 1 = l.length
      · rw [if_pos (by omega), portreeveref07_Plain.j1, if_pos rfl, List.drop_eq_nil_of_le (by omega)]; rfl
      · have hi1 : i + 1 < l.length := by omega
        have hb1 := rdB hB (i + 1) hi1
        rw [if_neg (by omega), if_pos (by omega), if_pos (by omega), rd_lt l (i + 1) hi1, portreeveref07_Plain.j1, List.drop_eq_getElem_cons hi1, Pl_cons]
        by_cases h3 : l[i + 1] = 126
        · rw [if_pos (beq_iff_eq.2 h3), if_pos h3]; rfl
        · rw [if_neg (by simpa using h3), if_neg h3, if_neg (show ¬ (l[i + 1] = 125 ∧ true = false) by simp), w64 (a := (i : Int) + 1) (by omega) (by omega), show ((i : Int) + 1) = ((i + 1 : Nat) : Int) by omega, if_pos (by omega), if_pos (by omega), if_pos (by omega), rd_lt l (i + 1) hi1, w64 (by omega) (by omega), show (((i + 1 : Nat) : Int) + 1) = ((i + 1 + 1 : Nat) : Int) by omega]
          obtain ⟨d, rfl⟩ : ∃ m, d = m + 1 := ⟨d - 1, by omega⟩
          rw [rplain_l0 l hB hl d k (i + 1 + 1) _ (by omega) (by simp only [List.length_append, List.length_cons, List.length_nil]; omega) (by omega), pres_map]
          rfl
    · rw [if_neg h1]
      by_cases h2 : l[i] = 126
      · rw [if_pos h2, if_pos h2]; rfl
      · rw [if_neg h2, if_neg h2, if_neg (show ¬ (l[i] = 125 ∧ false = false) from fun h => h1 h.1), if_pos (show out.length < 140737488355328 by omega), rplain_l0 l hB hl d (k + 1) (i + 1) _ (by omega) (by simp only [List.length_append, List.length_cons, List.length_nil]; omega) (by omega), pres_map]
        rfl
theorem rplain (k : Nat) (l : List Int) (hB : B l) (hl : l.length ≤ 1000000) (hk : 2 * l.length + 5 ≤ k) : portreeveref07_Plain.f k l = some (pres [] (Pl false l)) := by
  unfold portreeveref07_Plain.f
  have := rplain_l0 l hB hl l.length k 0 [] (by omega) (by simp only [List.length_nil]; omega) hk
  simpa using this
theorem rfeed (k : Nat) (l : List Int) (long : Bool) (c : Int) (hB : B l) (hl : l.length ≤ 1508) (hk : 2 * l.length + 6 ≤ k) : portreeveref07_Feed.f k l long c = some (fd l long c) := by
  obtain ⟨k, rfl⟩ : ∃ m, k = m + 1 := ⟨k - 1, by omega⟩
  unfold portreeveref07_Feed.f fd
  by_cases hc : c = 126
  · rw [if_pos hc, if_pos hc, rplain (k + 1) l hB (by omega) (by omega), Option.bind_some, pres_nil]
    have hj : ∀ (x : List Int) (b : Bool), portreeveref07_Feed.j1 (k + 1) x b = some (if b = true then ([], false, [], false) else ([], false, x, true)) := by
      intro x b; rw [portreeveref07_Feed.j1]; cases b <;> rfl
    simp only [hj]
    by_cases h1 : long = true
    · rw [if_pos h1]; cases Pl false l <;> simp [h1]
    · by_cases h2 : l.length = 0
      · rw [if_neg h1, if_pos (by omega)]; cases Pl false l <;> simp [h2]
      · rw [if_neg h1, if_neg (by omega)]; cases Pl false l <;> simp [h1, h2]
  · have hj : ∀ b : Bool, portreeveref07_Feed.j0 (k + 1) c b l long = some (if b = true then ([], true, [], false) else (l ++ [c], false, [], false)) := by
      intro b
      rw [portreeveref07_Feed.j0]
      cases b with
      | true => rfl
      | false => rw [if_neg (by simp), Option.bind_some, if_pos (by simp only [List.length_nil]; omega), List.nil_append, Option.bind_some, if_pos (by omega)]; rfl
    rw [if_neg hc, if_neg hc, hj, hj]
    by_cases h1 : long = true
    · rw [if_pos h1, if_pos rfl, if_pos (.inl h1)]
    · rw [if_neg h1]
      by_cases h2 : 1508 ≤ l.length
      · rw [if_pos (by simp only [beq_iff_eq]; omega), if_pos (.inr h2)]
      · rw [if_neg (by simp only [beq_iff_eq]; omega), if_neg (fun h => h.elim h1 h2)]
theorem right_l0 (l : List Int) (long : Bool) (hl : l.length ≤ 1000000) : ∀ (d k i : Nat), i + d = l.length → d < k → portreeveref07_Right.l0 k i l long = some (decide (126 ∉ l.drop i))
  | 0, k, i, hd, hk => by
    obtain ⟨k, rfl⟩ : ∃ m, k = m + 1 := ⟨k - 1, by omega⟩
    rw [portreeveref07_Right.l0, if_neg (by omega), List.drop_eq_nil_of_le (by omega)]
    simp
  | d + 1, k, i, hd, hk => by
    obtain ⟨k, rfl⟩ : ∃ m, k = m + 1 := ⟨k - 1, by omega⟩
    have hi : i < l.length := by omega
    rw [portreeveref07_Right.l0, if_pos (by omega), if_pos (by omega), rd_lt l i hi, List.drop_eq_getElem_cons hi]
    by_cases h : l[i] = 126
    · rw [if_pos h, h]; simp
    · rw [if_neg h, w64 (by omega) (by omega), show ((i : Int) + 1) = ((i + 1 : Nat) : Int) by omega, right_l0 l long hl d k (i + 1) (by omega) (by omega)]
      congr 1
      rw [decide_eq_decide, List.mem_cons, not_or]
      exact ⟨fun h2 => ⟨fun he => h he.symm, h2⟩, fun h2 => h2.2⟩
theorem right_own (k : Nat) (l : List Int) (long : Bool) (hl : l.length ≤ 140737488351232) (hk : 1520 ≤ k) : portreeveref07_Right.f k l long = some (decide (l.length ≤ 1508 ∧ (long = true → l.length = 0) ∧ 126 ∉ l)) := by
  obtain ⟨k, rfl⟩ : ∃ m, k = m + 1 := ⟨k - 1, by omega⟩
  unfold portreeveref07_Right.f
  by_cases h1 : l.length ≤ 1508
  · have hj : ∀ b : Bool, portreeveref07_Right.j0 (k + 1) b l long = some (!b && decide (126 ∉ l)) := by
      intro b
      rw [portreeveref07_Right.j0]
      cases b with
      | true => rfl
      | false =>
        have := right_l0 l long (by omega) l.length k 0 (by omega) (by omega)
        rw [if_neg (by simp)]
        simpa using this
    rw [if_neg (by omega), hj, hj]
    cases long with
    | true =>
      rw [if_pos rfl]
      by_cases h2 : l.length = 0
      · simp [h2]
      · rw [show decide ((l.length : Int) > 0) = true from decide_eq_true (by omega), eq_comm]
        congr 1
        exact decide_eq_false (fun h => h2 (h.2.1 rfl))
    | false => rw [if_neg (by simp)]; simp [h1]
  · rw [if_pos (by omega), portreeveref07_Right.j0, if_pos rfl, eq_comm]
    congr 1
    exact decide_eq_false (fun h => h1 h.1)
theorem rsame (k : Nat) (l : List Int) (a : Bool) (m : List Int) (b : Bool) (hl : l.length ≤ 1000000) (hk : l.length < k) : portreeveref07_Same.f k l a m b = some (decide (l = m ∧ a = b)) := by
  unfold portreeveref07_Same.f
  rw [row k l m (by omega) hk, Option.bind_some]
  by_cases h : l = m
  · rw [if_pos (decide_eq_true h)]; cases a <;> cases b <;> simp [h]
  · rw [if_neg (by simpa using h)]; simp [h]
theorem rproto_own {p : Int} (h : 0 ≤ p ∧ p ≤ 65535) : portreeveref08_Proto.f p = some (ok p) := by
  unfold portreeveref08_Proto.f ok
  rw [Int.tdiv_eq_ediv_of_nonneg h.1, Int.tmod_eq_emod_of_nonneg h.1, wr_u16 (p / 256) (by omega) (by omega), Int.tmod_eq_emod_of_nonneg (a := p / 256) (by omega)]
  by_cases h1 : p % 2 = 1
  · rw [if_pos h1]
    by_cases h2 : p / 256 % 2 = 0
    · rw [if_pos h2]
      by_cases h3 : p = 255 <;> simp [h1, h2, h3]
    · rw [if_neg h2]
      simp [h2]
  · rw [if_neg h1]
    simp [h1]
theorem rtell (k : Nat) (p : Int) (l : List Int) (h : 0 ≤ p ∧ p ≤ 65535) (hk : 1 ≤ k) : portreeveref08_Read.j2 k p l = some (tell p l) := by
  obtain ⟨k, rfl⟩ : ∃ m, k = m + 1 := ⟨k - 1, by omega⟩
  rw [portreeveref08_Read.j2, rproto_own h, Option.bind_some]
  unfold tell
  by_cases h1 : ok p = true
  · rw [if_pos h1, if_pos h1]
    by_cases h2 : l.length ≤ 1500
    · rw [if_neg (by omega), if_pos h2]
    · rw [if_pos (by omega), if_neg h2]
  · rw [if_neg h1, if_neg h1]
theorem rbody (k : Nat) (t : List Int) (hB : B t) (hk : 2 ≤ k) : portreeveref08_Read.j1 k t = some (body t) := by
  obtain ⟨k, rfl⟩ : ∃ m, k = m + 1 := ⟨k - 1, by omega⟩
  match t, hB with
  | [], _ =>
    rw [portreeveref08_Read.j1, if_pos (by simp)]
    rfl
  | c :: u, hB =>
    have hc := hB c (by simp)
    have hcl : (c :: u).length = u.length + 1 := rfl
    rw [portreeveref08_Read.j1, if_neg (by omega), if_pos (by omega), if_pos (by omega), show rd (c :: u) 0 = c from rfl, wr_u16 c hc.1 (by omega), Int.tmod_eq_emod_of_nonneg hc.1]
    by_cases h1 : c % 2 = 1
    · rw [if_neg (by omega), body_odd _ h1, rtell _ _ _ (by omega) (by omega)]
      rfl
    · rw [if_pos (by omega)]
      match u, hB, hcl with
      | [], _, _ =>
        rw [if_pos (by simp), body_one h1]
      | d :: u, hB, hcl =>
        have hd := hB d (by simp)
        have hcd : (c :: d :: u).length = u.length + 2 := rfl
        rw [if_neg (by omega), if_pos (by omega), if_pos (by omega), show rd (c :: d :: u) 1 = d from rfl, wr_u16 d hd.1 (by omega), wr_u16 (c * 256) (by omega) (by omega), wr_u16 (c * 256 + d) (by omega) (by omega), rtell _ _ _ (by omega) (by omega), body_two _ _ h1]
        rfl
theorem rread (k : Nat) (l : List Int) (hB : B l) (hl : l.length ≤ 1000000) (hk : l.length + 20 ≤ k) :
    portreeveref08_Read.f k l = some (if l.length < 2 then (0, [], 2) else if on 65535 (toN l) = 61624 then body (trim (l.take (l.length - 2))) else (0, [], 3)) := by
  unfold portreeveref08_Read.f
  rw [rcut k l hB (by omega) (by omega), Option.bind_some]
  by_cases h1 : l.length < 2
  · rw [if_pos h1, if_pos h1, if_neg (by decide)]
  · rw [if_neg h1, if_neg h1]
    by_cases h2 : on 65535 (toN l) = 61624
    · rw [if_pos h2, if_pos h2, if_pos rfl]
      have hB2 : B (l.take (l.length - 2)) := B_take _ hB
      generalize l.take (l.length - 2) = t at hB2
      obtain ⟨k, rfl⟩ : ∃ m, k = m + 1 := ⟨k - 1, by omega⟩
      match t, hB2 with
      | [], hB2 =>
        rw [if_neg (by decide), portreeveref08_Read.j0, if_neg (by decide)]
        exact rbody k [] hB2 (by omega)
      | [c], hB2 =>
        rw [if_neg (by simp), portreeveref08_Read.j0, if_neg (by decide), rbody k _ hB2 (by omega)]
        unfold trim
        rw [if_neg (by simp)]
      | c :: d :: u, hB2 =>
        have hcd : (c :: d :: u).length = u.length + 2 := rfl
        show (if ((c :: d :: u).length : Int) ≥ 2 then (if 0 < ((c :: d :: u).length : Int) then (if (rd (c :: d :: u) 0) = 255 then (if 1 < ((c :: d :: u).length : Int) then (portreeveref08_Read.j0 (k + 1) (c :: d :: u) ((rd (c :: d :: u) 1) == 3)) else (none)) else (portreeveref08_Read.j0 (k + 1) (c :: d :: u) false)) else (none)) else (portreeveref08_Read.j0 (k + 1) (c :: d :: u) false)) = _
        rw [if_pos (by omega), if_pos (by omega), show rd (c :: d :: u) 0 = c from rfl]
        by_cases h3 : c = 255
        · rw [if_pos h3, if_pos (by omega), show rd (c :: d :: u) 1 = d from rfl, portreeveref08_Read.j0]
          by_cases h4 : d = 3
          · rw [if_pos (by simp [h4]), if_pos (by omega), rbody k _ (B_drop 2 hB2) (by omega)]
            unfold trim
            rw [if_pos (by rw [h3, h4]; rfl)]
          · rw [if_neg (by simp [h4]), rbody k _ hB2 (by omega)]
            unfold trim
            rw [if_neg (fun q => h4 (by injection q with q1 q2; injection q2))]
        · rw [if_neg h3, portreeveref08_Read.j0, if_neg (by decide), rbody k _ hB2 (by omega)]
          unfold trim
          rw [if_neg (fun q => h3 (by injection q))]
    · rw [if_neg h2, if_neg h2, if_neg (by decide)]
end Go.Proofs.Ytangahcilefelaa.Pure
