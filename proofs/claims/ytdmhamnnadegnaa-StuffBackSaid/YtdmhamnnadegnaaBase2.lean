/- What the functions of lines and frames compute, over plain numbers and rows. -/
import Derived.Test.YtdmhamnnadegnaaQx0
import Derived.Test.YtdmhamnnadegnaaQx1
import Derived.Test.YtdmhamnnadegnaaQx4
import Derived.Test.YtdmhamnnadegnaaQx5
import Derived.Test.YtdmhamnnadegnaaQx6
import Derived.Test.YtdmhamnnadegnaaQx7
import Derived.Test.YtdmhamnnadegnaaQx8
import Derived.Test.YtdmhamnnadegnaaQx9
import Derived.Test.YtdmhamnnadegnaaPureKit
import Derived.Test.YtdmhamnnadegnaaBase
import Derived.Lib.Bytes
namespace Go.Proofs.Ytdmhamnnadegnaa.Pure
set_option linter.unusedVariables false
open Go Go.RowKit Go.Proofs.Ytdmhamnnadegnaa.Q Go.Proofs.YtdmhamnnadegnaaK Go.Proofs.YtdmhamnnadegnaaW.PrintWords Go.Proofs.YtdmhamnnadegnaaW.PrintLast Go.Proofs.YtdmhamnnadegnaaW.PrintMore

theorem bytes_inj : ∀ {l m : List Int}, B l → B m → (l.map fun n => UInt8.ofNat n.toNat) = (m.map fun n => UInt8.ofNat n.toNat) → l = m
  | [], [], _, _, _ => rfl
  | [], _ :: _, _, _, h => by simp at h
  | _ :: _, [], _, _, h => by simp at h
  | a :: l, b :: m, hl, hm, h => by
    simp only [List.map_cons, List.cons.injEq] at h
    have ha := hl a (by simp)
    have hb := hm b (by simp)
    have h1 := congrArg UInt8.toNat h.1
    simp only [UInt8.toNat_ofNat'] at h1
    rw [Nat.mod_eq_of_lt (by omega), Nat.mod_eq_of_lt (by omega)] at h1
    rw [bytes_inj (fun c hc => hl c (List.mem_cons_of_mem _ hc)) (fun c hc => hm c (List.mem_cons_of_mem _ hc)) h.2, show a = b by omega]

theorem equal_own (l m : List Int) (hl : B l) (hm : B m) : bytes_Equal.f l m = some (decide (l = m)) := by
  unfold bytes_Equal.f
  congr 1
  rw [Lib.strOfNums_toList, Lib.strOfNums_toList, Bool.eq_iff_iff]
  simp only [beq_iff_eq, decide_eq_true_eq]
  exact ⟨fun h => bytes_inj hl hm h, fun h => by rw [h]⟩

/-! plain again -/
def Pl : Bool → List Int → Option (List Int)
  | tr, [] => if tr = true then none else some []
  | tr, c :: t => if c = 126 then none else if c = 125 ∧ tr = false then Pl true t else (Pl false t).map ((if tr = true then x32 c else c) :: ·)
theorem Pl_cons (tr : Bool) (c : Int) (t : List Int) : Pl tr (c :: t) = if c = 126 then none else if c = 125 ∧ tr = false then Pl true t else (Pl false t).map ((if tr = true then x32 c else c) :: ·) := rfl
def pres (out : List Int) (o : Option (List Int)) : List Int × Int := match o with | some p => (out ++ p, 0) | none => ([], 2)
theorem pres_map (out : List Int) (c : Int) (o : Option (List Int)) : pres out (o.map (c :: ·)) = pres (out ++ [c]) o := by
  cases o with
  | none => rfl
  | some p => simp [pres]
def tn (tr : Bool) : Int := if tr = true then 32 else 0
theorem Pl_length : ∀ (tr : Bool) (l p : List Int), Pl tr l = some p → p.length ≤ l.length
  | tr, [], p, h => by
    unfold Pl at h
    split at h
    · cases h
    · obtain rfl := Option.some.inj h; simp
  | tr, c :: t, p, h => by
    rw [Pl_cons] at h
    split at h
    · cases h
    · split at h
      · have := Pl_length true t p h; simp only [List.length_cons]; omega
      · obtain ⟨q, hq, rfl⟩ := Option.map_eq_some_iff.1 h
        have := Pl_length false t q hq
        simp only [List.length_cons]; omega

theorem plain_l0 (l : List Int) (hB : B l) (hl : l.length ≤ 1000000) : ∀ (d k i : Nat) (out : List Int) (tr : Bool), i + d = l.length → out.length + d ≤ 1000000 → d < k → stuff_Plain.l0 k out (tn tr) l (l.length : Int) i = some (pres out (Pl tr (l.drop i)))
  | 0, k, i, out, tr, hd, ho, hk => by
    obtain ⟨k, rfl⟩ : ∃ m, k = m + 1 := ⟨k - 1, by omega⟩
    rw [stuff_Plain.l0, if_neg (by omega), List.drop_eq_nil_of_le (by omega)]
    cases tr with
    | true => rw [if_neg (by decide)]; rfl
    | false => rw [if_pos (by decide)]; show some (out, 0) = some (out ++ [], 0); rw [List.append_nil]
  | d + 1, k, i, out, tr, hd, ho, hk => by
    obtain ⟨k, rfl⟩ : ∃ m, k = m + 1 := ⟨k - 1, by omega⟩
    have hi : i < l.length := by omega
    have hb := rdB hB i hi
    rw [stuff_Plain.l0, if_pos (by omega), if_pos (by omega), if_pos (by omega), rd_lt l i hi, w64 (by omega) (by omega), show ((i : Int) + 1) = ((i + 1 : Nat) : Int) by omega, List.drop_eq_getElem_cons hi, Pl_cons]
    by_cases h1 : l[i] = 126
    · rw [if_pos h1, if_pos h1]; rfl
    have push : stuff_Plain.l0 k (out ++ [Go.bits .xor .u8 l[i] (tn tr)]) 0 l (l.length : Int) ((i + 1 : Nat) : Int) = some (pres out ((Pl false (l.drop (i + 1))).map ((if tr = true then x32 l[i] else l[i]) :: ·))) := by
      have ih := plain_l0 l hB hl d k (i + 1) (out ++ [Go.bits .xor .u8 l[i] (tn tr)]) false (by omega) (by simp only [List.length_append, List.length_cons, List.length_nil]; omega) (by omega)
      rw [show (0 : Int) = tn false from rfl, ih, pres_map]
      cases tr with
      | true => rfl
      | false => rw [show tn false = 0 from rfl, xor0 hb]; rfl
    by_cases h2 : l[i] = 125
    · rw [if_neg h1, if_pos h2, if_neg h1]
      cases tr with
      | false =>
        rw [if_pos (show tn false = 0 from rfl), if_pos ⟨h2, rfl⟩]
        exact plain_l0 l hB hl d k (i + 1) out true (by omega) (by omega) (by omega)
      | true =>
        rw [if_neg (show ¬ tn true = 0 by decide), if_neg (show ¬ (l[i] = 125 ∧ true = false) by simp), if_pos (show out.length < 140737488355328 by omega)]
        exact push
    · rw [if_neg h1, if_neg h2, if_neg h1, if_neg (show ¬ (l[i] = 125 ∧ tr = false) from fun h => h2 h.1), if_pos (show out.length < 140737488355328 by omega)]
      exact push

theorem plain_own (k : Nat) (l : List Int) (hB : B l) (hl : l.length ≤ 1000000) (hk : l.length < k) : stuff_Plain.f k l = some (pres [] (Pl false l)) := by
  unfold stuff_Plain.f
  exact plain_l0 l hB hl l.length k 0 [] false (by omega) (by simp only [List.length_nil]; omega) hk

theorem rplain_l0 (l : List Int) (hB : B l) (hl : l.length ≤ 1000000) : ∀ (d k i : Nat) (out : List Int), i + d = l.length → out.length + d ≤ 1000000 → 2 * d + 5 ≤ k → portreeveref07_Plain.l0 k l out i = some (pres out (Pl false (l.drop i)))
  | 0, k, i, out, hd, ho, hk => by
    obtain ⟨k, rfl⟩ : ∃ m, k = m + 1 := ⟨k - 1, by omega⟩
    rw [portreeveref07_Plain.l0, if_neg (by omega), List.drop_eq_nil_of_le (by omega)]
    show some (out, 0) = some (out ++ [], 0)
    rw [List.append_nil]
  | d + 1, k, i, out, hd, ho, hk => by
    obtain ⟨k, rfl⟩ : ∃ m, k = m + 2 := ⟨k - 2, by omega⟩
    have hi : i < l.length := by omega
    have hb := rdB hB i hi
    rw [portreeveref07_Plain.l0, if_pos (by omega), if_pos (by omega), rd_lt l i hi, w64 (a := (i : Int) + 1) (by omega) (by omega), show ((i : Int) + 1) = ((i + 1 : Nat) : Int) by omega, List.drop_eq_getElem_cons hi, Pl_cons]
    by_cases h1 : l[i] = 125
    · rw [if_pos h1, if_neg (show ¬ l[i] = 126 by omega), if_pos (show l[i] = 125 ∧ false = false from ⟨h1, rfl⟩)]
      by_cases h2 : i + 1 = l.length
      · rw [if_pos (by omega), portreeveref07_Plain.j1, if_pos rfl, List.drop_eq_nil_of_le (by omega)]; rfl
      · have hi1 : i + 1 < l.length := by omega
        have hb1 := rdB hB (i + 1) hi1
        rw [if_neg (by omega), if_pos (by omega), if_pos (by omega), rd_lt l (i + 1) hi1, portreeveref07_Plain.j1, List.drop_eq_getElem_cons hi1, Pl_cons]
        by_cases h3 : l[i + 1] = 126
        · rw [if_pos (beq_iff_eq.2 h3), if_pos h3]; rfl
        · rw [if_neg (by simpa using h3), if_neg h3, if_neg (show ¬ (l[i + 1] = 125 ∧ true = false) by simp), w64 (a := (i : Int) + 1) (by omega) (by omega), show ((i : Int) + 1) = ((i + 1 : Nat) : Int) by omega, if_pos (by omega), if_pos (by omega), if_pos (by omega), rd_lt l (i + 1) hi1, w64 (by omega) (by omega), show (((i + 1 : Nat) : Int) + 1) = ((i + 1 + 1 : Nat) : Int) by omega]
          obtain ⟨d, rfl⟩ : ∃ m, d = m + 1 := ⟨d - 1, by omega⟩
          rw [rplain_l0 l hB hl d k (i + 1 + 1) _ (by omega) (by simp only [List.length_append, List.length_cons, List.length_nil]; omega) (by omega), pres_map]
          rfl
    · rw [if_neg h1]
      by_cases h2 : l[i] = 126
      · rw [if_pos h2, if_pos h2]; rfl
      · rw [if_neg h2, if_neg h2, if_neg (show ¬ (l[i] = 125 ∧ false = false) from fun h => h1 h.1), if_pos (show out.length < 140737488355328 by omega), rplain_l0 l hB hl d (k + 1) (i + 1) _ (by omega) (by simp only [List.length_append, List.length_cons, List.length_nil]; omega) (by omega), pres_map]
        rfl

theorem rplain (k : Nat) (l : List Int) (hB : B l) (hl : l.length ≤ 1000000) (hk : 2 * l.length + 5 ≤ k) : portreeveref07_Plain.f k l = some (pres [] (Pl false l)) := by
  unfold portreeveref07_Plain.f
  have := rplain_l0 l hB hl l.length k 0 [] (by omega) (by simp only [List.length_nil]; omega) hk
  simpa using this

theorem pres_nil (o : Option (List Int)) : pres [] o = match o with | some p => (p, 0) | none => ([], 2) := by cases o <;> rfl

/-! a line with a byte more -/
def fd (l : List Int) (long : Bool) (c : Int) : List Int × Bool × List Int × Bool :=
  if c = 126 then (match Pl false l with | some p => if long = true ∨ l.length = 0 then ([], false, [], false) else ([], false, p, true) | none => ([], false, [], false))
  else if long = true ∨ 1508 ≤ l.length then ([], true, [], false) else (l ++ [c], false, [], false)

theorem feed_j1 (k : Nat) (c : Int) (b : Bool) (l : List Int) (long : Bool) (hl : l.length ≤ 1000000) : stuff_Feed.j1 (k + 1) c b l long = some (if b = true then ([], true, [], false) else (l ++ [c], false, [], false)) := by
  rw [stuff_Feed.j1]
  cases b with
  | true => rfl
  | false => rw [if_neg (by simp), show slices_Clip_byte_byte.own l = some l from rfl, Option.bind_some, if_pos (by omega)]; rfl

theorem feed_own (k : Nat) (l : List Int) (long : Bool) (c : Int) (hB : B l) (hl : l.length ≤ 1000000) (hk : l.length + 2 ≤ k) : stuff_Feed.f k l long c = some (fd l long c) := by
  obtain ⟨k, rfl⟩ : ∃ m, k = m + 1 := ⟨k - 1, by omega⟩
  unfold stuff_Feed.f fd
  by_cases hc : c = 126
  · rw [if_pos hc, if_pos hc, plain_own (k + 1) l hB hl (by omega), Option.bind_some, pres_nil]
    have hj : ∀ (x : List Int) (b : Bool), stuff_Feed.j0 (k + 1) x b = some (if b = true then ([], false, [], false) else ([], false, x, true)) := by
      intro x b; rw [stuff_Feed.j0]; cases b <;> rfl
    simp only [hj]
    by_cases h1 : long = true
    · rw [if_pos h1]; cases Pl false l <;> simp [h1]
    · by_cases h2 : l.length = 0
      · rw [if_neg h1, if_pos (by omega)]; cases Pl false l <;> simp [h2]
      · rw [if_neg h1, if_neg (by omega)]; cases Pl false l <;> simp [h1, h2]
  · rw [if_neg hc, if_neg hc, feed_j1 k c _ l long hl, feed_j1 k c _ l long hl]
    by_cases h1 : long = true
    · rw [if_pos h1, if_pos h1, if_pos (.inl h1)]
    · rw [if_neg h1]
      by_cases h2 : 1508 ≤ l.length
      · rw [if_pos (decide_eq_true (by omega)), if_pos (.inr h2)]
      · rw [if_neg (by rw [decide_eq_true_eq]; omega), if_neg (fun h => h.elim h1 h2)]

theorem rfeed (k : Nat) (l : List Int) (long : Bool) (c : Int) (hB : B l) (hl : l.length ≤ 1508) (hk : 2 * l.length + 6 ≤ k) : portreeveref07_Feed.f k l long c = some (fd l long c) := by
  obtain ⟨k, rfl⟩ : ∃ m, k = m + 1 := ⟨k - 1, by omega⟩
  unfold portreeveref07_Feed.f fd
  by_cases hc : c = 126
  · rw [if_pos hc, if_pos hc, rplain (k + 1) l hB (by omega) (by omega), Option.bind_some, pres_nil]
    have hj : ∀ (x : List Int) (b : Bool), portreeveref07_Feed.j1 (k + 1) x b = some (if b = true then ([], false, [], false) else ([], false, x, true)) := by
      intro x b; rw [portreeveref07_Feed.j1]; cases b <;> rfl
    simp only [hj]
    by_cases h1 : long = true
    · rw [if_pos h1]; cases Pl false l <;> simp [h1]
    · by_cases h2 : l.length = 0
      · rw [if_neg h1, if_pos (by omega)]; cases Pl false l <;> simp [h2]
      · rw [if_neg h1, if_neg (by omega)]; cases Pl false l <;> simp [h1, h2]
  · have hj : ∀ b : Bool, portreeveref07_Feed.j0 (k + 1) c b l long = some (if b = true then ([], true, [], false) else (l ++ [c], false, [], false)) := by
      intro b
      rw [portreeveref07_Feed.j0]
      cases b with
      | true => rfl
      | false => rw [if_neg (by simp), Option.bind_some, if_pos (by simp only [List.length_nil]; omega), List.nil_append, Option.bind_some, if_pos (by omega)]; rfl
    rw [if_neg hc, if_neg hc, hj, hj]
    by_cases h1 : long = true
    · rw [if_pos h1, if_pos rfl, if_pos (.inl h1)]
    · rw [if_neg h1]
      by_cases h2 : 1508 ≤ l.length
      · rw [if_pos (by simp only [beq_iff_eq]; omega), if_pos (.inr h2)]
      · rw [if_neg (by simp only [beq_iff_eq]; omega), if_neg (fun h => h.elim h1 h2)]

theorem fd_length (l : List Int) (long : Bool) (c : Int) (hl : l.length ≤ 1508) : (fd l long c).1.length ≤ 1508 ∧ (fd l long c).2.2.1.length ≤ l.length := by
  unfold fd
  split
  · cases h : Pl false l with
    | none => simp
    | some p =>
      have := Pl_length false l p h
      dsimp only
      split
      · simp
      · simp only [List.length_nil]; omega
  · split
    · simp
    · simp only [List.length_append, List.length_cons, List.length_nil]; omega

theorem fd_B {l : List Int} {long : Bool} {c : Int} (hB : B l) (hc : 0 ≤ c ∧ c ≤ 255) : B (fd l long c).1 := by
  have hn : B [] := by intro x hx; simp at hx
  unfold fd
  split
  · cases h : Pl false l with
    | none => exact hn
    | some p => dsimp only; split <;> exact hn
  · split
    · exact hn
    · exact B_append hB (by intro x hx; simp only [List.mem_cons, List.not_mem_nil, or_false] at hx; rw [hx]; exact hc)

/-! all frames -/
def Al : List Int → Bool → List Int → List (List Int)
  | _, _, [] => []
  | l, long, c :: t => (if (fd l long c).2.2.2 = true then [(fd l long c).2.2.1] else []) ++ Al (fd l long c).1 (fd l long c).2.1 t

theorem all_l0 (b : List Int) (hb : B b) (hbl : b.length ≤ 1000000) : ∀ (d k i : Nat) (out : List (List Int)) (l : List Int) (long : Bool), i + d = b.length → out.length + d ≤ 1000000 → B l → l.length ≤ 1508 → d + 1520 ≤ k → stuff_All.l0 k out b (b.length : Int) i l long = some (out ++ Al l long (b.drop i))
  | 0, k, i, out, l, long, hd, ho, hB, hl, hk => by
    obtain ⟨k, rfl⟩ : ∃ m, k = m + 1 := ⟨k - 1, by omega⟩
    rw [stuff_All.l0, if_neg (by omega), List.drop_eq_nil_of_le (by omega), Al, List.append_nil]
  | d + 1, k, i, out, l, long, hd, ho, hB, hl, hk => by
    obtain ⟨k, rfl⟩ : ∃ m, k = m + 1 := ⟨k - 1, by omega⟩
    have hi : i < b.length := by omega
    have hbi := rdB hb i hi
    have hlen := fd_length l long b[i] hl
    rw [stuff_All.l0, if_pos (by omega), if_pos (by omega), if_pos (by omega), rd_lt b i hi, feed_own k l long b[i] hB (by omega) (by omega), Option.bind_some, w64 (by omega) (by omega), show ((i : Int) + 1) = ((i + 1 : Nat) : Int) by omega, List.drop_eq_getElem_cons hi, Al]
    by_cases h : (fd l long b[i]).2.2.2 = true
    · rw [if_pos h, if_pos h, if_pos (by omega), all_l0 b hb hbl d k (i + 1) _ _ _ (by omega) (by simp only [List.length_append, List.length_cons, List.length_nil]; omega) (fd_B hB hbi) hlen.1 (by omega), List.append_assoc]
    · rw [if_neg h, if_neg h, all_l0 b hb hbl d k (i + 1) _ _ _ (by omega) (by omega) (fd_B hB hbi) hlen.1 (by omega), List.nil_append]

/-- The frames that stand between flags. -/
def Sg : List Int → List Int → List (List Int)
  | _, [] => []
  | seg, c :: t => if c = 126 then (match Pl false seg with | some p => if seg.length ≠ 0 ∧ seg.length ≤ 1508 then [p] else [] | none => []) ++ Sg [] t else Sg (seg ++ [c]) t

theorem Al_Sg : ∀ (t seg : List Int), Al (if seg.length ≤ 1508 then seg else []) (decide (1508 < seg.length)) t = Sg seg t
  | [], seg => rfl
  | c :: t, seg => by
    rw [Al, Sg]
    by_cases hc : c = 126
    · have h0 := Al_Sg t []
      rw [if_pos (by simp), show decide (1508 < ([] : List Int).length) = false from rfl] at h0
      rw [if_pos hc]
      by_cases hl : seg.length ≤ 1508
      · rw [if_pos hl, show decide (1508 < seg.length) = false from decide_eq_false (by omega)]
        unfold fd
        rw [if_pos hc]
        cases Pl false seg with
        | none => exact h0
        | some p =>
          by_cases hz : seg.length = 0
          · simp only [hz]; simpa using h0
          · simp only [hz, hl, Bool.false_eq_true, or_self, if_false, ne_eq, not_false_eq_true, and_self, if_true]
            rw [h0]
      · rw [if_neg hl, show decide (1508 < seg.length) = true from decide_eq_true (by omega)]
        unfold fd
        rw [if_pos hc]
        have hnil : Pl false [] = some [] := rfl
        rw [hnil]
        cases Pl false seg with
        | none => simpa using h0
        | some p => simp only [hl, and_false, if_false]; simpa using h0
    · rw [if_neg hc, ← Al_Sg t (seg ++ [c])]
      unfold fd
      rw [if_neg hc]
      by_cases hl : seg.length ≤ 1508
      · rw [if_pos hl, show decide (1508 < seg.length) = false from decide_eq_false (by omega)]
        have hlen : (seg ++ [c]).length = seg.length + 1 := by simp
        by_cases h8 : seg.length = 1508
        · rw [if_pos (show false = true ∨ 1508 ≤ seg.length from .inr (by omega)), if_neg (show ¬ (seg ++ [c]).length ≤ 1508 by omega), show decide (1508 < (seg ++ [c]).length) = true from decide_eq_true (by omega)]
          rfl
        · rw [if_neg (show ¬ (false = true ∨ 1508 ≤ seg.length) from fun h => h.elim (fun h => by simp at h) (by omega)), if_pos (show (seg ++ [c]).length ≤ 1508 by omega), show decide (1508 < (seg ++ [c]).length) = false from decide_eq_false (by omega)]
          rfl
      · have hlen : (seg ++ [c]).length = seg.length + 1 := by simp
        rw [if_neg hl, show decide (1508 < seg.length) = true from decide_eq_true (by omega), if_pos (show true = true ∨ 1508 ≤ ([] : List Int).length from .inl rfl), if_neg (show ¬ (seg ++ [c]).length ≤ 1508 by omega), show decide (1508 < (seg ++ [c]).length) = true from decide_eq_true (by omega)]
        rfl

theorem all_own (k : Nat) (b : List Int) (hb : B b) (hl : b.length ≤ 1000000) (hk : b.length + 1520 ≤ k) : stuff_All.f k b = some (Sg [] b) := by
  unfold stuff_All.f
  have := all_l0 b hb hl b.length k 0 [] [] false (by omega) (by simp only [List.length_nil]; omega) (by intro x hx; simp at hx) (by simp) hk
  have h0 := Al_Sg b []
  rw [if_pos (by simp), show decide (1508 < ([] : List Int).length) = false from rfl] at h0
  rw [List.drop_zero, List.nil_append, h0] at this
  exact this

theorem rall_l0 (b : List Int) (hb : B b) (hbl : b.length ≤ 1000000) : ∀ (d k i m : Nat) (out : List (List Int)), i + d = b.length → m ≤ i → out.length + d ≤ 1000000 → 2 * d + 2 * b.length + 20 ≤ k → portreeveref07_All.l0 k b out m i = some (out ++ Sg ((b.take i).drop m) (b.drop i))
  | 0, k, i, m, out, hd, hm, ho, hk => by
    obtain ⟨k, rfl⟩ : ∃ m, k = m + 1 := ⟨k - 1, by omega⟩
    rw [portreeveref07_All.l0, if_neg (by omega), List.drop_eq_nil_of_le (show b.length ≤ i by omega), Sg, List.append_nil]
  | d + 1, k, i, m, out, hd, hm, ho, hk => by
    obtain ⟨k, rfl⟩ : ∃ m, k = m + 2 := ⟨k - 2, by omega⟩
    have hi : i < b.length := by omega
    have hbi := rdB hb i hi
    rw [portreeveref07_All.l0, if_pos (by omega), if_pos (by omega), rd_lt b i hi, List.drop_eq_getElem_cons hi, Sg]
    by_cases hc : b[i] = 126
    · have hs : ((b.take i).drop m).length = i - m := by rw [List.length_drop, List.length_take]; omega
      have hj : ∀ (x : List Int) (y : Bool), portreeveref07_All.j1 (k + 1) b out i x y = some ((out ++ (if y = true then [x] else [])) ++ Sg [] (b.drop (i + 1))) := by
        intro x y
        rw [portreeveref07_All.j1, w64 (by omega) (by omega), show ((i : Int) + 1) = ((i + 1 : Nat) : Int) by omega]
        have hz : (b.take (i + 1)).drop (i + 1) = [] := List.drop_eq_nil_of_le (by rw [List.length_take]; omega)
        cases y with
        | true => rw [if_pos rfl, if_pos rfl, if_pos (by omega), rall_l0 b hb hbl d k (i + 1) (i + 1) _ (by omega) (by omega) (by simp only [List.length_append, List.length_cons, List.length_nil]; omega) (by omega), hz]
        | false => rw [if_neg (by simp), if_neg (by simp), rall_l0 b hb hbl d k (i + 1) (i + 1) _ (by omega) (by omega) (by omega) (by omega), hz, List.append_nil]
      rw [if_pos hc, if_pos hc, if_pos (by omega), if_pos (by omega), if_pos (by omega), Int.toNat_natCast, Int.toNat_natCast, rplain _ _ (B_drop _ (B_take _ hb)) (by omega) (by omega), Option.bind_some, w64 (a := (i : Int) - (m : Int)) (by omega) (by omega), pres_nil]
      simp only [hj]
      by_cases h1 : i = m
      · rw [if_neg (by omega)]
        cases Pl false ((b.take i).drop m) with
        | none => simp
        | some p => simp only [h1]; simp
      · rw [if_pos (by omega)]
        by_cases h2 : i - m ≤ 1508
        · rw [if_pos (by omega)]
          cases Pl false ((b.take i).drop m) with
          | none => simp
          | some p =>
            simp only [hs]
            rw [if_pos (show i - m ≠ 0 ∧ i - m ≤ 1508 from ⟨by omega, h2⟩), if_pos (show ((0 : Int) == 0) = true from rfl), List.append_assoc]
        · rw [if_neg (by omega)]
          cases Pl false ((b.take i).drop m) with
          | none => simp
          | some p =>
            simp only [hs]
            rw [if_neg (show ¬ (i - m ≠ 0 ∧ i - m ≤ 1508) from fun h => h2 h.2), if_neg (by simp), List.append_assoc]
    · rw [if_neg hc, if_neg hc, w64 (by omega) (by omega), show ((i : Int) + 1) = ((i + 1 : Nat) : Int) by omega, rall_l0 b hb hbl d (k + 1) (i + 1) m out (by omega) (by omega) (by omega) (by omega)]
      rw [List.take_succ_eq_append_getElem hi, List.drop_append_of_le_length (by rw [List.length_take]; omega)]

theorem rall (k : Nat) (b : List Int) (hb : B b) (hl : b.length ≤ 1000000) (hk : 4 * b.length + 20 ≤ k) : portreeveref07_All.f k b = some (Sg [] b) := by
  unfold portreeveref07_All.f
  have := rall_l0 b hb hl b.length k 0 0 [] (by omega) (by omega) (by simp only [List.length_nil]; omega) (by omega)
  rw [List.drop_zero, List.nil_append, List.take_zero, List.drop_zero] at this
  exact this

/-! rows of frames, lines -/
theorem rd2_lt (l : List (List Int)) (i : Nat) (h : i < l.length) : rd_L2 l i = l[i] := by
  unfold rd_L2
  rw [Int.toNat_natCast, List.getD_eq_getElem?_getD, List.getElem?_eq_getElem h]
  rfl

theorem frames_l0 (a b : List (List Int)) (n : Nat) (hn : n ≤ 1000000) (hlen : a.length = b.length) (hl : a.length ≤ 1000000) (ha : ∀ x ∈ a, x.length ≤ n) : ∀ (d k i : Nat), i + d = a.length → d + n + 2 ≤ k → portreeveref07_Frames.l0 k a b i = some (decide (a.drop i = b.drop i))
  | 0, k, i, hd, hk => by
    obtain ⟨k, rfl⟩ : ∃ m, k = m + 1 := ⟨k - 1, by omega⟩
    rw [portreeveref07_Frames.l0, if_neg (by omega), List.drop_eq_nil_of_le (by omega), List.drop_eq_nil_of_le (by omega)]
    simp
  | d + 1, k, i, hd, hk => by
    obtain ⟨k, rfl⟩ : ∃ m, k = m + 1 := ⟨k - 1, by omega⟩
    have hi : i < a.length := by omega
    have hi' : i < b.length := by omega
    have := ha _ (List.getElem_mem hi)
    rw [portreeveref07_Frames.l0, if_pos (by omega), if_pos (by omega), if_pos (by omega), rd2_lt a i hi, rd2_lt b i hi', row k _ _ (by omega) (by omega), Option.bind_some, List.drop_eq_getElem_cons hi, List.drop_eq_getElem_cons hi']
    by_cases h : a[i] = b[i]
    · rw [if_pos (decide_eq_true h), w64 (by omega) (by omega), show ((i : Int) + 1) = ((i + 1 : Nat) : Int) by omega, frames_l0 a b n hn hlen hl ha d k (i + 1) (by omega) (by omega)]
      simp only [List.cons.injEq, h, true_and]
    · rw [if_neg (by simpa using h)]
      simp only [List.cons.injEq, h, false_and, decide_false]

theorem frames (k : Nat) (a b : List (List Int)) (n : Nat) (hn : n ≤ 1000000) (hl : a.length ≤ 1000000) (ha : ∀ x ∈ a, x.length ≤ n) (hk : a.length + n + 2 ≤ k) : portreeveref07_Frames.f k a b = some (decide (a = b)) := by
  unfold portreeveref07_Frames.f
  by_cases h : a.length = b.length
  · rw [if_pos (by omega)]
    have := frames_l0 a b n hn h hl ha a.length k 0 (by omega) hk
    simpa using this
  · rw [if_neg (by omega)]
    congr 1
    rw [eq_comm, decide_eq_false_iff_not]
    rintro rfl
    exact h rfl

theorem Sg_bound : ∀ (t seg : List Int), (∀ x ∈ Sg seg t, x.length ≤ 1508) ∧ (Sg seg t).length ≤ t.length
  | [], seg => by simp [Sg]
  | c :: t, seg => by
    rw [Sg]
    split
    · obtain ⟨h1, h2⟩ := Sg_bound t []
      cases h : Pl false seg with
      | none => exact ⟨h1, by simp only [List.nil_append, List.length_cons]; omega⟩
      | some p =>
        have hp := Pl_length false seg p h
        dsimp only
        split
        · next hc =>
          refine ⟨fun x hx => ?_, by simp only [List.length_append, List.length_cons, List.length_nil]; omega⟩
          rcases List.mem_append.1 hx with hx | hx
          · simp only [List.mem_cons, List.not_mem_nil, or_false] at hx
            rw [hx]; omega
          · exact h1 x hx
        · exact ⟨h1, by simp only [List.nil_append, List.length_cons]; omega⟩
    · obtain ⟨h1, h2⟩ := Sg_bound t (seg ++ [c])
      exact ⟨h1, by simp only [List.length_cons]; omega⟩

theorem right_l0 (l : List Int) (long : Bool) (hl : l.length ≤ 1000000) : ∀ (d k i : Nat), i + d = l.length → d < k → portreeveref07_Right.l0 k i l long = some (decide (126 ∉ l.drop i))
  | 0, k, i, hd, hk => by
    obtain ⟨k, rfl⟩ : ∃ m, k = m + 1 := ⟨k - 1, by omega⟩
    rw [portreeveref07_Right.l0, if_neg (by omega), List.drop_eq_nil_of_le (by omega)]
    simp
  | d + 1, k, i, hd, hk => by
    obtain ⟨k, rfl⟩ : ∃ m, k = m + 1 := ⟨k - 1, by omega⟩
    have hi : i < l.length := by omega
    rw [portreeveref07_Right.l0, if_pos (by omega), if_pos (by omega), rd_lt l i hi, List.drop_eq_getElem_cons hi]
    by_cases h : l[i] = 126
    · rw [if_pos h, h]; simp
    · rw [if_neg h, w64 (by omega) (by omega), show ((i : Int) + 1) = ((i + 1 : Nat) : Int) by omega, right_l0 l long hl d k (i + 1) (by omega) (by omega)]
      congr 1
      rw [decide_eq_decide, List.mem_cons, not_or]
      exact ⟨fun h2 => ⟨fun he => h he.symm, h2⟩, fun h2 => h2.2⟩

theorem right_own (k : Nat) (l : List Int) (long : Bool) (hl : l.length ≤ 140737488351232) (hk : 1520 ≤ k) : portreeveref07_Right.f k l long = some (decide (l.length ≤ 1508 ∧ (long = true → l.length = 0) ∧ 126 ∉ l)) := by
  obtain ⟨k, rfl⟩ : ∃ m, k = m + 1 := ⟨k - 1, by omega⟩
  unfold portreeveref07_Right.f
  by_cases h1 : l.length ≤ 1508
  · have hj : ∀ b : Bool, portreeveref07_Right.j0 (k + 1) b l long = some (!b && decide (126 ∉ l)) := by
      intro b
      rw [portreeveref07_Right.j0]
      cases b with
      | true => rfl
      | false =>
        have := right_l0 l long (by omega) l.length k 0 (by omega) (by omega)
        rw [if_neg (by simp)]
        simpa using this
    rw [if_neg (by omega), hj, hj]
    cases long with
    | true =>
      rw [if_pos rfl]
      by_cases h2 : l.length = 0
      · simp [h2]
      · rw [show decide ((l.length : Int) > 0) = true from decide_eq_true (by omega), eq_comm]
        congr 1
        exact decide_eq_false (fun h => h2 (h.2.1 rfl))
    | false => rw [if_neg (by simp)]; simp [h1]
  · rw [if_pos (by omega), portreeveref07_Right.j0, if_pos rfl, eq_comm]
    congr 1
    exact decide_eq_false (fun h => h1 h.1)

theorem stuff_same (l : List Int) (a : Bool) (m : List Int) (b : Bool) (hl : B l) (hm : B m) : stuff_Same.f l a m b = some (decide (l = m ∧ a = b)) := by
  unfold stuff_Same.f
  rw [equal_own l m hl hm, Option.bind_some]
  by_cases h : l = m
  · rw [if_pos (decide_eq_true h)]; cases a <;> cases b <;> simp [h]
  · rw [if_neg (by simpa using h)]; simp [h]

theorem rsame (k : Nat) (l : List Int) (a : Bool) (m : List Int) (b : Bool) (hl : l.length ≤ 1000000) (hk : l.length < k) : portreeveref07_Same.f k l a m b = some (decide (l = m ∧ a = b)) := by
  unfold portreeveref07_Same.f
  rw [row k l m (by omega) hk, Option.bind_some]
  by_cases h : l = m
  · rw [if_pos (decide_eq_true h)]; cases a <;> cases b <;> simp [h]
  · rw [if_neg (by simpa using h)]; simp [h]

/-! what is sent comes -/
theorem E_noflag (a : Int) : ∀ {l : List Int}, B l → 126 ∉ E a l
  | [], _ => by simp [E]
  | c :: t, h => by
    have hc := h c (by simp)
    have ht := E_noflag a (l := t) (fun x hx => h x (List.mem_cons_of_mem _ hx))
    rw [E_cons, List.mem_append, not_or]
    refine ⟨?_, ht⟩
    split
    · next he =>
      simp only [List.mem_cons, List.not_mem_nil, or_false, not_or]
      refine ⟨by omega, fun hx => ?_⟩
      unfold esc at he
      simp only [Bool.or_eq_true, beq_iff_eq, Bool.and_eq_true, decide_eq_true_eq] at he
      rcases he with (rfl | rfl) | ⟨h3, _⟩
      · rw [x32_126] at hx; omega
      · rw [x32_125] at hx; omega
      · have := (x32_facts hc).2.2 h3; omega
    · next he =>
      simp only [List.mem_cons, List.not_mem_nil, or_false]
      intro hx
      apply he
      unfold esc
      simp [← hx]

theorem Pl_E (a : Int) : ∀ {l : List Int}, B l → Pl false (E a l) = some l
  | [], _ => rfl
  | c :: t, h => by
    have hc := h c (by simp)
    have ht := Pl_E a (l := t) (fun x hx => h x (List.mem_cons_of_mem _ hx))
    rw [E_cons]
    by_cases he : esc a c = true
    · have hne : x32 c ≠ 126 := by
        intro hx
        have := E_noflag a h
        rw [E_cons, if_pos he] at this
        apply this
        simp [hx]
      rw [if_pos he]
      show Pl false (125 :: x32 c :: E a t) = _
      rw [Pl_cons, if_neg (by omega), if_pos ⟨rfl, rfl⟩, Pl_cons, if_neg hne, if_neg (by simp), ht, if_pos rfl, (x32_facts hc).2.1]
      rfl
    · rw [if_neg he]
      show Pl false (c :: E a t) = _
      have h1 : c ≠ 126 := by rintro rfl; exact he (by simp [esc])
      have h2 : c ≠ 125 := by rintro rfl; exact he (by simp [esc])
      rw [Pl_cons, if_neg h1, if_neg (fun h => h2 h.1), ht]
      rfl

theorem Sg_skip : ∀ (u seg t : List Int), 126 ∉ u → Sg seg (u ++ t) = Sg (seg ++ u) t
  | [], seg, t, _ => by simp
  | c :: u, seg, t, h => by
    rw [List.mem_cons, not_or] at h
    rw [List.cons_append, Sg, if_neg (fun hx => h.1 hx.symm), Sg_skip u (seg ++ [c]) t h.2, List.append_assoc]
    rfl

theorem Sg_flag (t : List Int) : Sg [] (126 :: t) = Sg [] t := by
  rw [Sg, if_pos rfl]
  rfl

theorem Sg_E (a : Int) {l : List Int} (hB : B l) (h0 : 1 ≤ l.length) (h1 : (E a l).length ≤ 1508) (t : List Int) : Sg [] (E a l ++ 126 :: t) = l :: Sg [] t := by
  have := E_length a l
  rw [Sg_skip _ _ _ (E_noflag a hB), List.nil_append, Sg, if_pos rfl, Pl_E a hB]
  dsimp only
  rw [if_pos ⟨by omega, h1⟩]
  rfl

theorem Sg_send (a : Int) {l : List Int} (hB : B l) (h0 : 1 ≤ l.length) (h1 : (E a l).length ≤ 1508) (t : List Int) : Sg [] (send a l ++ t) = l :: Sg [] t := by
  unfold send
  rw [List.append_assoc, List.append_assoc, List.cons_append, List.nil_append, Sg_flag]
  exact Sg_E a hB h0 h1 t

theorem Sg_behind : ∀ (u seg t : List Int), ∃ fs, Sg seg (u ++ 126 :: t) = fs ++ Sg [] t
  | [], seg, t => ⟨_, by rw [List.nil_append, Sg, if_pos rfl]⟩
  | c :: u, seg, t => by
    rw [List.cons_append, Sg]
    split
    · obtain ⟨fs, h⟩ := Sg_behind u [] t
      exact ⟨_, by rw [h, ← List.append_assoc]⟩
    · exact Sg_behind u (seg ++ [c]) t
end Go.Proofs.Ytdmhamnnadegnaa.Pure
