/- What is fed and taken, over plain rows. -/
import Derived.Test.YtangahcilefelaaQx13
import Derived.Test.YtangahcilefelaaQx14
import Derived.Test.YtangahcilefelaaPureKit
import Derived.Test.YtangahcilefelaaCrc
import Derived.Test.YtangahcilefelaaBase2
namespace Go.Proofs.Ytangahcilefelaa.Pure
set_option linter.unusedVariables false
open Go Go.RowKit Go.Proofs.Ytangahcilefelaa.Q Go.Proofs.YtangahcilefelaaK Go.Proofs.YtangahcilefelaaCrc Go.Proofs.YtangahcilefelaaW.PrintWords Go.Proofs.YtangahcilefelaaW.PrintLast Go.Proofs.YtangahcilefelaaW.PrintMore

def Pl : Bool → List Int → Option (List Int)
  | tr, [] => if tr = true then none else some []
  | tr, c :: t => if c = 126 then none else if c = 125 ∧ tr = false then Pl true t else (Pl false t).map ((if tr = true then x32 c else c) :: ·)
theorem Pl_cons (tr : Bool) (c : Int) (t : List Int) : Pl tr (c :: t) = if c = 126 then none else if c = 125 ∧ tr = false then Pl true t else (Pl false t).map ((if tr = true then x32 c else c) :: ·) := rfl
def pres (out : List Int) (o : Option (List Int)) : List Int × Int := match o with | some p => (out ++ p, 0) | none => ([], 2)
theorem pres_map (out : List Int) (c : Int) (o : Option (List Int)) : pres out (o.map (c :: ·)) = pres (out ++ [c]) o := by
  cases o with
  | none => rfl
  | some p => simp [pres]
def tn (tr : Bool) : Int := if tr = true then 32 else 0
theorem Pl_length : ∀ (tr : Bool) (l p : List Int), Pl tr l = some p → p.length ≤ l.length
  | tr, [], p, h => by
    unfold Pl at h
    split at h
    · cases h
    · obtain rfl := Option.some.inj h; simp
  | tr, c :: t, p, h => by
    rw [Pl_cons] at h
    split at h
    · cases h
    · split at h
      · have := Pl_length true t p h; simp only [List.length_cons]; omega
      · obtain ⟨q, hq, rfl⟩ := Option.map_eq_some_iff.1 h
        have := Pl_length false t q hq
        simp only [List.length_cons]; omega
theorem plain_l0 (l : List Int) (hB : B l) (hl : l.length ≤ 1000000) : ∀ (d k i : Nat) (out : List Int) (tr : Bool), i + d = l.length → out.length + d ≤ 1000000 → d < k → stuff_Plain.l0 k out (tn tr) l (l.length : Int) i = some (pres out (Pl tr (l.drop i)))
  | 0, k, i, out, tr, hd, ho, hk => by
    obtain ⟨k, rfl⟩ : ∃ m, k = m + 1 := ⟨k - 1, by omega⟩
    rw [stuff_Plain.l0, if_neg (by omega), List.drop_eq_nil_of_le (by omega)]
    cases tr with
    | true => rw [if_neg (by decide)]; rfl
    | false => rw [if_pos (by decide)]; show some (out, 0) = some (out ++ [], 0); rw [List.append_nil]
  | d + 1, k, i, out, tr, hd, ho, hk => by
    obtain ⟨k, rfl⟩ : ∃ m, k = m + 1 := ⟨k - 1, by omega⟩
    have hi : i < l.length := by omega
    have hb := rdB hB i hi
    rw [stuff_Plain.l0, if_pos (by omega), if_pos (by omega), if_pos (by omega), rd_lt l i hi, w64 (by omega) (by omega), show ((i : Int) + 1) = ((i + 1 : Nat) : Int) by omega, List.drop_eq_getElem_cons hi, Pl_cons]
    by_cases h1 : l[i] = 126
    · rw [if_pos h1, if_pos h1]; rfl
    have push : stuff_Plain.l0 k (out ++ [Go.bits .xor .u8 l[i] (tn tr)]) 0 l (l.length : Int) ((i + 1 : Nat) : Int) = some (pres out ((Pl false (l.drop (i + 1))).map ((if tr = true then x32 l[i] else l[i]) :: ·))) := by
      have ih := plain_l0 l hB hl d k (i + 1) (out ++ [Go.bits .xor .u8 l[i] (tn tr)]) false (by omega) (by simp only [List.length_append, List.length_cons, List.length_nil]; omega) (by omega)
      rw [show (0 : Int) = tn false from rfl, ih, pres_map]
      cases tr with
      | true => rfl
      | false => rw [show tn false = 0 from rfl, xor0 hb]; rfl
    by_cases h2 : l[i] = 125
    · rw [if_neg h1, if_pos h2, if_neg h1]
      cases tr with
      | false =>
        rw [if_pos (show tn false = 0 from rfl), if_pos ⟨h2, rfl⟩]
        exact plain_l0 l hB hl d k (i + 1) out true (by omega) (by omega) (by omega)
      | true =>
        rw [if_neg (show ¬ tn true = 0 by decide), if_neg (show ¬ (l[i] = 125 ∧ true = false) by simp), if_pos (show out.length < 140737488355328 by omega)]
        exact push
    · rw [if_neg h1, if_neg h2, if_neg h1, if_neg (show ¬ (l[i] = 125 ∧ tr = false) from fun h => h2 h.1), if_pos (show out.length < 140737488355328 by omega)]
      exact push
theorem plain_own (k : Nat) (l : List Int) (hB : B l) (hl : l.length ≤ 1000000) (hk : l.length < k) : stuff_Plain.f k l = some (pres [] (Pl false l)) := by
  unfold stuff_Plain.f
  exact plain_l0 l hB hl l.length k 0 [] false (by omega) (by simp only [List.length_nil]; omega) hk
theorem pres_nil (o : Option (List Int)) : pres [] o = match o with | some p => (p, 0) | none => ([], 2) := by cases o <;> rfl
def fd (l : List Int) (long : Bool) (c : Int) : List Int × Bool × List Int × Bool :=
  if c = 126 then (match Pl false l with | some p => if long = true ∨ l.length = 0 then ([], false, [], false) else ([], false, p, true) | none => ([], false, [], false))
  else if long = true ∨ 1508 ≤ l.length then ([], true, [], false) else (l ++ [c], false, [], false)
theorem feed_j1 (k : Nat) (c : Int) (b : Bool) (l : List Int) (long : Bool) (hl : l.length ≤ 1000000) : stuff_Feed.j1 (k + 1) c b l long = some (if b = true then ([], true, [], false) else (l ++ [c], false, [], false)) := by
  rw [stuff_Feed.j1]
  cases b with
  | true => rfl
  | false => rw [if_neg (by simp), show slices_Clip_byte_byte.own l = some l from rfl, Option.bind_some, if_pos (by omega)]; rfl
theorem feed_own (k : Nat) (l : List Int) (long : Bool) (c : Int) (hB : B l) (hl : l.length ≤ 1000000) (hk : l.length + 2 ≤ k) : stuff_Feed.f k l long c = some (fd l long c) := by
  obtain ⟨k, rfl⟩ : ∃ m, k = m + 1 := ⟨k - 1, by omega⟩
  unfold stuff_Feed.f fd
  by_cases hc : c = 126
  · rw [if_pos hc, if_pos hc, plain_own (k + 1) l hB hl (by omega), Option.bind_some, pres_nil]
    have hj : ∀ (x : List Int) (b : Bool), stuff_Feed.j0 (k + 1) x b = some (if b = true then ([], false, [], false) else ([], false, x, true)) := by
      intro x b; rw [stuff_Feed.j0]; cases b <;> rfl
    simp only [hj]
    by_cases h1 : long = true
    · rw [if_pos h1]; cases Pl false l <;> simp [h1]
    · by_cases h2 : l.length = 0
      · rw [if_neg h1, if_pos (by omega)]; cases Pl false l <;> simp [h2]
      · rw [if_neg h1, if_neg (by omega)]; cases Pl false l <;> simp [h1, h2]
  · rw [if_neg hc, if_neg hc, feed_j1 k c _ l long hl, feed_j1 k c _ l long hl]
    by_cases h1 : long = true
    · rw [if_pos h1, if_pos h1, if_pos (.inl h1)]
    · rw [if_neg h1]
      by_cases h2 : 1508 ≤ l.length
      · rw [if_pos (decide_eq_true (by omega)), if_pos (.inr h2)]
      · rw [if_neg (by rw [decide_eq_true_eq]; omega), if_neg (fun h => h.elim h1 h2)]
theorem fd_length (l : List Int) (long : Bool) (c : Int) (hl : l.length ≤ 1508) : (fd l long c).1.length ≤ 1508 ∧ (fd l long c).2.2.1.length ≤ l.length := by
  unfold fd
  split
  · cases h : Pl false l with
    | none => simp
    | some p =>
      have := Pl_length false l p h
      dsimp only
      split
      · simp
      · simp only [List.length_nil]; omega
  · split
    · simp
    · simp only [List.length_append, List.length_cons, List.length_nil]; omega
theorem fd_B {l : List Int} {long : Bool} {c : Int} (hB : B l) (hc : 0 ≤ c ∧ c ≤ 255) : B (fd l long c).1 := by
  have hn : B [] := by intro x hx; simp at hx
  unfold fd
  split
  · cases h : Pl false l with
    | none => exact hn
    | some p => dsimp only; split <;> exact hn
  · split
    · exact hn
    · exact B_append hB (by intro x hx; simp only [List.mem_cons, List.not_mem_nil, or_false] at hx; rw [hx]; exact hc)
theorem fd_none (l : List Int) (long : Bool) (c : Int) (h : (fd l long c).2.2.2 = false) : (fd l long c).2.2.1 = [] := by
  unfold fd at *
  split
  · next hc =>
    rw [if_pos hc] at h
    split
    · next p hp =>
      rw [hp] at h
      split
      · rfl
      · next hn => simp only [if_neg hn] at h; exact absurd h (by simp)
    · rfl
  · split <;> rfl
theorem Pl_B : ∀ (tr : Bool) (l p : List Int), B l → Pl tr l = some p → B p
  | tr, [], p, _, h => by
    unfold Pl at h
    split at h <;> simp at h
    subst h
    exact fun _ hc => by cases hc
  | tr, c :: t, p, hB, h => by
    have hc := hB c (by simp)
    have ht : B t := fun x hx => hB x (by simp [hx])
    rw [Pl_cons] at h
    split at h
    · simp at h
    · split at h
      · exact Pl_B true t p ht h
      · obtain ⟨q, h1, h2⟩ := Option.map_eq_some_iff.1 h
        subst h2
        have := Pl_B false t q ht h1
        intro x hx
        rcases List.mem_cons.1 hx with rfl | hx
        · split
          · exact (x32_facts hc).1
          · exact hc
        · exact this x hx
theorem fd_got {l : List Int} (long : Bool) (c : Int) (hB : B l) : B (fd l long c).2.2.1 ∧ (fd l long c).2.2.1.length ≤ l.length := by
  have hn : B ([] : List Int) := fun _ hc => by cases hc
  have hp : B (pres [] (Pl false l)).1 ∧ (pres [] (Pl false l)).1.length ≤ l.length := by
    rw [pres_nil]
    cases h : Pl false l with
    | none => exact ⟨hn, by simp⟩
    | some p => exact ⟨Pl_B false l p hB h, Pl_length false l p h⟩
  unfold fd
  repeat' split
  all_goals first | exact ⟨hn, by simp⟩ | exact hp | exact ⟨Pl_B false l _ hB (by assumption), Pl_length false l _ (by assumption)⟩
end Go.Proofs.Ytangahcilefelaa.Pure
