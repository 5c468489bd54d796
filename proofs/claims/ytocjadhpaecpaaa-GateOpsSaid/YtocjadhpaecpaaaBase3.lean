/- What a failure does to a book, over plain rows. -/
import Derived.Test.YtocjadhpaecpaaaQx0
import Derived.Test.YtocjadhpaecpaaaQx6
import Derived.Test.YtocjadhpaecpaaaQx16
import Derived.Test.YtocjadhpaecpaaaQx19
import Derived.Test.YtocjadhpaecpaaaQx23
import Derived.Test.YtocjadhpaecpaaaQx24
import Derived.Test.YtocjadhpaecpaaaQx28
import Derived.Test.YtocjadhpaecpaaaPureKit
import Derived.Test.YtocjadhpaecpaaaBase2
namespace Go.Proofs.Ytocjadhpaecpaaa.Pure
set_option linter.unusedVariables false
open Go Go.RowKit Go.Proofs.Ytocjadhpaecpaaa.Q Go.Proofs.YtocjadhpaecpaaaK Go.Proofs.YtocjadhpaecpaaaW.PrintWords Go.Proofs.YtocjadhpaecpaaaW.PrintLast Go.Proofs.YtocjadhpaecpaaaW.PrintMore

/-- Where a user first stands. -/
def ix (u : ByteArray) : List S64 → Option Nat
  | [] => none
  | x :: t => if x.f0.toList = u.toList then some 0 else (ix u t).map (· + 1)
def oi (i : Nat) (o : Option Nat) : Int := match o with | none => -1 | some n => ((i + n : Nat) : Int)
theorem ix_lt (u : ByteArray) : ∀ (L : List S64) (n : Nat), ix u L = some n → ∃ h : n < L.length, L[n].f0.toList = u.toList
  | [], n, h => by simp [ix] at h
  | x :: t, n, h => by
    unfold ix at h
    split at h
    · next hx => obtain rfl := Option.some.inj h; exact ⟨by simp, hx⟩
    · rcases hm : ix u t with _ | m
      · rw [hm] at h; simp at h
      · rw [hm] at h
        obtain rfl : m + 1 = n := by simpa using h
        obtain ⟨h1, h2⟩ := ix_lt u t m hm
        exact ⟨by simp only [List.length_cons]; omega, h2⟩
theorem failed4_ix (u : ByteArray) (a : Int) (O : List S76) (W : List S72) (L : List S64) (hL : L.length ≤ 1000) : ∀ (d k i : Nat), i + d = L.length → d < k → portreeveref04_Failed.l0 k u (i : Int) a O W L = some (oi i (ix u (L.drop i)))
  | 0, k, i, hd, hk => by
    obtain ⟨k, rfl⟩ : ∃ m, k = m + 1 := ⟨k - 1, by omega⟩
    rw [portreeveref04_Failed.l0, if_neg (by omega), List.drop_eq_nil_of_le (by omega)]
    rfl
  | d + 1, k, i, hd, hk => by
    obtain ⟨k, rfl⟩ : ∃ m, k = m + 1 := ⟨k - 1, by omega⟩
    have hi : i < L.length := by omega
    rw [portreeveref04_Failed.l0, if_pos (by omega), if_pos (by omega), F_lt L i hi, List.drop_eq_getElem_cons hi, ix]
    by_cases h : L[i].f0.toList = u.toList
    · rw [if_pos h, if_pos h]
      rfl
    · rw [if_neg h, if_neg h, w64 (by omega) (by omega), show ((i : Int) + 1) = ((i + 1 : Nat) : Int) by omega, failed4_ix u a O W L hL d k (i + 1) (by omega) (by omega)]
      congr 1
      rcases ix u (L.drop (i + 1)) with _ | n
      · rfl
      · show (((i + 1 + n : Nat)) : Int) = ((i + (n + 1) : Nat) : Int)
        omega
theorem failed4_own (k : Nat) (u : ByteArray) (a : Int) (O : List S76) (W : List S72) (L : List S64) (hL : L.length ≤ 1000) (hk : 1002 ≤ k) : portreeveref04_Failed.f k a O W L u = some (oi 0 (ix u L)) := by
  have := failed4_ix u a O W L hL L.length k 0 (by omega) (by omega)
  unfold portreeveref04_Failed.f
  simpa using this

/-- A failure, or none any more. -/
def ap (L : List S64) (kd : Int) (u : ByteArray) (t : Int) : List S64 × Int :=
  match ix u L with
  | none => if kd = 5 then (L, 5) else if L.length = 8 then (L, 4) else (L ++ [⟨u, 1, t⟩], 0)
  | some n => if kd = 5 then (L.take n ++ L.drop (n + 1), 0) else if (rd_T64 L (n : Int)).f2 > t then (L, 7) else (L.set n ⟨u, min 255 ((rd_T64 L (n : Int)).f1 + 1), t⟩, 0)
theorem mn_own (a b : Int) : mn a b = min a b := by
  unfold mn
  split <;> omega
theorem apply_own (k : Nat) (a : Int) (O : List S76) (W : List S72) {L : List S64} (kd : Int) (u : ByteArray) (t : Int) (hL : L.length ≤ 1000) (hLL : LL L) (hd : kd = 4 ∨ kd = 5) (h0 : 1 ≤ u.size) (h1 : u.size ≤ 16) (t0 : 0 ≤ t) (t1 : t ≤ 1000000000) (hk : 1010 ≤ k) :
    portreeveref04_Apply.f k a O W L kd 0 0 0 u 0 0 0 t = some (a, O, W, (ap L kd u t).1, (ap L kd u t).2) := by
  obtain ⟨k, rfl⟩ : ∃ m, k = m + 2 := ⟨k - 2, by omega⟩
  have hm : portreeveref04_May.f (k + 2) kd 0 0 0 u 0 0 0 t = some true := by
    unfold portreeveref04_May.f
    rw [name_own, Option.bind_some, if_neg (by omega), if_neg (by omega), if_neg (by omega), if_neg (by omega), if_neg (by omega), decide_eq_true h0, decide_eq_true h1, portreeveref04_May.j0, if_neg (by decide), if_pos (by decide), if_pos t0, if_pos t1, if_pos (by decide)]
    rfl
  have hf : portreeveref04_failed.f k a O W L kd 0 0 0 u 0 0 0 t = some (a, O, W, (ap L kd u t).1, (ap L kd u t).2) := by
    unfold portreeveref04_failed.f ap
    rw [failed4_own k u a O W L hL (by omega), Option.bind_some, Option.bind_some, if_pos (by simp only [List.length_nil]; omega), Option.bind_some]
    rcases hx : ix u L with _ | n
    · by_cases h5 : kd = 5
      · rw [if_pos h5, if_pos (by decide)]
        simp only [if_pos h5]
      · rw [if_neg h5, if_pos (by decide)]
        simp only [if_neg h5]
        by_cases h8 : L.length = 8
        · rw [if_pos (by omega), if_pos h8]
        · rw [if_neg (by omega), if_neg h8, if_pos (by simp only [List.nil_append]; omega), List.nil_append]
    · obtain ⟨hn, _⟩ := ix_lt u L n hx
      have hoi : oi 0 (some n) = (n : Int) := by show ((0 + n : Nat) : Int) = _; omega
      rw [hoi]
      have hr := hLL L[n] (List.getElem_mem hn)
      by_cases h5 : kd = 5
      · rw [if_pos h5, if_neg (by omega), Option.bind_some, if_pos (by omega), if_pos (by omega), Option.bind_some, if_pos (by simp only [List.length_nil, Int.toNat_natCast, List.length_take]; omega), Option.bind_some, w64 (by omega) (by omega), if_pos (by omega), if_pos (by omega), Option.bind_some, if_pos (by simp only [List.length_append, List.length_nil, Int.toNat_natCast, List.length_take, List.length_drop]; omega)]
        simp only [if_pos h5, List.nil_append, Int.toNat_natCast]
        rw [show ((n : Int) + 1).toNat = n + 1 by omega]
      · rw [if_neg h5, if_neg (by omega), if_pos (by omega), if_pos (by omega)]
        simp only [if_neg h5]
        by_cases h7 : (rd_T64 L (n : Int)).f2 > t
        · rw [if_pos h7, if_pos h7]
        · rw [if_neg h7, if_neg h7, if_pos (by simp only [List.nil_append]; omega), List.nil_append, Int.toNat_natCast, mn_own, w64 (by rw [F_lt L n hn]; omega) (by rw [F_lt L n hn]; omega)]
  unfold portreeveref04_Apply.f
  rw [hm, Option.bind_some, if_pos rfl, if_neg (by omega), if_neg (by omega), show (kd == 3) = false from beq_eq_false_iff_ne.2 (by omega), portreeveref04_Apply.j0, if_neg (by decide)]
  rcases hd with rfl | rfl
  · rw [if_pos rfl, portreeveref04_Apply.j1, if_pos (by decide), hf, Option.bind_some]
  · rw [if_neg (by decide), portreeveref04_Apply.j1, if_pos (by decide), hf, Option.bind_some]

theorem split_at (L : List S64) (n : Nat) (h : n < L.length) : L = L.take n ++ L[n] :: L.drop (n + 1) := by
  rw [← List.drop_eq_getElem_cons h, List.take_append_drop]
theorem ap_other (L : List S64) (kd : Int) (u v : ByteArray) (t : Int) (h : u.toList ≠ v.toList) : (ap L kd u t).1.filter (gate_Failed.hit v) = L.filter (gate_Failed.hit v) := by
  have hu : ∀ (x : S64), x.f0.toList = u.toList → gate_Failed.hit v x = false := fun x hx => by
    unfold gate_Failed.hit
    rw [hx]
    exact beq_eq_false_iff_ne.2 h
  unfold ap
  rcases hx : ix u L with _ | n
  · simp only []
    split
    · rfl
    · split
      · rfl
      · show (L ++ [(⟨u, 1, t⟩ : S64)]).filter _ = _
        rw [List.filter_append, List.filter_cons_of_neg (by rw [hu _ rfl]; simp), List.filter_nil, List.append_nil]
  · obtain ⟨hn, hm⟩ := ix_lt u L n hx
    have hs := split_at L n hn
    have hf : L.filter (gate_Failed.hit v) = (L.take n).filter (gate_Failed.hit v) ++ (L.drop (n + 1)).filter (gate_Failed.hit v) := by
      conv => lhs; rw [hs]
      rw [List.filter_append, List.filter_cons_of_neg (by rw [hu _ hm]; simp)]
    simp only []
    split
    · show (L.take n ++ L.drop (n + 1)).filter _ = _
      rw [List.filter_append, hf]
    · split
      · rfl
      · show (L.set n _).filter _ = _
        rw [List.set_eq_take_append_cons_drop, if_pos hn, List.filter_append, List.filter_cons_of_neg (by rw [hu _ rfl]; simp), hf]
theorem ap_LL {L : List S64} (h : LL L) (kd : Int) (u : ByteArray) (t : Int) (t0 : 0 ≤ t) (t1 : t ≤ 1000000000) : LL (ap L kd u t).1 ∧ (ap L kd u t).1.length ≤ L.length + 1 := by
  unfold ap
  rcases hx : ix u L with _ | n
  · simp only []
    split
    · exact ⟨h, by simp only; omega⟩
    · split
      · exact ⟨h, by simp only; omega⟩
      · refine ⟨fun x hx => ?_, by simp only [List.length_append, List.length_singleton]; omega⟩
        simp only [List.mem_append, List.mem_singleton] at hx
        rcases hx with hx | rfl
        · exact h x hx
        · exact ⟨⟨show (1 : Int) ≤ 1 by omega, show (1 : Int) ≤ 255 by omega⟩, t0, t1⟩
  · obtain ⟨hn, hm⟩ := ix_lt u L n hx
    simp only []
    split
    · refine ⟨fun x hx => ?_, by simp only [List.length_append, List.length_take, List.length_drop]; omega⟩
      simp only [List.mem_append] at hx
      rcases hx with hx | hx
      · exact h x (List.mem_of_mem_take hx)
      · exact h x (List.mem_of_mem_drop hx)
    · split
      · exact ⟨h, by simp only; omega⟩
      · refine ⟨fun x hx => ?_, by simp only [List.length_set]; omega⟩
        rcases List.mem_or_eq_of_mem_set hx with hx | rfl
        · exact h x hx
        · have := h L[n] (List.getElem_mem hn)
          show (1 ≤ min 255 ((rd_T64 L (n : Int)).f1 + 1) ∧ min 255 ((rd_T64 L (n : Int)).f1 + 1) ≤ 255) ∧ 0 ≤ t ∧ t ≤ 1000000000
          rw [F_lt L n hn]
          omega
theorem ops_own (k : Nat) (l : List S41) (hl : l.length ≤ 1) (hk : 3 ≤ k) : portreeveref16_Ops.f k l l = some true := by
  obtain ⟨k, rfl⟩ : ∃ m, k = m + 2 := ⟨k - 2, by omega⟩
  unfold portreeveref16_Ops.f
  rw [if_pos rfl, portreeveref16_Ops.l0]
  rcases l with _ | ⟨x, _ | ⟨y, r⟩⟩
  · rw [if_neg (by simp)]
  · rw [if_pos (by simp), if_pos (by omega), if_pos (by simp), if_neg (by simp), w64 (by omega) (by omega), portreeveref16_Ops.l0, if_neg (by simp)]
  · simp at hl
theorem VD_same {L L' : List S64} (u : ByteArray) (known good : Bool) (now : Int) (h : FL L' u = FL L u) : VD L' u known good now = VD L u known good now := by
  unfold VD UL
  rw [h]
theorem VD_ops (L : List S64) (u : ByteArray) (known good : Bool) (now : Int) : (VD L u known good now).2 = [] ∨ ∃ kd t, (kd = 4 ∨ kd = 5) ∧ (t = 0 ∨ t = max now (FL L u).2) ∧ (VD L u known good now).2 = [⟨kd, 0, 0, 0, u, 0, 0, 0, t⟩] := by
  unfold VD
  split
  · exact Or.inl rfl
  · split
    · split
      · exact Or.inl rfl
      · exact Or.inr ⟨5, 0, Or.inr rfl, Or.inl rfl, rfl⟩
    · exact Or.inr ⟨4, _, Or.inl rfl, Or.inr rfl, rfl⟩
end Go.Proofs.Ytocjadhpaecpaaa.Pure
