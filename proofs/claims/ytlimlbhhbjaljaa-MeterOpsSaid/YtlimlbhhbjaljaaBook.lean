/- What the document says of books, over plain rows: which are right, where a session stands, what an interim and a stop do. -/
import Derived.Test.YtlimlbhhbjaljaaQx0
import Derived.Test.YtlimlbhhbjaljaaQx12
import Derived.Test.YtlimlbhhbjaljaaQx13
import Derived.Test.YtlimlbhhbjaljaaQx14
import Derived.Test.YtlimlbhhbjaljaaQx15
import Derived.Test.YtlimlbhhbjaljaaQx16
import Derived.Test.YtlimlbhhbjaljaaQx17
import Derived.Test.YtlimlbhhbjaljaaPureKit
namespace Go.Proofs.Ytlimlbhhbjaljaa.Pure
set_option linter.unusedVariables false
open Go Go.RowKit Go.Proofs.Ytlimlbhhbjaljaa.Q Go.Proofs.YtlimlbhhbjaljaaK Go.Proofs.YtlimlbhhbjaljaaW.PrintWords Go.Proofs.YtlimlbhhbjaljaaW.PrintLast Go.Proofs.YtlimlbhhbjaljaaW.PrintMore

theorem name_own (u : ByteArray) : portreeveref04_name.f u = some (decide (1 ≤ u.size) && decide (u.size ≤ 16)) := by
  unfold portreeveref04_name.f
  by_cases h : (u.size : Int) ≥ 1
  · rw [if_pos h, decide_eq_true (show 1 ≤ u.size by omega), Bool.true_and]
    congr 1
    by_cases h1 : u.size ≤ 16
    · rw [decide_eq_true h1, decide_eq_true (by omega)]
    · rw [decide_eq_false h1, decide_eq_false (by omega)]
  · rw [if_neg h, decide_eq_false (show ¬ 1 ≤ u.size by omega), Bool.false_and]
theorem pool_own (a : Int) : ∃ b, portreeveref04_pool.f a = some b := by
  unfold portreeveref04_pool.f
  split <;> exact ⟨_, rfl⟩

theorem last_l0 (id a : Int) (O : List S51) (W : List S56) (L : List S68) (hW : W.length ≤ 1000) : ∀ (n k : Nat), n ≤ W.length → n < k → ∃ t, portreeveref04_last.l0 k id ((n : Int) - 1) a O W L = some t ∧ -1 ≤ t ∧ t < n
  | 0, k, hn, hk => by
    obtain ⟨k, rfl⟩ : ∃ m, k = m + 1 := ⟨k - 1, by omega⟩
    rw [portreeveref04_last.l0, if_neg (by omega)]
    exact ⟨_, rfl, by omega, by omega⟩
  | n + 1, k, hn, hk => by
    obtain ⟨k, rfl⟩ : ∃ m, k = m + 1 := ⟨k - 1, by omega⟩
    rw [show (((n + 1 : Nat) : Int) - 1) = (n : Int) by omega, portreeveref04_last.l0, if_pos (by omega), if_pos (by omega), if_pos (by omega)]
    split
    · exact ⟨_, rfl, by omega, by omega⟩
    · rw [w64 (by omega) (by omega)]
      obtain ⟨t, h1, h2, h3⟩ := last_l0 id a O W L hW n k (by omega) (by omega)
      exact ⟨t, h1, h2, by omega⟩
theorem last_own (k : Nat) (id a : Int) (O : List S51) (W : List S56) (L : List S68) (hW : W.length ≤ 1000) (n : Nat) (hn : n ≤ W.length) (hk : 1002 ≤ k) : ∃ t, portreeveref04_last.f k a O W L id (n : Int) = some t ∧ -1 ≤ t ∧ t < n := by
  unfold portreeveref04_last.f
  rw [w64 (by omega) (by omega)]
  exact last_l0 id a O W L hW n k hn (by omega)
theorem of_l0 (id a : Int) (O : List S51) (W : List S56) (L : List S68) (hO : O.length ≤ 1000) : ∀ (d k i : Nat), i + d = O.length → d < k → ∃ t, portreeveref04_Of.l0 k id (i : Int) a O W L = some t
  | 0, k, i, hd, hk => by
    obtain ⟨k, rfl⟩ : ∃ m, k = m + 1 := ⟨k - 1, by omega⟩
    rw [portreeveref04_Of.l0, if_neg (by omega)]
    exact ⟨_, rfl⟩
  | d + 1, k, i, hd, hk => by
    obtain ⟨k, rfl⟩ : ∃ m, k = m + 1 := ⟨k - 1, by omega⟩
    rw [portreeveref04_Of.l0, if_pos (by omega), if_pos (by omega)]
    split
    · exact ⟨_, rfl⟩
    · rw [w64 (by omega) (by omega), show ((i : Int) + 1) = ((i + 1 : Nat) : Int) by omega]
      exact of_l0 id a O W L hO d k (i + 1) (by omega) (by omega)
theorem of_own (k : Nat) (id a : Int) (O : List S51) (W : List S56) (L : List S68) (hO : O.length ≤ 1000) (hk : 1002 ≤ k) : ∃ t, portreeveref04_Of.f k a O W L id = some t := of_l0 id a O W L hO O.length k 0 (by omega) (by omega)

theorem line_own (k : Nat) (a : Int) (O : List S51) (W : List S56) (L : List S68) (hW : W.length ≤ 1000) (i : Nat) (hi : i < W.length) (hk : 1010 ≤ k) : ∃ b, portreeveref04_line.f k a O W L (i : Int) = some b := by
  obtain ⟨k, rfl⟩ : ∃ m, k = m + 2 := ⟨k - 2, by omega⟩
  obtain ⟨t, h1, h2, h3⟩ := last_own (k + 2) (rd_T56 W (i : Int)).f1 a O W L hW i (by omega) (by omega)
  have hj1 : ∀ b x0 x1 x2 x3 x4, ∃ c, portreeveref04_line.j1 (k + 1) b x0 x1 x2 x3 x4 = some c := by
    intro b x0 x1 x2 x3 x4
    rw [portreeveref04_line.j1]
    repeat' first | exact ⟨_, rfl⟩ | split
  have hj0 : ∀ b x0 x1 x2 x3 x4, ∃ c, portreeveref04_line.j0 (k + 2) t b a O W L x0 x1 x2 x3 x4 = some c := by
    intro b x0 x1 x2 x3 x4
    rw [portreeveref04_line.j0]
    repeat' first | exact ⟨_, rfl⟩ | exact hj1 _ _ _ _ _ _ | (exfalso; omega) | split
  unfold portreeveref04_line.f
  rw [if_pos (by omega), if_pos (by omega), h1, Option.bind_some]
  split
  · exact hj0 _ _ _ _ _ _
  · exact hj0 _ _ _ _ _ _

theorem open_l1 (a : Int) (O : List S51) (W : List S56) (L : List S68) (hO : O.length ≤ 1000) (i : Nat) (hi : i < O.length) (K : Nat) (hK : ∀ k', K ≤ k' → ∃ b, portreeveref04_open.l0 k' ((i + 1 : Nat) : Int) a O W L = some b) (y0 y1 y2 : Int) (y3 : ByteArray) (y4 y5 : Int) :
    ∀ (m k j : Nat), j + m = i → 2 * m + 1 + K ≤ k → ∃ b, portreeveref04_open.l1 k (i : Int) (j : Int) a O W L y0 y1 y2 y3 y4 y5 = some b
  | 0, k, j, hj, hk => by
    obtain ⟨k, rfl⟩ : ∃ m, k = m + 1 := ⟨k - 1, by omega⟩
    rw [portreeveref04_open.l1, if_neg (by omega), w64 (by omega) (by omega), show ((i : Int) + 1) = ((i + 1 : Nat) : Int) by omega]
    exact hK k (by omega)
  | m + 1, k, j, hj, hk => by
    obtain ⟨k, rfl⟩ : ∃ m, k = m + 2 := ⟨k - 2, by omega⟩
    have h3 : ∀ b, ∃ c, portreeveref04_open.j3 (k + 1) (i : Int) (j : Int) b a O W L y0 y1 y2 y3 y4 y5 = some c := by
      intro b
      rw [portreeveref04_open.j3]
      split
      · exact ⟨_, rfl⟩
      · rw [w64 (by omega) (by omega), show ((j : Int) + 1) = ((j + 1 : Nat) : Int) by omega]
        exact open_l1 a O W L hO i hi K hK y0 y1 y2 y3 y4 y5 m k (j + 1) (by omega) (by omega)
    rw [portreeveref04_open.l1, if_pos (by omega), if_pos (by omega), if_pos (by omega)]
    split
    · exact h3 _
    · exact h3 _
theorem open_l0 (a : Int) (O : List S51) (W : List S56) (L : List S68) (hO : O.length ≤ 1000) : ∀ (d k i : Nat), i + d = O.length → 2100 * d + 1 ≤ k → ∃ b, portreeveref04_open.l0 k (i : Int) a O W L = some b
  | 0, k, i, hd, hk => by
    obtain ⟨k, rfl⟩ : ∃ m, k = m + 1 := ⟨k - 1, by omega⟩
    rw [portreeveref04_open.l0, if_neg (by omega)]
    exact ⟨_, rfl⟩
  | d + 1, k, i, hd, hk => by
    obtain ⟨k, rfl⟩ : ∃ m, k = m + 2 := ⟨k - 2, by omega⟩
    have hj : ∀ b y0 y1 y2 y3 y4 y5, ∃ c, portreeveref04_open.j1 (k + 1) (i : Int) b a O W L y0 y1 y2 y3 y4 y5 = some c := by
      intro b y0 y1 y2 y3 y4 y5
      rw [portreeveref04_open.j1]
      split
      · exact ⟨_, rfl⟩
      · exact open_l1 a O W L hO i (by omega) (2100 * d + 1) (fun k' hk' => open_l0 a O W L hO d k' (i + 1) (by omega) hk') y0 y1 y2 y3 y4 y5 i k 0 (by omega) (by omega)
    obtain ⟨pb, hp⟩ := pool_own (rd_T51 O (i : Int)).f2
    have hw : wrap64 ((i : Int) - 1) = (i : Int) - 1 := w64 (by omega) (by omega)
    rw [portreeveref04_open.l0, if_pos (by omega), if_pos (by omega), name_own, Option.bind_some, hp, Option.bind_some, hw]
    repeat' first | exact hj _ _ _ _ _ _ _ | (exfalso; omega) | split

/-- What a right book says of those who have failed. -/
def LL (L : List S68) : Prop := ∀ x ∈ L, (1 ≤ x.f1 ∧ x.f1 ≤ 255) ∧ 0 ≤ x.f2 ∧ x.f2 ≤ 1000000000
theorem failed4_l0 (u : ByteArray) (a : Int) (O : List S51) (W : List S56) (L : List S68) (hL : L.length ≤ 1000) : ∀ (d k i : Nat), i + d = L.length → d < k → ∃ t, portreeveref04_Failed.l0 k u (i : Int) a O W L = some t
  | 0, k, i, hd, hk => by
    obtain ⟨k, rfl⟩ : ∃ m, k = m + 1 := ⟨k - 1, by omega⟩
    rw [portreeveref04_Failed.l0, if_neg (by omega)]
    exact ⟨_, rfl⟩
  | d + 1, k, i, hd, hk => by
    obtain ⟨k, rfl⟩ : ∃ m, k = m + 1 := ⟨k - 1, by omega⟩
    rw [portreeveref04_Failed.l0, if_pos (by omega), if_pos (by omega)]
    split
    · exact ⟨_, rfl⟩
    · rw [w64 (by omega) (by omega), show ((i : Int) + 1) = ((i + 1 : Nat) : Int) by omega]
      exact failed4_l0 u a O W L hL d k (i + 1) (by omega) (by omega)
theorem F_lt (l : List S68) (i : Nat) (h : i < l.length) : rd_T68 l (i : Int) = l[i] := by
  unfold rd_T68
  rw [Int.toNat_natCast, List.getD_eq_getElem?_getD, List.getElem?_eq_getElem h]
  rfl
theorem right_l2 (a : Int) (O : List S51) (W : List S56) (L : List S68) (hL : L.length ≤ 1000) : ∀ (d k i : Nat), i + d = L.length → 2 * d + 1010 ≤ k → ∃ b, portreeveref04_Right.l2 k (i : Int) a O W L = some b ∧ (b = true → LL (L.drop i))
  | 0, k, i, hd, hk => by
    obtain ⟨k, rfl⟩ : ∃ m, k = m + 1 := ⟨k - 1, by omega⟩
    rw [portreeveref04_Right.l2, if_neg (by omega)]
    exact ⟨_, rfl, fun _ => by rw [List.drop_eq_nil_of_le (by omega)]; intro x hx; simp at hx⟩
  | d + 1, k, i, hd, hk => by
    obtain ⟨k, rfl⟩ : ∃ m, k = m + 2 := ⟨k - 2, by omega⟩
    have hi : i < L.length := by omega
    have hjt : ∃ b, portreeveref04_Right.j6 (k + 1) (i : Int) true a O W L = some b ∧ (b = true → LL (L.drop i)) := by
      rw [portreeveref04_Right.j6, if_pos rfl]; exact ⟨_, rfl, by simp⟩
    rw [portreeveref04_Right.l2, if_pos (by omega), if_pos (by omega), name_own, Option.bind_some, F_lt L i hi]
    split
    · by_cases h1 : L[i].f1 < 1
      · rw [if_pos h1]; exact hjt
      by_cases h2 : L[i].f1 > 255
      · rw [if_neg h1, if_pos h2]; exact hjt
      by_cases h3 : L[i].f2 < 0
      · rw [if_neg h1, if_neg h2, if_pos h3]; exact hjt
      by_cases h4 : L[i].f2 > 1000000000
      · rw [if_neg h1, if_neg h2, if_neg h3, if_pos h4]; exact hjt
      rw [if_neg h1, if_neg h2, if_neg h3, if_neg h4]
      obtain ⟨t, ht⟩ := failed4_l0 L[i].f0 a O W L hL L.length (k + 1) 0 (by omega) (by omega)
      rw [show portreeveref04_Failed.f (k + 1) a O W L L[i].f0 = some t from ht, Option.bind_some, portreeveref04_Right.j6]
      split
      · exact ⟨_, rfl, by simp⟩
      · rw [w64 (by omega) (by omega), show ((i : Int) + 1) = ((i + 1 : Nat) : Int) by omega]
        obtain ⟨b, hb1, hb2⟩ := right_l2 a O W L hL d k (i + 1) (by omega) (by omega)
        refine ⟨b, hb1, fun hb => ?_⟩
        rw [List.drop_eq_getElem_cons hi]
        intro x hx
        rcases List.mem_cons.1 hx with rfl | hx
        · exact ⟨⟨by omega, by omega⟩, by omega, by omega⟩
        · exact hb2 hb x hx
    · exact hjt
theorem right_l1 (a : Int) (O : List S51) (W : List S56) (L : List S68) (hO : O.length ≤ 1000) (hW : W.length ≤ 1000) (hL : L.length ≤ 1000) : ∀ (d k i : Nat), i + d = O.length → 2 * d + 3020 ≤ k → ∃ b, portreeveref04_Right.l1 k (i : Int) a O W L = some b ∧ (b = true → LL L)
  | 0, k, i, hd, hk => by
    obtain ⟨k, rfl⟩ : ∃ m, k = m + 1 := ⟨k - 1, by omega⟩
    rw [portreeveref04_Right.l1, if_neg (by omega)]
    exact right_l2 a O W L hL L.length k 0 (by omega) (by omega)
  | d + 1, k, i, hd, hk => by
    obtain ⟨k, rfl⟩ : ∃ m, k = m + 2 := ⟨k - 2, by omega⟩
    obtain ⟨t, h1, h2, h3⟩ := last_own (k + 1) (rd_T51 O (i : Int)).f0 a O W L hW W.length (Nat.le_refl _) (by omega)
    have hj : ∀ b, ∃ c, portreeveref04_Right.j4 (k + 1) (i : Int) b a O W L = some c ∧ (c = true → LL L) := by
      intro b
      rw [portreeveref04_Right.j4]
      split
      · exact ⟨_, rfl, by simp⟩
      · rw [w64 (by omega) (by omega), show ((i : Int) + 1) = ((i + 1 : Nat) : Int) by omega]
        exact right_l1 a O W L hO hW hL d k (i + 1) (by omega) (by omega)
    rw [portreeveref04_Right.l1, if_pos (by omega), if_pos (by omega), h1, Option.bind_some]
    repeat' first | exact hj _ | (exfalso; omega) | split
theorem right_l0 (a : Int) (O : List S51) (W : List S56) (L : List S68) (hO : O.length ≤ 1000) (hW : W.length ≤ 1000) (hL : L.length ≤ 1000) : ∀ (d k i : Nat), i + d = W.length → 2 * d + 5030 ≤ k → ∃ b, portreeveref04_Right.l0 k (i : Int) a O W L = some b ∧ (b = true → LL L)
  | 0, k, i, hd, hk => by
    obtain ⟨k, rfl⟩ : ∃ m, k = m + 1 := ⟨k - 1, by omega⟩
    rw [portreeveref04_Right.l0, if_neg (by omega)]
    exact right_l1 a O W L hO hW hL O.length k 0 (by omega) (by omega)
  | d + 1, k, i, hd, hk => by
    obtain ⟨k, rfl⟩ : ∃ m, k = m + 2 := ⟨k - 2, by omega⟩
    obtain ⟨lb, hlb⟩ := line_own (k + 1) a O W L hW i (by omega) (by omega)
    obtain ⟨t, h1, h2, h3⟩ := last_own (k + 1) (rd_T56 W (i : Int)).f1 a O W L hW W.length (Nat.le_refl _) (by omega)
    obtain ⟨s, hs⟩ := of_own (k + 1) (rd_T56 W (i : Int)).f1 a O W L hO (by omega)
    have hj : ∀ b, ∃ c, portreeveref04_Right.j2 (k + 1) (i : Int) b a O W L = some c ∧ (c = true → LL L) := by
      intro b
      rw [portreeveref04_Right.j2]
      split
      · exact ⟨_, rfl, by simp⟩
      · rw [w64 (by omega) (by omega), show ((i : Int) + 1) = ((i + 1 : Nat) : Int) by omega]
        exact right_l0 a O W L hO hW hL d k (i + 1) (by omega) (by omega)
    rw [portreeveref04_Right.l0, if_pos (by omega), hlb, Option.bind_some]
    split
    · rw [if_pos (by omega), h1, Option.bind_some, hs, Option.bind_some]
      split
      · exact hj _
      · exact hj _
    · exact ⟨_, rfl, by simp⟩
theorem right_own (k : Nat) (a : Int) (O : List S51) (W : List S56) (L : List S68) (hO : O.length ≤ 140737488355328) (hW : W.length ≤ 140737488355328) (hk : 300000 ≤ k) : ∃ b, portreeveref04_Right.f k a O W L = some b ∧ (b = true → (0 ≤ a ∧ a ≤ 1000000000) ∧ O.length + W.length ≤ 60 ∧ L.length ≤ 8 ∧ LL L) := by
  obtain ⟨k, rfl⟩ : ∃ m, k = m + 1 := ⟨k - 1, by omega⟩
  have hjt : ∃ b, portreeveref04_Right.j0 (k + 1) true a O W L = some b ∧ (b = true → (0 ≤ a ∧ a ≤ 1000000000) ∧ O.length + W.length ≤ 60 ∧ L.length ≤ 8 ∧ LL L) := by
    rw [portreeveref04_Right.j0, if_pos rfl]; exact ⟨_, rfl, by simp⟩
  unfold portreeveref04_Right.f
  rw [w64 (by omega) (by omega)]
  by_cases h1 : a < 0
  · rw [if_pos h1]; exact hjt
  by_cases h2 : a > 1000000000
  · rw [if_neg h1, if_pos h2]; exact hjt
  by_cases h3 : (W.length : Int) + (O.length : Int) > 60
  · rw [if_neg h1, if_neg h2, if_pos h3]; exact hjt
  by_cases h4 : (L.length : Int) > 8
  · rw [if_neg h1, if_neg h2, if_neg h3, decide_eq_true h4]; exact hjt
  rw [if_neg h1, if_neg h2, if_neg h3, decide_eq_false h4, portreeveref04_Right.j0, if_neg (by simp)]
  obtain ⟨ob, ho⟩ := open_l0 a O W L (by omega) O.length k 0 (by omega) (by omega)
  rw [show portreeveref04_open.f k a O W L = some ob from ho, Option.bind_some]
  split
  · obtain ⟨b, hb1, hb2⟩ := right_l0 a O W L (by omega) (by omega) (by omega) W.length k 0 (by omega) (by omega)
    exact ⟨b, hb1, fun hb => ⟨⟨by omega, by omega⟩, by omega, by omega, hb2 hb⟩⟩
  · exact ⟨_, rfl, by simp⟩

theorem O_lt (l : List S51) (i : Nat) (h : i < l.length) : rd_T51 l (i : Int) = l[i] := by
  unfold rd_T51
  simp [List.getElem?_eq_getElem h]
/-- What open says of the session at a place. -/
def OK (a : Int) (O : List S51) (j : Nat) : Prop := (rd_T51 O (j : Int)).f0 < a ∧ 0 ≤ (rd_T51 O (j : Int)).f0 ∧ (0 < j → (rd_T51 O ((j : Int) - 1)).f0 < (rd_T51 O (j : Int)).f0)
theorem open_j1 (a : Int) (O : List S51) (W : List S56) (L : List S68) (hO : O.length ≤ 1000) : ∀ (k : Nat),
    (∀ (i : Nat) (b : Bool) (y0 y1 y2 : Int) (y3 : ByteArray) (y4 y5 : Int), i < O.length → portreeveref04_open.j1 k (i : Int) b a O W L y0 y1 y2 y3 y4 y5 = some true → b = false ∧ ∃ k', k' < k ∧ portreeveref04_open.l0 k' ((i : Int) + 1) a O W L = some true) ∧
    (∀ (i j : Nat) (y0 y1 y2 : Int) (y3 : ByteArray) (y4 y5 : Int), i < O.length → j ≤ i → portreeveref04_open.l1 k (i : Int) (j : Int) a O W L y0 y1 y2 y3 y4 y5 = some true → ∃ k', k' < k ∧ portreeveref04_open.l0 k' ((i : Int) + 1) a O W L = some true) ∧
    (∀ (i j : Nat) (b : Bool) (y0 y1 y2 : Int) (y3 : ByteArray) (y4 y5 : Int), i < O.length → j < i → portreeveref04_open.j3 k (i : Int) (j : Int) b a O W L y0 y1 y2 y3 y4 y5 = some true → ∃ k', k' < k ∧ portreeveref04_open.l0 k' ((i : Int) + 1) a O W L = some true)
  | 0 => ⟨fun _ _ _ _ _ _ _ _ _ h => by simp [portreeveref04_open.j1] at h, fun _ _ _ _ _ _ _ _ _ _ h => by simp [portreeveref04_open.l1] at h, fun _ _ _ _ _ _ _ _ _ _ _ h => by simp [portreeveref04_open.j3] at h⟩
  | k + 1 => by
    obtain ⟨h1, h2, h3⟩ := open_j1 a O W L hO k
    refine ⟨fun i b y0 y1 y2 y3 y4 y5 hi h => ?_, fun i j y0 y1 y2 y3 y4 y5 hi hj h => ?_, fun i j b y0 y1 y2 y3 y4 y5 hi hj h => ?_⟩
    · rw [portreeveref04_open.j1] at h
      cases b with
      | true => simp at h
      | false =>
        rw [if_neg (by decide)] at h
        obtain ⟨k', hk, hl⟩ := h2 i 0 y0 y1 y2 y3 y4 y5 hi (Nat.zero_le _) h
        exact ⟨rfl, k', by omega, hl⟩
    · rw [portreeveref04_open.l1] at h
      split at h
      · rename_i hlt
        rw [if_pos (by omega), if_pos (by omega)] at h
        split at h
        · obtain ⟨k', hk, hl⟩ := h3 i j _ y0 y1 y2 y3 y4 y5 hi (by omega) h
          exact ⟨k', by omega, hl⟩
        · obtain ⟨k', hk, hl⟩ := h3 i j _ y0 y1 y2 y3 y4 y5 hi (by omega) h
          exact ⟨k', by omega, hl⟩
      · rw [w64 (by omega) (by omega)] at h
        exact ⟨k, by omega, h⟩
    · rw [portreeveref04_open.j3] at h
      split at h
      · simp at h
      · rw [w64 (by omega) (by omega), show ((j : Int) + 1) = ((j + 1 : Nat) : Int) by omega] at h
        obtain ⟨k', hk, hl⟩ := h2 i (j + 1) y0 y1 y2 y3 y4 y5 hi (by omega) h
        exact ⟨k', by omega, hl⟩
theorem open_one (a : Int) (O : List S51) (W : List S56) (L : List S68) (hO : O.length ≤ 1000) (k i : Nat) (hi : i < O.length) (h : portreeveref04_open.l0 (k + 1) (i : Int) a O W L = some true) :
    OK a O i ∧ ∃ k', k' < k ∧ portreeveref04_open.l0 k' ((i : Int) + 1) a O W L = some true := by
  have hj := fun b y0 y1 y2 y3 y4 y5 => (open_j1 a O W L hO k).1 i b y0 y1 y2 y3 y4 y5 hi
  rw [portreeveref04_open.l0, if_pos (by omega), if_pos (by omega)] at h
  obtain ⟨t1, _, h⟩ := Option.bind_eq_some_iff.1 h
  obtain ⟨t2, _, h⟩ := Option.bind_eq_some_iff.1 h
  unfold OK
  split at h
  · exact absurd (hj _ _ _ _ _ _ _ h).1 (by decide)
  · split at h
    · exact absurd (hj _ _ _ _ _ _ _ h).1 (by decide)
    · by_cases h0 : (i : Int) > 0
      · rw [if_pos h0, w64 (by omega) (by omega), if_pos (by omega), if_pos (by omega)] at h
        split at h
        · exact absurd (hj _ _ _ _ _ _ _ h).1 (by decide)
        · have hk : ∃ k', k' < k ∧ portreeveref04_open.l0 k' ((i : Int) + 1) a O W L = some true := by
            repeat' first | exact (hj _ _ _ _ _ _ _ h).2 | split at h
          exact ⟨⟨by omega, by omega, fun _ => by omega⟩, hk⟩
      · rw [if_neg h0] at h
        have hk : ∃ k', k' < k ∧ portreeveref04_open.l0 k' ((i : Int) + 1) a O W L = some true := by
          repeat' first | exact (hj _ _ _ _ _ _ _ h).2 | split at h
        exact ⟨⟨by omega, by omega, fun hp => absurd hp (by omega)⟩, hk⟩
theorem open_all (a : Int) (O : List S51) (W : List S56) (L : List S68) (hO : O.length ≤ 1000) : ∀ (d i k : Nat), i + d = O.length → portreeveref04_open.l0 k (i : Int) a O W L = some true → ∀ j, i ≤ j → j < O.length → OK a O j
  | 0, i, k, hd, _, j, h1, h2 => absurd h2 (by omega)
  | d + 1, i, 0, hd, h, _, _, _ => by simp [portreeveref04_open.l0] at h
  | d + 1, i, k + 1, hd, h, j, h1, h2 => by
    obtain ⟨hok, k', _, hl⟩ := open_one a O W L hO k i (by omega) h
    rcases Nat.lt_or_ge i j with hlt | hge
    · exact open_all a O W L hO d (i + 1) k' (by omega) hl j (by omega) h2
    · obtain rfl : j = i := by omega
      exact hok
theorem OK_lt {a : Int} {O : List S51} (h : ∀ j, j < O.length → OK a O j) : ∀ (d i : Nat), i + d + 1 < O.length → (rd_T51 O (i : Int)).f0 < (rd_T51 O ((i + d + 1 : Nat) : Int)).f0
  | 0, i, hi => by
    have := (h (i + 0 + 1) hi).2.2 (by omega)
    rwa [show (((i + 0 + 1 : Nat) : Int) - 1) = (i : Int) by omega] at this
  | d + 1, i, hi => by
    have h1 := OK_lt h d i (by omega)
    have h2 := (h (i + (d + 1) + 1) hi).2.2 (by omega)
    rw [show (((i + (d + 1) + 1 : Nat) : Int) - 1) = ((i + d + 1 : Nat) : Int) by omega] at h2
    omega
theorem OK_ne {a : Int} {O : List S51} (h : ∀ j, j < O.length → OK a O j) {i j : Nat} (hi : i < O.length) (hj : j < O.length) (hne : i ≠ j) : (rd_T51 O (i : Int)).f0 ≠ (rd_T51 O (j : Int)).f0 := by
  rcases Nat.lt_or_ge i j with hlt | hge
  · have := OK_lt h (j - i - 1) i (by omega)
    rw [show i + (j - i - 1) + 1 = j by omega] at this
    omega
  · have := OK_lt h (i - j - 1) j (by omega)
    rw [show j + (i - j - 1) + 1 = i by omega] at this
    omega
theorem of_at (id a : Int) (O : List S51) (W : List S56) (L : List S68) (hO : O.length ≤ 1000) (n : Nat) (hn : n < O.length) (hid : (rd_T51 O (n : Int)).f0 = id) : ∀ (d k i : Nat), i + d = n → d < k → (∀ j, i ≤ j → j < n → (rd_T51 O (j : Int)).f0 ≠ id) → portreeveref04_Of.l0 k id (i : Int) a O W L = some (n : Int)
  | 0, k, i, hd, hk, _ => by
    obtain ⟨k, rfl⟩ : ∃ m, k = m + 1 := ⟨k - 1, by omega⟩
    obtain rfl : i = n := by omega
    rw [portreeveref04_Of.l0, if_pos (by omega), if_pos (by omega), if_pos hid]
  | d + 1, k, i, hd, hk, h => by
    obtain ⟨k, rfl⟩ : ∃ m, k = m + 1 := ⟨k - 1, by omega⟩
    rw [portreeveref04_Of.l0, if_pos (by omega), if_pos (by omega), if_neg (h i (by omega) (by omega)), w64 (by omega) (by omega), show ((i : Int) + 1) = ((i + 1 : Nat) : Int) by omega]
    exact of_at id a O W L hO n hn hid d k (i + 1) (by omega) (by omega) (fun j h1 h2 => h j (by omega) h2)
theorem of_none (id a : Int) (O : List S51) (W : List S56) (L : List S68) (hO : O.length ≤ 1000) : ∀ (d k i : Nat), i + d = O.length → d < k → (∀ j, i ≤ j → j < O.length → (rd_T51 O (j : Int)).f0 ≠ id) → portreeveref04_Of.l0 k id (i : Int) a O W L = some (-1)
  | 0, k, i, hd, hk, _ => by
    obtain ⟨k, rfl⟩ : ∃ m, k = m + 1 := ⟨k - 1, by omega⟩
    rw [portreeveref04_Of.l0, if_neg (by omega)]
  | d + 1, k, i, hd, hk, h => by
    obtain ⟨k, rfl⟩ : ∃ m, k = m + 1 := ⟨k - 1, by omega⟩
    rw [portreeveref04_Of.l0, if_pos (by omega), if_pos (by omega), if_neg (h i (by omega) (by omega)), w64 (by omega) (by omega), show ((i : Int) + 1) = ((i + 1 : Nat) : Int) by omega]
    exact of_none id a O W L hO d k (i + 1) (by omega) (by omega) (fun j h1 h2 => h j (by omega) h2)
theorem right_true (k : Nat) (a : Int) (O : List S51) (W : List S56) (L : List S68) (hO : O.length ≤ 140737488355328) (hW : W.length ≤ 140737488355328) (h : portreeveref04_Right.f k a O W L = some true) :
    (0 ≤ a ∧ a ≤ 1000000000) ∧ W.length + O.length ≤ 60 ∧ ∀ j, j < O.length → OK a O j := by
  have hj : ∀ b, portreeveref04_Right.j0 k b a O W L = some true → b = false ∧ (O.length ≤ 1000 → ∀ j, j < O.length → OK a O j) := by
    intro b hb
    cases k with
    | zero => simp [portreeveref04_Right.j0] at hb
    | succ k =>
      rw [portreeveref04_Right.j0] at hb
      cases b with
      | true => simp at hb
      | false =>
        rw [if_neg (by decide)] at hb
        obtain ⟨t, ht, hb⟩ := Option.bind_eq_some_iff.1 hb
        cases t with
        | false => simp at hb
        | true => exact ⟨rfl, fun hl j hj => open_all a O W L hl O.length 0 k (by omega) ht j (by omega) hj⟩
  unfold portreeveref04_Right.f at h
  split at h
  · exact absurd (hj _ h).1 (by decide)
  · split at h
    · exact absurd (hj _ h).1 (by decide)
    · rw [w64 (by omega) (by omega)] at h
      split at h
      · exact absurd (hj _ h).1 (by decide)
      · exact ⟨⟨by omega, by omega⟩, by omega, (hj _ h).2 (by omega)⟩
end Go.Proofs.Ytlimlbhhbjaljaa.Pure
