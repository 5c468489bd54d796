/- What the functions of disks compute, over plain rows. -/
import Derived.Test.YtnhfhepakimncaaQx0
import Derived.Test.YtnhfhepakimncaaQx1
import Derived.Test.YtnhfhepakimncaaQx2
import Derived.Test.YtnhfhepakimncaaQx3
import Derived.Test.YtnhfhepakimncaaQx4
import Derived.Test.YtnhfhepakimncaaQx5
import Derived.Test.YtnhfhepakimncaaQx6
import Derived.Test.YtnhfhepakimncaaQx7
import Derived.Test.YtnhfhepakimncaaQx10
import Derived.Test.YtnhfhepakimncaaQx11
import Derived.Test.YtnhfhepakimncaaQx12
import Derived.Test.YtnhfhepakimncaaQx13
import Derived.Test.YtnhfhepakimncaaPureKit
import Derived.Test.YtnhfhepakimncaaRow
namespace Go.Proofs.Ytnhfhepakimncaa.Pure
set_option linter.unusedVariables false
open Go Go.RowKit Go.Proofs.Ytnhfhepakimncaa.Q Go.Proofs.YtnhfhepakimncaaK Go.Proofs.YtnhfhepakimncaaW.PrintWords Go.Proofs.YtnhfhepakimncaaW.PrintLast Go.Proofs.YtnhfhepakimncaaW.PrintMore

theorem L_lt (l : List (List Int)) (i : Nat) (h : i < l.length) : rd_L2 l (i : Int) = l[i] := by
  unfold rd_L2
  rw [Int.toNat_natCast, List.getD_eq_getElem?_getD, List.getElem?_eq_getElem h]
  rfl
theorem T_lt (l : List S47) (i : Nat) (h : i < l.length) : rd_T47 l (i : Int) = l[i] := by
  unfold rd_T47
  rw [Int.toNat_natCast, List.getD_eq_getElem?_getD, List.getElem?_eq_getElem h]
  rfl
theorem O_lt (l : List Bool) (i : Nat) (h : i < l.length) : rdOf false l (i : Int) = l[i] := by
  unfold rdOf
  rw [Int.toNat_natCast, List.getD_eq_getElem?_getD, List.getElem?_eq_getElem h]
  rfl

theorem own_own (l : List Int) (h : l.length ≤ 1000000) : disk_own.f l = some l := by
  unfold disk_own.f
  rw [if_pos (by omega)]

/-! reads -/
def lk : List Int → Int → List S47 → List Int
  | b, _, [] => b
  | b, a, w :: t => lk (if w.f0 = a then w.f1 else b) a t
theorem lk_snoc (a : Int) (w : S47) : ∀ (l : List S47) (b : List Int), lk b a (l ++ [w]) = if w.f0 = a then w.f1 else lk b a l
  | [], b => rfl
  | v :: t, b => by rw [List.cons_append, lk, lk_snoc a w t, lk]
/-- Every write fits. -/
def Fit (W : List S47) : Prop := ∀ w ∈ W, 0 ≤ w.f0 ∧ w.f0 ≤ 63 ∧ w.f1.length = 128
theorem Fit.get {W : List S47} (h : Fit W) (i : Nat) (hi : i < W.length) : 0 ≤ W[i].f0 ∧ W[i].f0 ≤ 63 ∧ W[i].f1.length = 128 := h _ (List.getElem_mem hi)

theorem read_l0 (a : Int) (W : List S47) (hW : Fit W) (hl : W.length ≤ 1000) : ∀ (d k i : Nat) (b : List Int), i + d = W.length → b.length ≤ 1000 → d < k → disk_Read.l0 k a b W (W.length : Int) (i : Int) = some (lk b a (W.drop i), 0)
  | 0, k, i, b, hd, hb, hk => by
    obtain ⟨k, rfl⟩ : ∃ m, k = m + 1 := ⟨k - 1, by omega⟩
    rw [disk_Read.l0, if_neg (by omega), own_own _ (by omega), Option.bind_some, List.drop_eq_nil_of_le (by omega), lk]
  | d + 1, k, i, b, hd, hb, hk => by
    obtain ⟨k, rfl⟩ : ∃ m, k = m + 1 := ⟨k - 1, by omega⟩
    have hi : i < W.length := by omega
    have hf := hW.get i hi
    have ih := fun b hb => read_l0 a W hW hl d k (i + 1) b (by omega) hb (by omega)
    rw [disk_Read.l0, if_pos (by omega), if_pos (by omega), if_pos (by omega), T_lt W i hi, w64 (by omega) (by omega), show ((i : Int) + 1) = ((i + 1 : Nat) : Int) by omega, List.drop_eq_getElem_cons hi, lk]
    by_cases h : W[i].f0 = a
    · rw [if_pos h, if_pos h, ih _ (by omega)]
    · rw [if_neg h, if_neg h, ih _ hb]

/-- A right disk. -/
structure RD (S : List (List Int)) (W : List S47) : Prop where
  s64 : S.length = 64
  s128 : ∀ s ∈ S, s.length = 128
  fit : Fit W
  few : W.length ≤ 1000
theorem RD.get {S : List (List Int)} {W : List S47} (h : RD S W) (i : Nat) (hi : i < 64) : (rd_L2 S (i : Int)).length = 128 := by
  rw [L_lt S i (by rw [h.s64]; exact hi)]
  exact h.s128 _ (List.getElem_mem _)

theorem read_own (k : Nat) {S : List (List Int)} {W : List S47} (h : RD S W) (a : Int) (h0 : 0 ≤ a) (h1 : a < 64) (hk : 1002 ≤ k) : disk_Read.f k S W a = some (lk (rd_L2 S a) a W, 0) := by
  obtain ⟨n, rfl⟩ : ∃ n : Nat, a = n := ⟨a.toNat, by omega⟩
  obtain ⟨k, rfl⟩ : ∃ m, k = m + 1 := ⟨k - 1, by omega⟩
  have := h.s64
  have := h.few
  have hr := h.get n (by omega)
  unfold disk_Read.f
  rw [if_neg (by omega), decide_eq_false (by omega), disk_Read.j0, if_neg (by simp), if_pos (by omega), if_pos (by omega)]
  have := read_l0 n W h.fit h.few W.length k 0 (rd_L2 S n) (by omega) (by omega) (by omega)
  simpa using this
theorem read_out (k : Nat) (S : List (List Int)) (W : List S47) (a : Int) (h : a < 0 ∨ 64 ≤ a) (hk : 1 ≤ k) : disk_Read.f k S W a = some ([], 1) := by
  obtain ⟨k, rfl⟩ : ∃ m, k = m + 1 := ⟨k - 1, by omega⟩
  unfold disk_Read.f
  by_cases h0 : a < 0
  · rw [if_pos h0, disk_Read.j0, if_pos rfl]
  · rw [if_neg h0, decide_eq_true (by omega), disk_Read.j0, if_pos rfl]

theorem rread_l0 (a : Int) (h0 : 0 ≤ a) (S : List (List Int)) (h1 : a < S.length) (W : List S47) (hl : W.length ≤ 1000) : ∀ (n k : Nat), n ≤ W.length → n < k → portreeveref03_Read.l0 k a ((n : Int) - 1) S W = some (lk (rd_L2 S a) a (W.take n), 0)
  | 0, k, hn, hk => by
    obtain ⟨k, rfl⟩ : ∃ m, k = m + 1 := ⟨k - 1, by omega⟩
    rw [portreeveref03_Read.l0, if_neg (by omega), if_pos h0, if_pos h1, List.take_zero, lk]
  | n + 1, k, hn, hk => by
    obtain ⟨k, rfl⟩ : ∃ m, k = m + 1 := ⟨k - 1, by omega⟩
    have hi : n < W.length := by omega
    rw [show (((n + 1 : Nat) : Int) - 1) = (n : Int) by omega, portreeveref03_Read.l0, if_pos (by omega), if_pos (by omega), if_pos (by omega), T_lt W n hi, List.take_succ_eq_append_getElem hi, lk_snoc]
    by_cases h : W[n].f0 = a
    · rw [if_pos h, if_pos h]
    · rw [if_neg h, if_neg h, w64 (by omega) (by omega), rread_l0 a h0 S h1 W hl n k (by omega) (by omega)]

theorem rread (k : Nat) {S : List (List Int)} {W : List S47} (h : RD S W) (a : Int) (h0 : 0 ≤ a) (h1 : a < 64) (hk : 1002 ≤ k) : portreeveref03_Read.f k S W a = some (lk (rd_L2 S a) a W, 0) := by
  obtain ⟨k, rfl⟩ : ∃ m, k = m + 1 := ⟨k - 1, by omega⟩
  have := h.s64
  have := h.few
  unfold portreeveref03_Read.f
  rw [if_neg (by omega), if_neg (by omega), decide_eq_false (by omega), portreeveref03_Read.j0, if_neg (by simp), w64 (by omega) (by omega), rread_l0 a h0 S (by omega) W h.few W.length k (by omega) (by omega), List.take_length]
theorem rread_out (k : Nat) (S : List (List Int)) (W : List S47) (a : Int) (h : a < 0 ∨ 64 ≤ a) (hk : 1 ≤ k) : portreeveref03_Read.f k S W a = some ([], 1) := by
  obtain ⟨k, rfl⟩ : ∃ m, k = m + 1 := ⟨k - 1, by omega⟩
  unfold portreeveref03_Read.f
  by_cases h0 : a < 0
  · rw [if_pos h0, portreeveref03_Read.j0, if_pos rfl]
  · rw [if_neg h0, if_pos (by omega), portreeveref03_Read.j0, if_pos rfl]

/-! writes that are done -/
def dn : List (List Int) → List S47 → List (List Int)
  | S, [] => S
  | S, w :: t => dn (S.set w.f0.toNat w.f1) t
theorem dn_length : ∀ (l : List S47) (S : List (List Int)), (dn S l).length = S.length
  | [], S => rfl
  | w :: t, S => by rw [dn, dn_length t, List.length_set]
theorem dn_all : ∀ (l : List S47) (S : List (List Int)), (∀ s ∈ S, s.length = 128) → Fit l → ∀ s ∈ dn S l, s.length = 128
  | [], S, h, _ => h
  | w :: t, S, h, hf => by
    rw [dn]
    refine dn_all t _ (fun s hs => ?_) (fun v hv => hf v (List.mem_cons_of_mem _ hv))
    rcases List.mem_or_eq_of_mem_set hs with h1 | rfl
    · exact h s h1
    · exact (hf w (by simp)).2.2
theorem dn_get : ∀ (l : List S47) (S : List (List Int)) (i : Nat), i < S.length → Fit l → rd_L2 (dn S l) (i : Int) = lk (rd_L2 S (i : Int)) (i : Int) l
  | [], S, i, hi, _ => rfl
  | w :: t, S, i, hi, hf => by
    have hw := hf w (by simp)
    rw [dn, dn_get t _ i (by rw [List.length_set]; exact hi) (fun v hv => hf v (List.mem_cons_of_mem _ hv)), lk]
    congr 1
    rw [L_lt _ i (by rw [List.length_set]; exact hi), L_lt S i hi, List.getElem_set]
    by_cases h : w.f0 = (i : Int)
    · rw [if_pos (by omega), if_pos h]
    · rw [if_neg (by omega), if_neg h]
theorem dn_append : ∀ (l m : List S47) (S : List (List Int)), dn S (l ++ m) = dn (dn S l) m
  | [], m, S => rfl
  | w :: t, m, S => by rw [List.cons_append, dn, dn_append t, dn]

theorem done_l0 (l : List S47) (hf : Fit l) (hl : l.length ≤ 1000) : ∀ (d k i : Nat) (S : List (List Int)), i + d = l.length → S.length = 64 → d < k → disk_done.l0 k S l (l.length : Int) (i : Int) = some (dn S (l.drop i), [])
  | 0, k, i, S, hd, hS, hk => by
    obtain ⟨k, rfl⟩ : ∃ m, k = m + 1 := ⟨k - 1, by omega⟩
    rw [disk_done.l0, if_neg (by omega), List.drop_eq_nil_of_le (by omega), dn]
  | d + 1, k, i, S, hd, hS, hk => by
    obtain ⟨k, rfl⟩ : ∃ m, k = m + 1 := ⟨k - 1, by omega⟩
    have hi : i < l.length := by omega
    have hw := hf.get i hi
    rw [disk_done.l0, if_pos (by omega), if_pos (by omega), if_pos (by omega), T_lt l i hi, own_own _ (by omega), Option.bind_some, if_pos (by omega), if_pos (by omega), w64 (by omega) (by omega), show ((i : Int) + 1) = ((i + 1 : Nat) : Int) by omega, done_l0 l hf hl d k (i + 1) _ (by omega) (by rw [List.length_set]; exact hS) (by omega), List.drop_eq_getElem_cons hi, dn]

theorem done_own (k : Nat) (S : List (List Int)) (W l : List S47) (hS : S.length = 64) (hf : Fit l) (hl : l.length ≤ 1000) (hk : 1002 ≤ k) : disk_done.f k S W l = some (dn S l, []) := by
  unfold disk_done.f slices_Clone_byte_byte.f
  rw [if_pos (by omega), Option.bind_some]
  have := done_l0 l hf hl l.length k 0 S (by omega) hS (by omega)
  simpa using this
theorem flush_own (k : Nat) {S : List (List Int)} {W : List S47} (h : RD S W) (hk : 1002 ≤ k) : disk_Flush.f k S W = some (dn S W, []) := by
  unfold disk_Flush.f
  rw [done_own k S W W h.s64 h.fit h.few hk, Option.bind_some]

/-! what is kept -/
def kp : List Bool → List S47 → List S47
  | _, [] => []
  | [], _ :: _ => []
  | b :: ks, w :: t => (if b = true then [w] else []) ++ kp ks t
theorem kp_nil : ∀ W : List S47, kp [] W = []
  | [] => rfl
  | _ :: _ => rfl
theorem kp_mem : ∀ (ks : List Bool) (W : List S47), ∀ w ∈ kp ks W, w ∈ W
  | _, [], w, h => by simp [kp] at h
  | [], _ :: _, w, h => by simp [kp] at h
  | b :: ks, v :: t, w, h => by
    rw [kp, List.mem_append] at h
    rcases h with h | h
    · split at h
      · simp only [List.mem_singleton] at h; simp [h]
      · simp at h
    · exact List.mem_cons_of_mem _ (kp_mem ks t w h)
theorem kp_length : ∀ (ks : List Bool) (W : List S47), (kp ks W).length ≤ W.length
  | _, [] => by simp [kp]
  | [], _ :: _ => by simp [kp]
  | b :: ks, v :: t => by
    have := kp_length ks t
    rw [kp, List.length_append]
    split <;> simp only [List.length_cons, List.length_nil] <;> omega
theorem kp_fit {W : List S47} (h : Fit W) (ks : List Bool) : Fit (kp ks W) := fun w hw => h w (kp_mem ks W w hw)
theorem kp_more : ∀ (ks : List Bool) (n : Nat) (W : List S47), kp (ks ++ List.replicate n false) W = kp ks W
  | _, _, [] => by simp [kp]
  | [], 0, v :: t => rfl
  | [], n + 1, v :: t => by
    have := kp_more [] n t
    rw [List.nil_append] at this
    rw [List.nil_append, List.replicate_succ]
    show [] ++ kp (List.replicate n false) t = []
    rw [this, kp_nil]
    rfl
  | b :: ks, n, v :: t => by rw [List.cons_append, kp, kp_more ks n t, kp]

theorem crash_l0 (ks : List Bool) (S : List (List Int)) (hS : S.length = 64) (W : List S47) (hf : Fit W) (hl : W.length ≤ 1000) (hks : ks.length ≤ 1000) : ∀ (d k i : Nat) (out : List S47), i + d = W.length → out.length + d ≤ 1000 → Fit out → d + 1003 ≤ k → disk_Crash.l0 k ks out W (W.length : Int) (i : Int) S W = some (dn S (out ++ kp (ks.drop i) (W.drop i)), [])
  | 0, k, i, out, hd, ho, hfo, hk => by
    obtain ⟨k, rfl⟩ : ∃ m, k = m + 1 := ⟨k - 1, by omega⟩
    rw [disk_Crash.l0, if_neg (by omega), done_own k S W out hS hfo (by omega) (by omega), Option.bind_some, List.drop_eq_nil_of_le (by omega : W.length ≤ i)]
    simp [kp]
  | d + 1, k, i, out, hd, ho, hfo, hk => by
    obtain ⟨k, rfl⟩ : ∃ m, k = m + 1 := ⟨k - 1, by omega⟩
    have hi : i < W.length := by omega
    have ih := fun out ho hfo => crash_l0 ks S hS W hf hl hks d k (i + 1) out (by omega) ho hfo (by omega)
    rw [disk_Crash.l0, if_pos (by omega), if_pos (by omega), if_pos (by omega), w64 (by omega) (by omega), show ((i : Int) + 1) = ((i + 1 : Nat) : Int) by omega, List.drop_eq_getElem_cons hi, T_lt W i hi]
    by_cases hj : i < ks.length
    · rw [if_pos (by omega), O_lt ks i hj, List.drop_eq_getElem_cons hj, kp]
      by_cases hb : ks[i] = true
      · rw [if_pos hb, if_pos hb, if_pos (by omega), ih _ (by rw [List.length_append, List.length_singleton]; omega) (by
          intro w hw
          rw [List.mem_append, List.mem_singleton] at hw
          rcases hw with hw | rfl
          · exact hfo w hw
          · exact hf.get i hi), List.append_assoc]
      · rw [if_neg hb, if_neg hb, ih out (by omega) hfo, List.nil_append]
    · rw [if_neg (by omega), ih out (by omega) hfo, List.drop_eq_nil_of_le (by omega : ks.length ≤ i), List.drop_eq_nil_of_le (by omega : ks.length ≤ i + 1), kp_nil, kp_nil]

theorem crash_own (k : Nat) {S : List (List Int)} {W : List S47} (h : RD S W) (ks : List Bool) (hks : ks.length ≤ 1000) (hk : 2100 ≤ k) : disk_Crash.f k S W ks = some (dn S (kp ks W), []) := by
  have := h.few
  unfold disk_Crash.f
  have := crash_l0 ks S h.s64 W h.fit h.few hks W.length k 0 [] (by omega) (by simpa using h.few) (by intro w hw; simp at hw) (by omega)
  simpa using this
theorem RD.done {S : List (List Int)} {W : List S47} (h : RD S W) {l : List S47} (hl : Fit l) : RD (dn S l) [] := ⟨(dn_length l S).trans h.s64, dn_all l S h.s128 hl, by intro w hw; simp at hw, by simp⟩

/-! the document's -/
def fl (S : List (List Int)) (W : List S47) : List (List Int) := (List.range 64).map fun j : Nat => lk (rd_L2 S (j : Int)) (j : Int) W
theorem fl_dn {S : List (List Int)} {W : List S47} (h : RD S W) : fl S W = dn S W := by
  refine List.ext_getElem (by simp [fl, dn_length, h.s64]) (fun i h1 h2 => ?_)
  rw [dn_length, h.s64] at h2
  simp only [fl, List.getElem_map, List.getElem_range]
  rw [← dn_get W S i (by rw [h.s64]; exact h2) h.fit, L_lt]
theorem rflush_l0 {S : List (List Int)} {W : List S47} (h : RD S W) : ∀ (d k i : Nat) (out : List (List Int)), i + d = 64 → out.length ≤ i → d + 1003 ≤ k → portreeveref03_Flush.l0 k (i : Int) S W out = some (out ++ (List.range' i d).map (fun j : Nat => lk (rd_L2 S (j : Int)) (j : Int) W), [])
  | 0, k, i, out, hd, ho, hk => by
    obtain ⟨k, rfl⟩ : ∃ m, k = m + 1 := ⟨k - 1, by omega⟩
    rw [portreeveref03_Flush.l0, if_neg (by omega)]
    simp
  | d + 1, k, i, out, hd, ho, hk => by
    obtain ⟨k, rfl⟩ : ∃ m, k = m + 1 := ⟨k - 1, by omega⟩
    rw [portreeveref03_Flush.l0, if_pos (by omega), rread k h i (by omega) (by omega) (by omega), Option.bind_some, if_pos (by omega), w64 (by omega) (by omega), show ((i : Int) + 1) = ((i + 1 : Nat) : Int) by omega, rflush_l0 h d k (i + 1) _ (by omega) (by rw [List.length_append, List.length_singleton]; omega) (by omega), List.range'_succ, List.map_cons, List.append_assoc]
    rfl
theorem rflush (k : Nat) {S : List (List Int)} {W : List S47} (h : RD S W) (hk : 1070 ≤ k) : portreeveref03_Flush.f k S W = some (dn S W, []) := by
  unfold portreeveref03_Flush.f
  have := rflush_l0 h 64 k 0 [] (by omega) (by simp) (by omega)
  rw [← fl_dn h]
  unfold fl
  rw [List.range_eq_range']
  simpa using this

theorem rcrash_l0 (ks : List Bool) (S : List (List Int)) (W : List S47) (h : RD S W) (hks : ks.length ≤ 1000) : ∀ (d k i : Nat) (out : List S47), i + d = W.length → out.length + d ≤ 1000 → Fit out → d + 1073 ≤ k → portreeveref03_Crash.l0 k ks (i : Int) S W S out = some (dn S (out ++ kp (ks.drop i) (W.drop i)), [])
  | 0, k, i, out, hd, ho, hfo, hk => by
    obtain ⟨k, rfl⟩ : ∃ m, k = m + 1 := ⟨k - 1, by omega⟩
    rw [portreeveref03_Crash.l0, if_neg (by omega), rflush k ⟨h.s64, h.s128, hfo, by omega⟩ (by omega), Option.bind_some, List.drop_eq_nil_of_le (by omega : W.length ≤ i)]
    simp [kp]
  | d + 1, k, i, out, hd, ho, hfo, hk => by
    obtain ⟨k, rfl⟩ : ∃ m, k = m + 1 := ⟨k - 1, by omega⟩
    have hi : i < W.length := by omega
    have hl := h.few
    have ih := fun out ho hfo => rcrash_l0 ks S W h hks d k (i + 1) out (by omega) ho hfo (by omega)
    rw [portreeveref03_Crash.l0, if_pos (by omega), w64 (by omega) (by omega), show ((i : Int) + 1) = ((i + 1 : Nat) : Int) by omega, List.drop_eq_getElem_cons hi, T_lt W i hi]
    by_cases hj : i < ks.length
    · rw [if_pos (by omega), if_pos (by omega), O_lt ks i hj, List.drop_eq_getElem_cons hj, kp]
      by_cases hb : ks[i] = true
      · rw [if_pos hb, if_pos hb, if_pos (by omega), ih _ (by rw [List.length_append, List.length_singleton]; omega) (by
          intro w hw
          rw [List.mem_append, List.mem_singleton] at hw
          rcases hw with hw | rfl
          · exact hfo w hw
          · exact h.fit.get i hi), List.append_assoc]
      · rw [if_neg hb, if_neg hb, ih out (by omega) hfo, List.nil_append]
    · rw [if_neg (by omega), ih out (by omega) hfo, List.drop_eq_nil_of_le (by omega : ks.length ≤ i), List.drop_eq_nil_of_le (by omega : ks.length ≤ i + 1), kp_nil, kp_nil]
theorem rcrash (k : Nat) {S : List (List Int)} {W : List S47} (h : RD S W) (ks : List Bool) (hks : ks.length ≤ 1000) (hk : 2100 ≤ k) : portreeveref03_Crash.f k S W ks = some (dn S (kp ks W), []) := by
  have := h.few
  unfold portreeveref03_Crash.f
  have := rcrash_l0 ks S W h hks W.length k 0 [] (by omega) (by simpa using h.few) (by intro w hw; simp at hw) (by omega)
  simpa using this

/-! writes -/
theorem write_own (S : List (List Int)) (W : List S47) (a : Int) (b : List Int) (hW : W.length ≤ 10000) (hb : b.length ≤ 1000) : disk_Write.f S W a b = some (if 0 ≤ a ∧ a ≤ 63 ∧ b.length = 128 then (S, W ++ [⟨a, b⟩], 0) else (S, W, 1)) := by
  unfold disk_Write.f disk_isSector.f
  by_cases h0 : 0 ≤ a
  · rw [if_pos h0]
    by_cases h1 : a < 64
    · rw [if_pos h1, Option.bind_some]
      by_cases h2 : b.length = 128
      · rw [if_pos (by simp; omega), own_own b (by omega), Option.bind_some, if_pos (by omega), if_pos ⟨h0, by omega, h2⟩]
      · rw [if_neg (by simp; omega), if_neg (by omega)]
    · rw [if_neg h1, Option.bind_some, if_neg (by simp), if_neg (by omega)]
  · rw [if_neg h0, Option.bind_some, if_neg (by simp), if_neg (by omega)]
theorem rwrite (S : List (List Int)) (W : List S47) (a : Int) (b : List Int) (hW : W.length ≤ 10000) : portreeveref03_Write.f S W a b = some (if 0 ≤ a ∧ a ≤ 63 ∧ b.length = 128 then (S, W ++ [⟨a, b⟩], 0) else (S, W, 1)) := by
  unfold portreeveref03_Write.f
  by_cases h0 : a < 0
  · rw [if_pos h0, if_neg (by omega)]
  · by_cases h1 : a > 63
    · rw [if_neg h0, if_pos h1, if_neg (by omega)]
    · by_cases h2 : b.length = 128
      · rw [if_neg h0, if_neg h1, if_pos (by omega), Option.bind_some, if_pos (by simp only [List.length_nil]; omega), Option.bind_some, List.nil_append, if_pos (by omega), if_pos (by omega)]
      · rw [if_neg h0, if_neg h1, if_neg (by omega), if_neg (by omega)]
end Go.Proofs.Ytnhfhepakimncaa.Pure
