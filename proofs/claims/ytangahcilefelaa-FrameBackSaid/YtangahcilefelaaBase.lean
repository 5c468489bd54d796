/- What the functions of frames compute, over plain numbers and rows. -/
import Derived.Test.YtangahcilefelaaQx0
import Derived.Test.YtangahcilefelaaQx1
import Derived.Test.YtangahcilefelaaQx4
import Derived.Test.YtangahcilefelaaQx5
import Derived.Test.YtangahcilefelaaQx6
import Derived.Test.YtangahcilefelaaQx9
import Derived.Test.YtangahcilefelaaQx12
import Derived.Test.YtangahcilefelaaPureKit
import Derived.Test.YtangahcilefelaaCrc
import Derived.Test.YtangahcilefelaaFcs
import Derived.Test.YtangahcilefelaaRow
import Derived.Lib.Bytes
namespace Go.Proofs.Ytangahcilefelaa.Pure
set_option linter.unusedVariables false
open Go Go.RowKit Go.Proofs.Ytangahcilefelaa.Q Go.Proofs.YtangahcilefelaaK Go.Proofs.YtangahcilefelaaCrc Go.Proofs.YtangahcilefelaaW.PrintWords Go.Proofs.YtangahcilefelaaW.PrintLast Go.Proofs.YtangahcilefelaaW.PrintMore

theorem bytes_inj : ∀ {l m : List Int}, B l → B m → (l.map fun n => UInt8.ofNat n.toNat) = (m.map fun n => UInt8.ofNat n.toNat) → l = m
  | [], [], _, _, _ => rfl
  | [], _ :: _, _, _, h => by simp at h
  | _ :: _, [], _, _, h => by simp at h
  | a :: l, b :: m, hl, hm, h => by
    simp only [List.map_cons, List.cons.injEq] at h
    have ha := hl a (by simp)
    have hb := hm b (by simp)
    have h1 := congrArg UInt8.toNat h.1
    simp only [UInt8.toNat_ofNat'] at h1
    rw [Nat.mod_eq_of_lt (by omega), Nat.mod_eq_of_lt (by omega)] at h1
    rw [bytes_inj (fun c hc => hl c (List.mem_cons_of_mem _ hc)) (fun c hc => hm c (List.mem_cons_of_mem _ hc)) h.2, show a = b by omega]
theorem equal_own (l m : List Int) (hl : B l) (hm : B m) : bytes_Equal.f l m = some (decide (l = m)) := by
  unfold bytes_Equal.f
  congr 1
  rw [Lib.strOfNums_toList, Lib.strOfNums_toList, Bool.eq_iff_iff]
  simp only [beq_iff_eq, decide_eq_true_eq]
  exact ⟨fun h => bytes_inj hl hm h, fun h => by rw [h]⟩

/-- May it be a protocol's number? -/
def ok (p : Int) : Bool := decide (p % 2 = 1 ∧ p / 256 % 2 = 0 ∧ p ≠ 255)
theorem low16 {p : Int} (h : 0 ≤ p ∧ p ≤ 65535) : Go.bits .and .u16 p 1 = p % 2 := by
  obtain ⟨n, rfl⟩ : ∃ n : Nat, p = n := ⟨p.toNat, by omega⟩
  rw [show (1 : Int) = ((1 : Nat) : Int) from rfl, and16 n 1 (by omega) (by omega), Nat.and_one_is_mod]
  omega
theorem low8 {p : Int} (h : 0 ≤ p ∧ p ≤ 255) : Go.bits .and .u8 p 1 = p % 2 := by
  obtain ⟨n, rfl⟩ : ∃ n : Nat, p = n := ⟨p.toNat, by omega⟩
  rw [show (1 : Int) = ((1 : Nat) : Int) from rfl, (bits_nat .u8 8 (by decide) wr_u8 n 1 (by omega) (by omega)).1, Nat.and_one_is_mod]
  omega
theorem proto_own {p : Int} (h : 0 ≤ p ∧ p ≤ 65535) : frame_Proto.f p = some (ok p) := by
  unfold frame_Proto.f ok
  rw [low16 h, low16 (p := p / 256) (by omega)]
  by_cases h1 : p % 2 = 1
  · rw [if_pos h1]
    by_cases h2 : p / 256 % 2 = 0
    · rw [if_pos h2]
      by_cases h3 : p = 255 <;> simp [h1, h2, h3]
    · rw [if_neg h2]
      simp [h2]
  · rw [if_neg h1]
    simp [h1]

theorem concat_own (k : Nat) (h l : List Int) (hh : h.length ≤ 10) (hl : l.length ≤ 1000000) (hk : 10 ≤ k) : slices_Concat_byte_byte.f k [h, l] = some (h ++ l) := by
  obtain ⟨k, rfl⟩ : ∃ m, k = m + 8 := ⟨k - 8, by omega⟩
  have e0 : rd_L1 [h, l] 0 = h := rfl
  have e1 : rd_L1 [h, l] 1 = l := rfl
  have w1 : wrap64 ((0 : Int) + 1) = 1 := w64 (by decide) (by decide)
  have w2 : wrap64 ((1 : Int) + 1) = 2 := w64 (by decide) (by decide)
  have w3 : wrap64 ((0 : Int) + (h.length : Int)) = h.length := by rw [w64 (by omega) (by omega)]; omega
  have w4 : wrap64 ((h.length : Int) + (l.length : Int)) = h.length + l.length := w64 (by omega) (by omega)
  have n2 : (([h, l] : List (List Int)).length : Int) = 2 := rfl
  unfold slices_Concat_byte_byte.f
  rw [n2]
  unfold slices_Concat_byte_byte.l0
  rw [if_pos (by decide), if_pos (by decide), if_pos (by rw [n2]; decide), e0, w3, if_neg (by omega), w1]
  unfold slices_Concat_byte_byte.l0
  rw [if_pos (by decide), if_pos (by decide), if_pos (by rw [n2]; decide), e1, w4, if_neg (by omega), w2]
  unfold slices_Concat_byte_byte.l0
  rw [if_neg (by decide), slices_Grow_byte_byte.f, if_pos ⟨rfl, by omega, by omega⟩, Option.bind_some, n2]
  unfold slices_Concat_byte_byte.l1
  rw [if_pos (by decide), if_pos (by decide), if_pos (by rw [n2]; decide), e0, if_pos (by simp; omega), w1]
  unfold slices_Concat_byte_byte.l1
  rw [if_pos (by decide), if_pos (by decide), if_pos (by rw [n2]; decide), e1, if_pos (by simp; omega), w2]
  unfold slices_Concat_byte_byte.l1
  rw [if_neg (by decide)]
  rfl

theorem head_length (hi lo : Int) (sh : Bool) : 1 ≤ (bytes_head hi lo sh).length ∧ (bytes_head hi lo sh).length ≤ 4 := by
  unfold bytes_head
  split
  · split <;> simp
  · simp
theorem head_B {hi lo : Int} (h : 0 ≤ hi ∧ hi ≤ 255) (h2 : 0 ≤ lo ∧ lo ≤ 255) (sh : Bool) : B (bytes_head hi lo sh) := by
  unfold bytes_head
  split
  · split <;> (intro c hc; simp only [List.mem_cons, List.not_mem_nil, or_false] at hc)
    · rw [hc]; exact h2
    · rcases hc with rfl | rfl <;> assumption
  · intro c hc
    simp only [List.mem_cons, List.not_mem_nil, or_false] at hc
    rcases hc with rfl | rfl | rfl | rfl <;> first | assumption | omega
/-- A frame's head and what it holds. -/
def plain (p : Int) (l : List Int) (a : Bool) : List Int := bytes_head (p / 256 % 256) (p % 256) (a && p != 49185) ++ l
theorem plain_length (p : Int) (l : List Int) (a : Bool) : l.length + 1 ≤ (plain p l a).length ∧ (plain p l a).length ≤ l.length + 4 := by
  have := head_length (p / 256 % 256) (p % 256) (a && p != 49185)
  unfold plain
  rw [List.length_append]
  omega
theorem plain_B {p : Int} {l : List Int} (h : 0 ≤ p ∧ p ≤ 65535) (hB : B l) (a : Bool) : B (plain p l a) := B_append (head_B (by omega) (by omega) _) hB
theorem bytes_own (k : Nat) (p : Int) (l : List Int) (a : Bool) (h : 0 ≤ p ∧ p ≤ 65535) (hB : B l) (hk : 1600 ≤ k) :
    frame_Bytes.f k p l a = some (if ok p = true ∧ l.length ≤ 1500 then (put (plain p l a), 0) else ([], 1)) := by
  unfold frame_Bytes.f
  rw [proto_own h, Option.bind_some]
  by_cases h1 : ok p = true
  · rw [if_pos h1]
    by_cases h2 : l.length ≤ 1500
    · have hpl := plain_length p l a
      rw [if_neg (by omega), concat_own k _ l (by have := head_length (p / 256 % 256) (p % 256) (a && p != 49185); omega) (by omega) (by omega), Option.bind_some]
      rw [show bytes_head (p / 256 % 256) (p % 256) (a && p != 49185) ++ l = plain p l a from rfl, put_own k _ (plain_B h hB a) (by omega) (by omega), Option.bind_some, if_pos ⟨h1, h2⟩]
    · rw [if_pos (by omega), if_neg (by omega)]
  · rw [if_neg h1, if_neg (fun q => h1 q.1)]

/-! Reading. -/
def trim (l : List Int) : List Int := if l.take 2 = [255, 3] then l.drop 2 else l
theorem trim_own (l : List Int) (hB : B l) : bytes_TrimPrefix.f l [255, 3] = some (trim l) := by
  unfold bytes_TrimPrefix.f bytes_HasPrefix.f trim
  have n2 : (([255, 3] : List Int).length : Int) = 2 := rfl
  rw [n2]
  by_cases h : l.length ≥ 2
  · rw [if_pos (by omega), if_pos (by decide), if_pos (by omega), show ((2 : Int)).toNat = 2 from rfl, equal_own _ _ (B_take 2 hB) (by intro c hc; simp only [List.mem_cons, List.not_mem_nil, or_false] at hc; omega), Option.bind_some, Option.bind_some]
    by_cases h1 : l.take 2 = [255, 3]
    · rw [if_pos (decide_eq_true h1), if_pos (by decide), if_pos (by omega), if_pos h1]
    · rw [if_neg (by simp [h1]), if_neg h1]
  · have h1 : ¬ l.take 2 = [255, 3] := fun q => by
      have := congrArg List.length q
      simp only [List.length_take, List.length_cons, List.length_nil] at this
      omega
    rw [if_neg (by omega), Option.bind_some, if_neg (by simp), if_neg h1]
theorem trim_B {l : List Int} (h : B l) : B (trim l) := by
  unfold trim
  split
  · exact B_drop 2 h
  · exact h
theorem trim_length (l : List Int) : (trim l).length ≤ l.length := by
  unfold trim
  split
  · rw [List.length_drop]; omega
  · omega
/-- A protocol's number, and what stands behind it. -/
def tell (p : Int) (l : List Int) : Int × List Int × Int := if ok p = true then (if l.length ≤ 1500 then (p, l, 0) else (0, [], 4)) else (0, [], 2)
def body : List Int → Int × List Int × Int
  | [] => (0, [], 2)
  | c :: t => if c % 2 = 1 then tell c t else match t with
    | [] => (0, [], 2)
    | d :: u => tell (c * 256 + d) u
theorem body_odd {c : Int} (t : List Int) (h : c % 2 = 1) : body (c :: t) = tell c t := by
  show (if c % 2 = 1 then tell c t else _) = _
  rw [if_pos h]
theorem body_one {c : Int} (h : ¬ c % 2 = 1) : body [c] = (0, [], 2) := by
  show (if c % 2 = 1 then tell c [] else (0, [], 2)) = _
  rw [if_neg h]
theorem body_two {c : Int} (d : Int) (u : List Int) (h : ¬ c % 2 = 1) : body (c :: d :: u) = tell (c * 256 + d) u := by
  show (if c % 2 = 1 then tell c (d :: u) else tell (c * 256 + d) u) = _
  rw [if_neg h]
theorem or8 {a b : Int} (ha : 0 ≤ a ∧ a ≤ 255) (hb : 0 ≤ b ∧ b ≤ 255) : Go.bits .or .u16 (a * 256) b = a * 256 + b := by
  obtain ⟨n, rfl⟩ : ∃ n : Nat, a = n := ⟨a.toNat, by omega⟩
  obtain ⟨m, rfl⟩ : ∃ m : Nat, b = m := ⟨b.toNat, by omega⟩
  have := (bits_nat .u16 16 (by decide) wr_u16 (n * 256) m (by omega) (by omega)).2
  rw [show ((n : Int) * 256) = ((n * 256 : Nat) : Int) by omega, this]
  have h2 : n * 256 ||| m = n * 256 + m := by
    have := Nat.shiftLeft_add_eq_or_of_lt (i := 8) (b := m) (by omega) n
    rw [Nat.shiftLeft_eq] at this
    simpa using this.symm
  rw [h2]
  omega
theorem read_end (k : Nat) (t : List Int) (x5 : Nat) (p : Int) (y : List Int) (n : Int) (hp : 0 ≤ p ∧ p ≤ 65535) (h5 : x5 ≤ t.length) (hl : t.length ≤ 1000000) (hn : n = y.length) (hk : 1 ≤ k) :
    frame_Read.l0 k t x5 p y n n = some (tell p (t.drop x5)) := by
  obtain ⟨k, rfl⟩ : ∃ m, k = m + 1 := ⟨k - 1, by omega⟩
  rw [frame_Read.l0]
  unfold tell
  rw [if_neg (by omega), proto_own hp, Option.bind_some]
  by_cases h1 : ok p = true
  · rw [if_pos h1, if_pos h1, w64 (by omega) (by omega), List.length_drop]
    by_cases h2 : t.length - x5 ≤ 1500
    · rw [if_neg (by omega), if_pos (by omega), if_pos (by omega), if_pos h2, Int.toNat_natCast]
    · rw [if_pos (by omega), if_neg h2]
  · rw [if_neg h1, if_neg h1]
theorem read_j1 (k : Nat) (t : List Int) (hB : B t) (hl : t.length ≤ 1000000) (hk : 6 ≤ k) (x5 : Nat) (h5 : x5 = 1 ∨ x5 = 2) (hx : ∀ c u, t = c :: u → (x5 = 1 ↔ c % 2 = 1)) (h0 : t = [] → x5 = 2) : frame_Read.j1 k t x5 = some (body t) := by
  obtain ⟨k, rfl⟩ : ∃ m, k = m + 1 := ⟨k - 1, by omega⟩
  rw [frame_Read.j1]
  obtain ⟨k, rfl⟩ : ∃ m, k = m + 1 := ⟨k - 1, by omega⟩
  have or0 : ∀ c : Int, 0 ≤ c ∧ c ≤ 255 → Go.bits .or .u16 (IntKind.u16.wrap ((0 : Int) * 256)) (IntKind.u16.wrap c) = c := fun c hc => by
    rw [wr_u16 c hc.1 (by omega), show IntKind.u16.wrap ((0 : Int) * 256) = (0 : Int) * 256 by decide, or8 (by omega) hc]
    omega
  have w1 : wrap64 ((0 : Int) + 1) = 1 := w64 (by decide) (by decide)
  have w2 : wrap64 ((1 : Int) + 1) = 2 := w64 (by decide) (by decide)
  match t, hB, hl, hx, h0 with
  | [], _, _, _, h0 =>
    rw [h0 rfl, if_pos (by decide)]
    rfl
  | c :: u, hB, hl, hx, _ =>
    have hc := hB c (by simp)
    have := hx c u rfl
    by_cases h1 : x5 = 1
    · subst h1
      have hcl : (c :: u).length = u.length + 1 := rfl
      rw [if_neg (by omega), if_pos (by decide), if_pos (by omega), Option.bind_some]
      rw [show (c :: u).take ((1 : Nat) : Int).toNat = [c] from rfl, show (([c] : List Int).length : Int) = 1 from rfl]
      rw [frame_Read.l0]
      rw [if_pos (by decide), if_pos (by decide), if_pos (by simp), show rd [c] 0 = c from rfl, or0 c hc, w1, read_end k (c :: u) 1 c [c] 1 (by omega) (by simp) hl rfl (by omega)]
      simp [body, this.1 rfl]
    · have h2 : x5 = 2 := by omega
      subst h2
      have hodd : ¬ c % 2 = 1 := fun q => h1 (this.2 q)
      match u, hB, hl with
      | [], _, _ =>
        rw [if_pos (by simp)]
        simp [body, hodd]
      | d :: u, hB, hl =>
        have hd := hB d (by simp)
        rw [if_neg (by simp; omega), if_pos (by decide), if_pos (by simp; omega), Option.bind_some]
        rw [show (c :: d :: u).take ((2 : Nat) : Int).toNat = [c, d] from rfl, show (([c, d] : List Int).length : Int) = 2 from rfl]
        rw [frame_Read.l0]
        rw [if_pos (by decide), if_pos (by decide), if_pos (by simp), show rd [c, d] 0 = c from rfl, or0 c hc, w1]
        obtain ⟨k, rfl⟩ : ∃ m, k = m + 1 := ⟨k - 1, by omega⟩
        rw [frame_Read.l0]
        rw [if_pos (by decide), if_pos (by decide), if_pos (by simp), show rd [c, d] 1 = d from rfl, wr_u16 d hd.1 (by omega), wr_u16 (c * 256) (by omega) (by omega), or8 hc hd, w2, read_end k (c :: d :: u) 2 (c * 256 + d) [c, d] 2 (by omega) (by simp) hl rfl (by omega)]
        simp [body, hodd]
theorem read_own (k : Nat) (l : List Int) (hB : B l) (hl : l.length ≤ 1000000) (hk : l.length + 20 ≤ k) :
    frame_Read.f k l = some (if l.length < 2 then (0, [], 2) else if on 65535 (toN l) = 61624 then body (trim (l.take (l.length - 2))) else (0, [], 3)) := by
  unfold frame_Read.f
  rw [cut_own k l hB (by omega) (by omega), Option.bind_some]
  by_cases h1 : l.length < 2
  · rw [if_pos h1, if_pos h1, if_neg (by decide)]
  · rw [if_neg h1, if_neg h1]
    by_cases h2 : on 65535 (toN l) = 61624
    · rw [if_pos h2, if_pos h2, if_pos rfl, frame_ahead.f, Option.bind_some, trim_own _ (B_take _ hB), Option.bind_some]
      have hB2 : B (trim (l.take (l.length - 2))) := trim_B (B_take _ hB)
      have hl2 : (trim (l.take (l.length - 2))).length ≤ 1000000 := by
        have := trim_length (l.take (l.length - 2))
        rw [List.length_take] at this
        omega
      generalize trim (l.take (l.length - 2)) = t at hB2 hl2
      obtain ⟨k, rfl⟩ : ∃ m, k = m + 1 := ⟨k - 1, by omega⟩
      match t, hB2, hl2 with
      | [], hB2, hl2 =>
        rw [if_neg (by decide)]
        rw [frame_Read.j0]
        rw [if_neg (by decide)]
        exact read_j1 k [] hB2 hl2 (by omega) 2 (.inr rfl) (fun c u q => by cases q) (fun _ => rfl)
      | c :: u, hB2, hl2 =>
        have hc := hB2 c (by simp)
        have hcl : (c :: u).length = u.length + 1 := rfl
        rw [if_pos (by omega), if_pos (by omega), show rd (c :: u) 0 = c from rfl, low8 hc]
        rw [frame_Read.j0]
        by_cases h3 : c % 2 = 1
        · rw [if_pos (by simp [h3])]
          exact read_j1 k _ hB2 hl2 (by omega) 1 (.inl rfl) (fun c' u' q => by injection q with q1 q2; subst q1; simp [h3]) (fun q => by cases q)
        · rw [if_neg (by simp [h3])]
          exact read_j1 k _ hB2 hl2 (by omega) 2 (.inr rfl) (fun c' u' q => by injection q with q1 q2; subst q1; simp [h3]) (fun q => by cases q)
    · rw [if_neg h2, if_neg h2, if_neg (by decide)]

/-- What is written reads as it was. -/
theorem body_back (p : Int) (l : List Int) (a : Bool) (h : 0 ≤ p ∧ p ≤ 65535) (hp : ok p = true) (hl : l.length ≤ 1500) : body (trim (plain p l a)) = (p, l, 0) := by
  have ho := hp
  simp only [ok, decide_eq_true_eq] at hp
  obtain ⟨h1, h2, h3⟩ := hp
  have t1 : tell p l = (p, l, 0) := by unfold tell; rw [if_pos ho, if_pos hl]
  have e1 : p / 256 % 256 = p / 256 := by omega
  have two : body ((p / 256) :: (p % 256) :: l) = (p, l, 0) := by
    rw [body_two _ _ (by omega), show p / 256 * 256 + p % 256 = p by omega, t1]
  unfold plain bytes_head
  rw [e1]
  by_cases hs : (a && p != 49185) = true
  · rw [if_pos hs]
    by_cases hz : (p / 256 == 0) = true
    · rw [if_pos hz]
      have hz' : p / 256 = 0 := by simpa using hz
      have e2 : p % 256 = p := by omega
      have ht : trim ([p % 256] ++ l) = p :: l := by
        unfold trim
        rw [if_neg (fun q => by simp only [List.singleton_append, List.take_succ_cons, List.cons.injEq] at q; omega), e2]
        rfl
      rw [ht, body_odd _ h1, t1]
    · rw [if_neg hz]
      have ht : trim ([p / 256, p % 256] ++ l) = (p / 256) :: (p % 256) :: l := by
        unfold trim
        rw [if_neg (fun q => by simp only [List.cons_append, List.nil_append, List.take_succ_cons, List.cons.injEq] at q; omega)]
        rfl
      rw [ht, two]
  · rw [if_neg hs]
    have ht : trim ([255, 3, p / 256, p % 256] ++ l) = (p / 256) :: (p % 256) :: l := by
      unfold trim
      rw [show ([255, 3, p / 256, p % 256] ++ l).take 2 = [255, 3] from rfl, if_pos rfl]
      rfl
    rw [ht, two]
theorem put_take (l : List Int) : (put l).take ((put l).length - 2) = l := by
  rw [put_length]
  unfold put
  simp
theorem read_back (k : Nat) (p : Int) (l : List Int) (a : Bool) (h : 0 ≤ p ∧ p ≤ 65535) (hp : ok p = true) (hB : B l) (hl : l.length ≤ 1500) (hk : 1600 ≤ k) : frame_Read.f k (put (plain p l a)) = some (p, l, 0) := by
  have hpl := plain_length p l a
  have hBp := plain_B h hB a
  have hpp := put_length (plain p l a)
  rw [read_own k _ (B_put hBp) (by omega) (by omega), if_neg (by omega), if_pos (good_put hBp), put_take, body_back p l a h hp hl]
/-- What is read is a frame, or nothing. -/
theorem tell_facts {p q e : Int} {l i : List Int} (h : tell p l = (q, i, e)) : (e = 0 ∧ q = p ∧ i = l ∧ ok p = true ∧ l.length ≤ 1500) ∨ (q = 0 ∧ i = [] ∧ (e = 2 ∨ e = 4)) := by
  unfold tell at h
  split at h
  · split at h
    · simp only [Prod.mk.injEq] at h
      obtain ⟨rfl, rfl, rfl⟩ := h
      left
      refine ⟨rfl, rfl, rfl, ?_, ?_⟩ <;> assumption
    · simp only [Prod.mk.injEq] at h
      obtain ⟨rfl, rfl, rfl⟩ := h
      exact .inr ⟨rfl, rfl, .inr rfl⟩
  · simp only [Prod.mk.injEq] at h
    obtain ⟨rfl, rfl, rfl⟩ := h
    exact .inr ⟨rfl, rfl, .inl rfl⟩
theorem body_facts {t i : List Int} {q e : Int} (hB : B t) (h : body t = (q, i, e)) : (e = 0 ∧ (0 ≤ q ∧ q ≤ 65535) ∧ ok q = true ∧ i.length ≤ 1500 ∧ B i) ∨ (q = 0 ∧ i = [] ∧ (e = 2 ∨ e = 4)) := by
  have nil : ∀ {q e : Int} {i : List Int}, ((0, [], 2) : Int × List Int × Int) = (q, i, e) → q = 0 ∧ i = [] ∧ (e = 2 ∨ e = 4) := fun h => by
    simp only [Prod.mk.injEq] at h
    obtain ⟨rfl, rfl, rfl⟩ := h
    exact ⟨rfl, rfl, .inl rfl⟩
  match t, hB, h with
  | [], _, h => exact .inr (nil h)
  | c :: u, hB, h =>
    have hc := hB c (by simp)
    by_cases h0 : c % 2 = 1
    · rw [body_odd _ h0] at h
      rcases tell_facts h with ⟨rfl, rfl, rfl, h1, h2⟩ | h
      · exact .inl ⟨rfl, by omega, h1, h2, fun x hx => hB x (by simp [hx])⟩
      · exact .inr h
    · match u, hB, h with
      | [], _, h =>
        rw [body_one h0] at h
        exact .inr (nil h)
      | d :: u, hB, h =>
        have hd := hB d (by simp)
        rw [body_two _ _ h0] at h
        rcases tell_facts h with ⟨rfl, rfl, rfl, h1, h2⟩ | h
        · exact .inl ⟨rfl, by omega, h1, h2, fun x hx => hB x (by simp [hx])⟩
        · exact .inr h
theorem same_own (k : Nat) (p : Int) (l : List Int) (q : Int) (m : List Int) (hl : l.length ≤ 1000000) (hk : l.length < k) : portreeveref08_Same.f k p l q m = some (decide (l = m ∧ p = q)) := by
  unfold portreeveref08_Same.f
  rw [row k l m (by omega) hk, Option.bind_some]
  by_cases h : l = m
  · rw [if_pos (decide_eq_true h)]
    by_cases h2 : p = q <;> simp [h, h2]
  · rw [if_neg (by simp [h])]
    simp [h]
end Go.Proofs.Ytangahcilefelaa.Pure
