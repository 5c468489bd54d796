-- written by this session's own program (wip/tools/myprint.py), over the kit's print
import Derived.Test.YtocjadhpaecpaaaQx0
import Derived.Test.YtocjadhpaecpaaaQx7
namespace Go.Proofs.Ytocjadhpaecpaaa.Q
open Go.RowKit Go.Proofs.YtocjadhpaecpaaaW.PrintWords Go.Proofs.YtocjadhpaecpaaaW.PrintLast Go.Proofs.YtocjadhpaecpaaaW.PrintMore
open Go.Proofs.YtocjadhpaecpaaaV
attribute [local go_sem] max2_int min2_int max_two min_two max_three min_three max_four min_four   -- for this text's walks alone
set_option linter.unusedVariables false
set_option linter.unusedSimpArgs false

/-! ### book_May: function 33 -/
def book_May.j0 : Nat → Bool → Int → Int → Int → Int → ByteArray → Int → Int → Int → Int → Option (Bool)
 | 0, _, _, _, _, _, _, _, _, _, _ => none
 | k + 1, x3, x107000, x107001, x107002, x107003, x107004, x107005, x107006, x107007, x107008 => if x3 = true then ((book_between.f x107001 1000000000).bind fun t107 => (if t107 = true then ((book_between.f x107002 7).bind fun t108 => (if t108 = true then ((book_between.f x107008 1000000000).bind fun t109 => (if t109 = true then ((book_between.f x107007 255).bind fun t110 => (if t110 = true then ((book_isUser.f x107004).bind fun t111 => (some t111)) else (some false))) else (some false))) else (some false))) else (some false))) else (some false)
def book_May.f (k : Nat) (a0_0 : Int) (a0_1 : Int) (a0_2 : Int) (a0_3 : Int) (a0_4 : ByteArray) (a0_5 : Int) (a0_6 : Int) (a0_7 : Int) (a0_8 : Int) : Option (Bool) := if a0_0 ≥ 1 then (book_May.j0 k (decide (a0_0 ≤ 6)) a0_0 a0_1 a0_2 a0_3 a0_4 a0_5 a0_6 a0_7 a0_8) else (book_May.j0 k false a0_0 a0_1 a0_2 a0_3 a0_4 a0_5 a0_6 a0_7 a0_8)
theorem book_May.mono_l : ∀ k, (∀ y0 y1 y2 y3 y4 y5 y6 y7 y8 y9, LeO (book_May.j0 k y0 y1 y2 y3 y4 y5 y6 y7 y8 y9) (book_May.j0 (k + 1) y0 y1 y2 y3 y4 y5 y6 y7 y8 y9))
 | 0 => fun _ _ _ _ _ _ _ _ _ _ r h => by simp [book_May.j0] at h
 | k + 1 => by
  have ih0 := book_May.mono_l k
  ·intro y0 y1 y2 y3 y4 y5 y6 y7 y8 y9
   unfold book_May.j0
   repeat' first
   | (with_reducible exact ih0 _ _ _ _ _ _ _ _ _ _)
   | (with_reducible exact LeO.refl _)
   | (with_reducible exact LeO.none _)
   | (with_reducible refine LeO.ite ?_ ?_)
   | (with_reducible refine LeO.bind ?_ (fun _ => ?_))
   | exact ih0 _ _ _ _ _ _ _ _ _ _
   | exact LeO.none _
   | refine LeO.ite ?_ ?_
   | refine LeO.bind ?_ (fun _ => ?_)
theorem book_May.mono : ∀ a0 a1 a2 a3 a4 a5 a6 a7 a8 k, LeO (book_May.f k a0 a1 a2 a3 a4 a5 a6 a7 a8) (book_May.f (k + 1) a0 a1 a2 a3 a4 a5 a6 a7 a8) := by
 intro a0 a1 a2 a3 a4 a5 a6 a7 a8 k
 have ih0 := book_May.mono_l k
 unfold book_May.f
 repeat' first
   | (with_reducible exact ih0 _ _ _ _ _ _ _ _ _ _)
   | (with_reducible exact LeO.refl _)
   | (with_reducible exact LeO.none _)
   | (with_reducible refine LeO.ite ?_ ?_)
   | (with_reducible refine LeO.bind ?_ (fun _ => ?_))
   | exact ih0 _ _ _ _ _ _ _ _ _ _
   | exact LeO.none _
   | refine LeO.ite ?_ ?_
   | refine LeO.bind ?_ (fun _ => ?_)
set_option maxHeartbeats 8000000 in
set_option maxRecDepth 100000 in
theorem book_May.calls (k : Nat) (ag : Int) (ah : Int) (af : Int) (am : Int) (ab : ByteArray) (an : Int) (ao : Int) (ac : Int) (ae : Int) (r : Bool) (w : World) (h : book_May.f k ag ah af am ab an ao ac ae = some r) :
  Calls Try.prog 33 #[.agg #[.int .i64 ag, .int .i64 ah, .int .i64 af, .int .u32 am, .string ab, .int .u64 an, .int .u64 ao, .int .i64 ac, .int .i64 ae]] w fun e w' => e = .returned (.bool r) ∧ Below w.heap.size w w' := by
 have hu41 := Try.underlying41
 have HB := Aside0.mk (Below.refl w.heap.size w)
 have H : (if ag ≥ 1 then (book_May.j0 k (decide (ag ≤ 6)) ag ah af am ab an ao ac ae) else (book_May.j0 k false ag ah af am ab an ao ac ae)) = some r := h
 clear h
 have HC2 := Aside0.mk H
 clear H
 go_enter Try.func33, Try.ntmps33
 go_upto_region 1 with (first | ((with_reducible refine gate_dst (N := 1) rfl ?_); refine box_event ?hg (N := 1) ?hd (cs := #[.int .i64 ag, .int .i64 ah, .int .i64 af, .int .u32 am, .string ab, .int .u64 an, .int .u64 ao, .int .i64 ac, .int .i64 ae]) (t := 41) ?hr ?_; (case hd => rfl); (case hg => rfl); (case hr => first | (go_simp; done) | (go_simp; rfl)); intro aq hg w3 hbox hb; have n0_ := Aside0.mk (below_step (zH HB.out) hb); have n1_ := Aside0.mk (hbox); have n2_ := Aside0.mk ((by rw [hg]; exact (below_size (zH HB.out)) : w.heap.size ≤ aq)); have n3_ := Aside0.mk ((by rw [hg]; exact (below_size (zH HB.out)) : w.heap.size ≤ aq)); clear HB; have HB := n0_; have ai := n1_; have cR := n2_; have ak := n3_; clear n0_ n1_ n2_ n3_; clear hb hbox hg))
 (try simp only [Act.put, sT, s0, s1])
 go_cut [3] (fun v3 wc => ∃ (kq : Nat) (ar : Bool), v3 = .bool ar ∧ Aside0 (book_May.j0 kq ar ag ah af am ab an ao ac ae = some r) ∧ Aside0 (kq ≤ k) ∧ Aside0 (wc.heap[aq]? = some (.cells #[.int .i64 ag, .int .i64 ah, .int .i64 af, .int .u32 am, .string ab, .int .u64 an, .int .u64 ao, .int .i64 ac, .int .i64 ae] 41 (0, 0))) ∧ Aside0 (Below w.heap.size w wc))
 case first =>
  have H := HC2.out
  clear HC2
  by_cases c4 : ag ≥ 1
  ·rw [if_pos c4] at H
   have ap : decide (1 ≤ ag) = true := decide_eq_true c4
   clear c4
   (first | rw [ap] | (simp only [i64_w, i32_w]; rw [ap]) | skip)
   have H' := Aside0.mk H
   clear H
   obtain ⟨aw, ax, ay, az, aA, aB, aC, aD, aE, aF, aG, aH, aI, aJ, aK, aL, aM, aN⟩ := bk9 ai.out
   go_wp2
   go_meet
   case rel => exact ⟨_, (decide (ag ≤ 6)), (by first | rfl | (simp; done) | (simp [*]; done)), H', ⟨by first | omega | exact Nat.le_refl _⟩, ⟨zB ai.out⟩, ⟨by repeat (first | (with_reducible first | exact HB.out | apply pA | apply pN | apply pD | refine pS ?_ ak.out) | exact HB.out)⟩⟩
  ·rw [if_neg c4] at H
   have ap : decide (1 ≤ ag) = false := decide_eq_false c4
   clear c4
   (first | rw [ap] | (simp only [i64_w, i32_w]; rw [ap]) | skip)
   have H' := Aside0.mk H
   clear H
   obtain ⟨aO, aP, aQ, aR, aS, aT, aU, aV, aW, aX, aY, aZ, a9, ba, bb, bc, bd, be⟩ := bk9 ai.out
   go_wp2
   go_meet
   case rel => exact ⟨_, (false), (by first | rfl | (simp; done) | (simp [*]; done)), H', ⟨by first | omega | exact Nat.le_refl _⟩, ⟨zB ai.out⟩, ⟨by repeat (first | (with_reducible first | exact HB.out | apply pA | apply pN | apply pD | refine pS ?_ ak.out) | exact HB.out)⟩⟩
 case rest =>
  clear HC2
  try clear p2
  try clear c3
  try clear c4
  try clear ap
  try clear aw
  try clear ax
  try clear ay
  try clear az
  try clear aA
  try clear aB
  try clear aC
  try clear aD
  try clear aE
  try clear aO
  try clear aP
  try clear aQ
  try clear aR
  try clear aS
  try clear aT
  try clear aU
  try clear aV
  try clear aW
  try clear aF
  try clear aG
  try clear aH
  try clear aI
  try clear aJ
  try clear aK
  try clear aL
  try clear aM
  try clear aN
  try clear aX
  try clear aY
  try clear aZ
  try clear a9
  try clear ba
  try clear bb
  try clear bc
  try clear bd
  try clear be
  obtain ⟨kq, ar, rfl, HA, cS, ai, HB⟩ := hcut
  cases kq with
  | zero => exact absurd HA.out (by simp [book_May.j0])
  | succ cT =>
   have H := HA.out
   clear HA
   simp only [book_May.j0] at H
   by_cases c7 : ar = true
   ·subst c7
    have H1 : ((book_between.f ah 1000000000).bind fun au => (if au = true then ((book_between.f af 7).bind fun al => (if al = true then ((book_between.f ae 1000000000).bind fun aj => (if aj = true then ((book_between.f ac 255).bind fun ad => (if ad = true then ((book_isUser.f ab).bind fun aa => (some aa)) else (some false))) else (some false))) else (some false))) else (some false))) = some r := by rw [if_pos rfl] at H; exact H
    clear H
    have H := H1
    clear H1
    replace H := Option.bind_eq_some_iff.mp H
    obtain ⟨au, bk, H⟩ := H
    replace H : (if au = true then ((book_between.f af 7).bind fun al => (if al = true then ((book_between.f ae 1000000000).bind fun aj => (if aj = true then ((book_between.f ac 255).bind fun ad => (if ad = true then ((book_isUser.f ab).bind fun aa => (some aa)) else (some false))) else (some false))) else (some false))) else (some false)) = some r := H
    have A8 := Aside0.mk bk
    clear bk
    by_cases c9 : au = true
    ·subst c9
     have H1 : ((book_between.f af 7).bind fun al => (if al = true then ((book_between.f ae 1000000000).bind fun aj => (if aj = true then ((book_between.f ac 255).bind fun ad => (if ad = true then ((book_isUser.f ab).bind fun aa => (some aa)) else (some false))) else (some false))) else (some false))) = some r := by rw [if_pos rfl] at H; exact H
     clear H
     have H := H1
     clear H1
     replace H := Option.bind_eq_some_iff.mp H
     obtain ⟨al, bf, H⟩ := H
     replace H : (if al = true then ((book_between.f ae 1000000000).bind fun aj => (if aj = true then ((book_between.f ac 255).bind fun ad => (if ad = true then ((book_isUser.f ab).bind fun aa => (some aa)) else (some false))) else (some false))) else (some false)) = some r := H
     have av := Aside0.mk bf
     clear bf
     by_cases c11 : al = true
     ·subst c11
      have H1 : ((book_between.f ae 1000000000).bind fun aj => (if aj = true then ((book_between.f ac 255).bind fun ad => (if ad = true then ((book_isUser.f ab).bind fun aa => (some aa)) else (some false))) else (some false))) = some r := by rw [if_pos rfl] at H; exact H
      clear H
      have H := H1
      clear H1
      replace H := Option.bind_eq_some_iff.mp H
      obtain ⟨aj, bg, H⟩ := H
      replace H : (if aj = true then ((book_between.f ac 255).bind fun ad => (if ad = true then ((book_isUser.f ab).bind fun aa => (some aa)) else (some false))) else (some false)) = some r := H
      have bh := Aside0.mk bg
      clear bg
      by_cases c13 : aj = true
      ·subst c13
       have H1 : ((book_between.f ac 255).bind fun ad => (if ad = true then ((book_isUser.f ab).bind fun aa => (some aa)) else (some false))) = some r := by rw [if_pos rfl] at H; exact H
       clear H
       have H := H1
       clear H1
       replace H := Option.bind_eq_some_iff.mp H
       obtain ⟨ad, bi, H⟩ := H
       replace H : (if ad = true then ((book_isUser.f ab).bind fun aa => (some aa)) else (some false)) = some r := H
       have bl := Aside0.mk bi
       clear bi
       by_cases c15 : ad = true
       ·subst c15
        have H1 : ((book_isUser.f ab).bind fun aa => (some aa)) = some r := by rw [if_pos rfl] at H; exact H
        clear H
        have H := H1
        clear H1
        replace H := Option.bind_eq_some_iff.mp H
        obtain ⟨aa, bj, H⟩ := H
        replace H : (some aa) = some r := H
        have cQ := Aside0.mk bj
        clear bj
        obtain rfl := Option.some.inj H
        obtain ⟨bm, bn, bo, bp, bq, br, bs, bt, bu, bv, bw, bx, bz, bA, bB, bC, bD, bE⟩ := bk9 ai.out
        go_wp2_with (first | (go_at_call 38; (with_reducible refine (book_between.calls ah 1000000000 true _ A8.out).mono ?_); rintro e w' ⟨rfl, ⟨nd, rfl⟩⟩) | (go_at_call 38; (with_reducible refine (book_between.calls af 7 true _ av.out).mono ?_); rintro e w' ⟨rfl, ⟨nd, rfl⟩⟩) | (go_at_call 38; (with_reducible refine (book_between.calls ae 1000000000 true _ bh.out).mono ?_); rintro e w' ⟨rfl, ⟨nd, rfl⟩⟩) | (go_at_call 38; (with_reducible refine (book_between.calls ac 255 true _ bl.out).mono ?_); rintro e w' ⟨rfl, ⟨nd, rfl⟩⟩) | (go_at_call 39; (with_reducible refine (book_isUser.calls ab aa _ cQ.out).mono ?_); rintro e w' ⟨rfl, ⟨nd, rfl⟩⟩))
        go_ret
        exact ⟨by first | rfl | (simp [errW_none, errW_some] <;> rfl) | (simp [*, errW_none, errW_some] <;> rfl), by repeat (first | (with_reducible first | exact HB.out | apply pA | apply pN | apply pD | refine pS ?_ ak.out) | exact HB.out)⟩
       ·replace c15 := Bool.eq_false_iff.mpr c15
        subst c15
        have H1 : (some false) = some r := by rw [if_neg (show ¬ (false = true) by decide)] at H; exact H
        clear H
        have H := H1
        clear H1
        obtain rfl := Option.some.inj H
        obtain ⟨bF, bG, bH, bI, bJ, bK, bL, bM, bN, bO, bP, bQ, bR, bS, bT, bU, bV, bW⟩ := bk9 ai.out
        go_wp2_with (first | (go_at_call 38; (with_reducible refine (book_between.calls ah 1000000000 true _ A8.out).mono ?_); rintro e w' ⟨rfl, ⟨nd, rfl⟩⟩) | (go_at_call 38; (with_reducible refine (book_between.calls af 7 true _ av.out).mono ?_); rintro e w' ⟨rfl, ⟨nd, rfl⟩⟩) | (go_at_call 38; (with_reducible refine (book_between.calls ae 1000000000 true _ bh.out).mono ?_); rintro e w' ⟨rfl, ⟨nd, rfl⟩⟩) | (go_at_call 38; (with_reducible refine (book_between.calls ac 255 false _ bl.out).mono ?_); rintro e w' ⟨rfl, ⟨nd, rfl⟩⟩))
        go_ret
        exact ⟨by first | rfl | (simp [errW_none, errW_some] <;> rfl) | (simp [*, errW_none, errW_some] <;> rfl), by repeat (first | (with_reducible first | exact HB.out | apply pA | apply pN | apply pD | refine pS ?_ ak.out) | exact HB.out)⟩
      ·replace c13 := Bool.eq_false_iff.mpr c13
       subst c13
       have H1 : (some false) = some r := by rw [if_neg (show ¬ (false = true) by decide)] at H; exact H
       clear H
       have H := H1
       clear H1
       obtain rfl := Option.some.inj H
       obtain ⟨bX, bY, bZ, b0, b1, b2, b3, b4, b5, b6, b7, b8, b9, ca, cb, cc, cd, ce⟩ := bk9 ai.out
       go_wp2_with (first | (go_at_call 38; (with_reducible refine (book_between.calls ah 1000000000 true _ A8.out).mono ?_); rintro e w' ⟨rfl, ⟨nd, rfl⟩⟩) | (go_at_call 38; (with_reducible refine (book_between.calls af 7 true _ av.out).mono ?_); rintro e w' ⟨rfl, ⟨nd, rfl⟩⟩) | (go_at_call 38; (with_reducible refine (book_between.calls ae 1000000000 false _ bh.out).mono ?_); rintro e w' ⟨rfl, ⟨nd, rfl⟩⟩))
       go_ret
       exact ⟨by first | rfl | (simp [errW_none, errW_some] <;> rfl) | (simp [*, errW_none, errW_some] <;> rfl), by repeat (first | (with_reducible first | exact HB.out | apply pA | apply pN | apply pD | refine pS ?_ ak.out) | exact HB.out)⟩
     ·replace c11 := Bool.eq_false_iff.mpr c11
      subst c11
      have H1 : (some false) = some r := by rw [if_neg (show ¬ (false = true) by decide)] at H; exact H
      clear H
      have H := H1
      clear H1
      obtain rfl := Option.some.inj H
      obtain ⟨cf, cg, ch, ci, cj, ck, cl, cm, cn, co, cp, cq, cr, ct, cu, cv, cw, cx⟩ := bk9 ai.out
      go_wp2_with (first | (go_at_call 38; (with_reducible refine (book_between.calls ah 1000000000 true _ A8.out).mono ?_); rintro e w' ⟨rfl, ⟨nd, rfl⟩⟩) | (go_at_call 38; (with_reducible refine (book_between.calls af 7 false _ av.out).mono ?_); rintro e w' ⟨rfl, ⟨nd, rfl⟩⟩))
      go_ret
      exact ⟨by first | rfl | (simp [errW_none, errW_some] <;> rfl) | (simp [*, errW_none, errW_some] <;> rfl), by repeat (first | (with_reducible first | exact HB.out | apply pA | apply pN | apply pD | refine pS ?_ ak.out) | exact HB.out)⟩
    ·replace c9 := Bool.eq_false_iff.mpr c9
     subst c9
     have H1 : (some false) = some r := by rw [if_neg (show ¬ (false = true) by decide)] at H; exact H
     clear H
     have H := H1
     clear H1
     obtain rfl := Option.some.inj H
     obtain ⟨cy, cz, cA, cB, cC, cD, cE, cF, cG, cH, cI, cJ, cK, cL, cM, cN, cO, cP⟩ := bk9 ai.out
     go_wp2_with (first | (go_at_call 38; (with_reducible refine (book_between.calls ah 1000000000 false _ A8.out).mono ?_); rintro e w' ⟨rfl, ⟨nd, rfl⟩⟩))
     go_ret
     exact ⟨by first | rfl | (simp [errW_none, errW_some] <;> rfl) | (simp [*, errW_none, errW_some] <;> rfl), by repeat (first | (with_reducible first | exact HB.out | apply pA | apply pN | apply pD | refine pS ?_ ak.out) | exact HB.out)⟩
   ·replace c7 := Bool.eq_false_iff.mpr c7
    subst c7
    have H1 : (some false) = some r := by rw [if_neg (show ¬ (false = true) by decide)] at H; exact H
    clear H
    have H := H1
    clear H1
    obtain rfl := Option.some.inj H
    go_wp2
    go_ret
    exact ⟨by first | rfl | (simp [errW_none, errW_some] <;> rfl) | (simp [*, errW_none, errW_some] <;> rfl), by repeat (first | (with_reducible first | exact HB.out | apply pA | apply pN | apply pD | refine pS ?_ ak.out) | exact HB.out)⟩

/-! ### gate_may_1: function 32 -/
def gate_may_1.f (k : Nat) (a0_0 : Int) (a0_1 : Int) (a0_2 : Int) (a0_3 : Int) (a0_4 : ByteArray) (a0_5 : Int) (a0_6 : Int) (a0_7 : Int) (a0_8 : Int) : Option (Bool) := (book_May.f k a0_0 a0_1 a0_2 a0_3 a0_4 a0_5 a0_6 a0_7 a0_8).bind fun t113 => (some (!t113))
theorem gate_may_1.mono : ∀ a0 a1 a2 a3 a4 a5 a6 a7 a8 k, LeO (gate_may_1.f k a0 a1 a2 a3 a4 a5 a6 a7 a8) (gate_may_1.f (k + 1) a0 a1 a2 a3 a4 a5 a6 a7 a8) := by
 intro a0 a1 a2 a3 a4 a5 a6 a7 a8 k
 unfold gate_may_1.f
 repeat' first
   | (with_reducible exact book_May.mono _ _ _ _ _ _ _ _ _ _)
   | (with_reducible exact LeO.refl _)
   | (with_reducible exact LeO.none _)
   | (with_reducible refine LeO.ite ?_ ?_)
   | (with_reducible refine LeO.bind ?_ (fun _ => ?_))
   | exact book_May.mono _ _ _ _ _ _ _ _ _ _
   | exact LeO.none _
   | refine LeO.ite ?_ ?_
   | refine LeO.bind ?_ (fun _ => ?_)
set_option maxHeartbeats 8000000 in
set_option maxRecDepth 100000 in
theorem gate_may_1.calls (k : Nat) (aa : Int) (ab : Int) (ac : Int) (ad : Int) (ae : ByteArray) (af : Int) (ag : Int) (ah : Int) (ai : Int) (r : Bool) (w : World) (h : gate_may_1.f k aa ab ac ad ae af ag ah ai = some r) :
  Calls Try.prog 32 #[.agg #[.int .i64 aa, .int .i64 ab, .int .i64 ac, .int .u32 ad, .string ae, .int .u64 af, .int .u64 ag, .int .i64 ah, .int .i64 ai]] w fun e w' => e = .returned (.bool r) ∧ Below w.heap.size w w' := by
 have hu41 := Try.underlying41
 have HB := Aside0.mk (Below.refl w.heap.size w)
 have H : ((book_May.f k aa ab ac ad ae af ag ah ai).bind fun ak => (some (!ak))) = some r := h
 clear h
 replace H := Option.bind_eq_some_iff.mp H
 obtain ⟨ak, an, H⟩ := H
 replace H : (some (!ak)) = some r := H
 have A2 := Aside0.mk an
 clear an
 obtain rfl := Option.some.inj H
 go_enter Try.func32, Try.ntmps32
 go_wp2_with (first | ((with_reducible refine gate_dst (N := 1) rfl ?_); refine box_event ?hg (N := 1) ?hd (cs := #[.int .i64 aa, .int .i64 ab, .int .i64 ac, .int .u32 ad, .string ae, .int .u64 af, .int .u64 ag, .int .i64 ah, .int .i64 ai]) (t := 41) ?hr ?_; (case hd => rfl); (case hg => rfl); (case hr => first | (go_simp; done) | (go_simp; rfl)); intro al hg w3 hbox hb; have n0_ := Aside0.mk (below_step (zH HB.out) hb); have n1_ := Aside0.mk (hbox); have n2_ := Aside0.mk ((by rw [hg]; exact (below_size (zH HB.out)) : w.heap.size ≤ al)); have n3_ := Aside0.mk ((by rw [hg]; exact (below_size (zH HB.out)) : w.heap.size ≤ al)); clear HB; have HB := n0_; have aj := n1_; have aI := n2_; have am := n3_; clear n0_ n1_ n2_ n3_; clear hb hbox hg; obtain ⟨ao, ap, aq, ar, au, av, aw, ax, ay, az, aA, aB, aC, aD, aE, aF, aG, aH⟩ := bk9 aj.out) | ((with_reducible refine gate_callee (f := 33) rfl ?_); refine goesL_ (some 4) rfl rfl Try.func33 (by kernel_rfl) rfl #[.agg #[.int .i64 aa, .int .i64 ab, .int .i64 ac, .int .u32 ad, .string ae, .int .u64 af, .int .u64 ag, .int .i64 ah, .int .i64 ai]] rfl (by (try simp only [List.map_toArray, List.map_cons, List.map_nil]); first | done | rfl | (simp only [List.length_drop, List.length_take]; rfl)) ?_; (with_reducible refine (book_May.calls k aa ab ac ad ae af ag ah ai ak _ A2.out).mono ?_); rintro e w5 ⟨rfl, hb⟩; refine ⟨_, rfl, ?_⟩; have n0_ := Aside0.mk (blk_below (g := al) (o := .cells #[.int .i64 aa, .int .i64 ab, .int .i64 ac, .int .u32 ad, .string ae, .int .u64 af, .int .u64 ag, .int .i64 ah, .int .i64 ai] 41 (0, 0)) (zB aj.out) hb); have n1_ := Aside0.mk (below_step (by repeat (first | (with_reducible first | exact HB.out | apply pA | apply pN | apply pD | refine pS ?_ am.out) | exact HB.out)) hb); clear aj; clear HB; have aj := n0_; have HB := n1_; clear n0_ n1_; (try clear hb); (try clear hb2); (try clear hk); (try clear hi)))
 go_ret
 exact ⟨by first | rfl | (simp [errW_none, errW_some] <;> rfl) | (simp [*, errW_none, errW_some] <;> rfl), by repeat (first | (with_reducible first | exact HB.out | apply pA | apply pN | apply pD | refine pS ?_ am.out) | exact HB.out)⟩

end Go.Proofs.Ytocjadhpaecpaaa.Q
