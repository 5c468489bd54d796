/- What the laws' parameters are, cell by cell. -/
import Derived.Test.YtpbkdphilcodmaaChC
import Derived.Test.YtpbkdphilcodmaaRdr
namespace Go.Proofs.Ytpbkdphilcodmaa.Q
open Go Go.RowKit Go.ChangeShapes Go.WideShapes Go.Proofs.YtpbkdphilcodmaaW.PrintWords Go.Proofs.YtpbkdphilcodmaaW.PrintLast Go.Proofs.YtpbkdphilcodmaaW.PrintMore
open Go.Proofs.YtpbkdphilcodmaaV Go.Proofs.YtpbkdphilcodmaaR
set_option linter.unusedVariables false
theorem rdr22 : Rdr Try.prog 22 (Kd.arr 16 (Kd.int .u8) (by decide)) (fun l => l.length = 16 ∧ ∀ x ∈ l, (Lit.int .u8 x).wf = true) := Rdr.arr Try.underlying22 (by kernel_rfl) (by kernel_rfl) (Rdr.int Try.underlying5)
abbrev PA := Int × Int × Int × Int × List Int × ByteArray × List Int
def kpA : Kd PA := Kd.pair (Kd.int .i64) (Kd.pair (Kd.int .i64) (Kd.pair (Kd.int .i64) (Kd.pair (Kd.int .u8) (Kd.pair (Kd.arr 16 (Kd.int .u8) (by decide)) (Kd.pair Kd.string (Kd.arr 16 (Kd.int .u8) (by decide)))))))
def auT (a : Au) : PA := (a.st, a.tr, a.lf, a.id, a.val, a.who, a.prf)
def auF (x : PA) : Au := ⟨x.1, x.2.1, x.2.2.1, x.2.2.2.1, x.2.2.2.2.1, x.2.2.2.2.2.1, x.2.2.2.2.2.2⟩
def u8s (l : List Int) : Prop := ∀ x ∈ l, (Lit.int .u8 x).wf = true
def gA (x : PA) : Prop := (Lit.int .i64 x.1).wf = true ∧ ((Lit.int .i64 x.2.1).wf = true ∧ ((Lit.int .i64 x.2.2.1).wf = true ∧ ((Lit.int .u8 x.2.2.2.1).wf = true ∧ ((x.2.2.2.2.1.length = 16 ∧ u8s x.2.2.2.2.1) ∧ (x.2.2.2.2.2.1.size ≤ 140737488351232 ∧ (x.2.2.2.2.2.2.length = 16 ∧ u8s x.2.2.2.2.2.2))))))
def k24 : Kd Au := Kd.iso kpA auT
theorem rdr24 : Rdr Try.prog 24 k24 (fun a => gA (auT a)) :=
  Rdr.mono (Rdr.struct (d := kpA) Try.underlying24 rfl (by kernel_rfl) auT auF (fun _ => rfl)
    (RdrF.cons (o' := 1) rfl (by kernel_rfl) (Rdr.int Try.underlying3) (by kernel_rfl)
      (RdrF.cons (o' := 2) rfl (by kernel_rfl) (Rdr.int Try.underlying3) (by kernel_rfl)
        (RdrF.cons (o' := 3) rfl (by kernel_rfl) (Rdr.int Try.underlying3) (by kernel_rfl)
          (RdrF.cons (o' := 4) rfl (by kernel_rfl) (Rdr.int Try.underlying5) (by kernel_rfl)
            (RdrF.cons (o' := 20) rfl (by kernel_rfl) rdr22 (by kernel_rfl)
              (RdrF.cons (o' := 21) rfl (by kernel_rfl) (Rdr.string Try.underlying9) (by kernel_rfl)
                (RdrF.one rfl (by kernel_rfl) rdr22)))))))) (fun _ h => h)
theorem int_cells {k : IntKind} : ∀ (ms : List Int) (cs : List Value), cs.length = ms.length → (∀ j p, ms[j]? = some p → (cs.drop j).take 1 = [Value.int k p]) → cs = ms.map (Value.int k)
  | [], cs, hl, _ => by simpa using hl
  | m :: ms, [], hl, _ => by simp at hl
  | m :: ms, c :: cs, hl, h => by
    have h0 := h 0 m rfl
    simp only [List.drop_zero, List.take_succ_cons, List.take_zero, List.cons.injEq, and_true] at h0
    subst h0
    rw [List.map_cons, ← int_cells ms cs (by simpa using hl) (fun j p hj => by simpa using h (j + 1) p (by simpa using hj))]
theorem arr_open {W : World} {n : Nat} {k : IntKind} {hs : 0 < (Kd.int k).sz} {cs : List Value} {ms : List Int} (h : (Kd.arr n (Kd.int k) hs).K W ms cs) : cs = ms.map (Value.int k) := by
  obtain ⟨hl, hlen, hp⟩ := h
  have hlen' : cs.length = ms.length := by
    rw [hlen]
    exact Nat.mul_one _
  exact int_cells ms cs hlen' (fun j p hj => by
    have h1 := hp j p hj
    have h2 : ((cs.drop (j * 1)).take 1) = [Value.int k p] := h1
    rwa [Nat.mul_one] at h2)
structure Au.good (a : Au) : Prop where
  wf : a.wf
  id : 0 ≤ a.id ∧ a.id ≤ 255
  val : ∀ x ∈ a.val, 0 ≤ x ∧ x ≤ 255
theorem u8_range {x : Int} (h : (Lit.int .u8 x).wf = true) : 0 ≤ x ∧ x ≤ 255 := bounds_u8 h
theorem au_open {W : World} {a : Au} {cs : List Value} (h : k24.K W a cs) (hg : gA (auT a)) : cs = a.cells ∧ a.good := by
  obtain ⟨c0, d0, e0, rfl, c1, d1, e1, rfl, c2, d2, e2, rfl, c3, d3, e3, rfl, c4, d4, e4, h4, c5, d5, e5, rfl, h6⟩ := h
  obtain ⟨_, _, _, gi, ⟨gv, gv8⟩, _, ⟨gp, _⟩⟩ := hg
  refine ⟨?_, ⟨gv, gp⟩, u8_range gi, fun x hx => u8_range (gv8 x hx)⟩
  rw [e0, e1, e2, e3, e4, e5, arr_open h4, arr_open h6]
  rfl
abbrev PK3 := Int × Int × List Int
def kpP : Kd PK3 := Kd.pair (Kd.int .u8) (Kd.pair (Kd.int .u8) (Kd.slice 5 (Kd.int .u8)))
def gP (x : PK3) : Prop := (Lit.int .u8 x.1).wf = true ∧ ((Lit.int .u8 x.2.1).wf = true ∧ (x.2.2.length * 1 ≤ 140737488351232 ∧ u8s x.2.2))
def k28 : Kd PK3 := Kd.iso kpP (fun x : PK3 => x)
theorem rdr28 : Rdr Try.prog 28 k28 (fun x => gP x) :=
  Rdr.mono (Rdr.struct (d := kpP) Try.underlying28 rfl (by kernel_rfl) (fun x : PK3 => x) (fun x => x) (fun _ => rfl)
    (RdrF.cons (o' := 1) rfl (by kernel_rfl) (Rdr.int Try.underlying5) (by kernel_rfl)
      (RdrF.cons (o' := 2) rfl (by kernel_rfl) (Rdr.int Try.underlying5) (by kernel_rfl)
        (RdrF.one rfl (by kernel_rfl) (Rdr.slice (B := 1) Try.underlying26 (by kernel_rfl) (by kernel_rfl) (Rdr.int Try.underlying5)))))) (fun _ h => h)
theorem pk_open {W : World} {x : PK3} {cs : List Value} (h : k28.K W x cs) (hg : gP x) : ∃ A c, cs = pk x.1 x.2.1 (.slice A x.2.2.length c) ∧ Kd.C (Kd.int .u8) W A x.2.2.length x.2.2 ∧ x.2.2.length ≤ c := by
  obtain ⟨c0, d0, e0, rfl, c1, d1, e1, rfl, A, c, rfl, hc, hC⟩ := h
  exact ⟨A, c, by rw [e0, e1]; rfl, hC, hc⟩
theorem rdr54 : Rdr Try.prog 54 k54 (fun u => u.f0.size ≤ 140737488351232 ∧ u.f1.size ≤ 140737488351232) :=
  Rdr.mono (Rdr.struct (d := Kd.pair Kd.string Kd.string) Try.underlying54 rfl (by kernel_rfl) (fun x : S54 => (x.f0, x.f1)) (fun x => ⟨x.1, x.2⟩) (fun _ => rfl)
    (RdrF.cons (o' := 1) rfl (by kernel_rfl) (Rdr.string Try.underlying9) (by kernel_rfl) (RdrF.one rfl (by kernel_rfl) (Rdr.string Try.underlying9)))) (fun _ h => h)
theorem rdr25 : Rdr Try.prog 25 (Kd.slice 54 k54) (fun l => l.length * 32 ≤ 140737488351232 ∧ ∀ u ∈ l, u.f0.size ≤ 140737488351232 ∧ u.f1.size ≤ 140737488351232) := Rdr.slice (B := 32) Try.underlying25 (by kernel_rfl) (by kernel_rfl) rdr54
/-- ChapRead's parameter. -/
abbrev P46 := ByteArray × List Int × Int × Int
def kp46 : Kd P46 := Kd.pair Kd.string (Kd.pair (Kd.arr 16 (Kd.int .u8) (by decide)) (Kd.pair (Kd.int .u8) (Kd.int .u8)))
def g46 (x : P46) : Prop := x.1.size ≤ 140737488351232 ∧ ((x.2.1.length = 16 ∧ u8s x.2.1) ∧ ((Lit.int .u8 x.2.2.1).wf = true ∧ (Lit.int .u8 x.2.2.2).wf = true))
theorem rdr46 : Rdr Try.prog 46 (Kd.iso kp46 (fun x : P46 => x)) (fun x => g46 x) :=
  Rdr.mono (Rdr.struct (d := kp46) Try.underlying46 rfl (by kernel_rfl) (fun x : P46 => x) (fun x => x) (fun _ => rfl)
    (RdrF.cons (o' := 1) rfl (by kernel_rfl) (Rdr.string Try.underlying9) (by kernel_rfl)
      (RdrF.cons (o' := 17) rfl (by kernel_rfl) rdr22 (by kernel_rfl)
        (RdrF.cons (o' := 18) rfl (by kernel_rfl) (Rdr.int Try.underlying5) (by kernel_rfl)
          (RdrF.one rfl (by kernel_rfl) (Rdr.int Try.underlying5)))))) (fun _ h => h)
def readL (n : ByteArray) (v : List Int) (code id : Int) : List Value := .string n :: (ints v ++ [.int .u8 code, .int .u8 id])
theorem open46 {W : World} {x : P46} {cs : List Value} (h : (Kd.iso kp46 (fun x : P46 => x)).K W x cs) : cs = readL x.1 x.2.1 x.2.2.1 x.2.2.2 := by
  obtain ⟨c0, d0, e0, rfl, c1, d1, e1, h1, c2, d2, e2, rfl, rfl⟩ := h
  rw [e0, e1, e2, arr_open h1]
  rfl
/-- ChapOnce's parameter. -/
abbrev P49 := Au × List S54 × PK3 × List Int × Bool
def kp49 : Kd P49 := Kd.pair k24 (Kd.pair (Kd.slice 54 k54) (Kd.pair k28 (Kd.pair (Kd.arr 16 (Kd.int .u8) (by decide)) Kd.bool)))
def g49 (x : P49) : Prop := gA (auT x.1) ∧ ((x.2.1.length * 32 ≤ 140737488351232 ∧ ∀ u ∈ x.2.1, u.f0.size ≤ 140737488351232 ∧ u.f1.size ≤ 140737488351232) ∧ (gP x.2.2.1 ∧ ((x.2.2.2.1.length = 16 ∧ u8s x.2.2.2.1) ∧ True)))
theorem rdr49 : Rdr Try.prog 49 (Kd.iso kp49 (fun x : P49 => x)) (fun x => g49 x) :=
  Rdr.mono (Rdr.struct (d := kp49) Try.underlying49 rfl (by kernel_rfl) (fun x : P49 => x) (fun x => x) (fun _ => rfl)
    (RdrF.cons (o' := 37) rfl (by kernel_rfl) rdr24 (by kernel_rfl)
      (RdrF.cons (o' := 38) rfl (by kernel_rfl) rdr25 (by kernel_rfl)
        (RdrF.cons (o' := 41) rfl (by kernel_rfl) rdr28 (by kernel_rfl)
          (RdrF.cons (o' := 57) rfl (by kernel_rfl) rdr22 (by kernel_rfl)
            (RdrF.one rfl (by kernel_rfl) (Rdr.bool Try.underlying4))))))) (fun _ h => h)
def onceL (a : Au) (us d : Value) (code id : Int) (v : List Int) (good : Bool) : List Value := a.cells ++ (us :: (pk code id d ++ (ints v ++ [.bool good])))
theorem open49 {W : World} {x : P49} {cs : List Value} (h : (Kd.iso kp49 (fun x : P49 => x)).K W x cs) (hg : g49 x) :
    ∃ A c Ad cd, cs = onceL x.1 (.slice A x.2.1.length c) (.slice Ad x.2.2.1.2.2.length cd) x.2.2.1.1 x.2.2.1.2.1 x.2.2.2.1 x.2.2.2.2 ∧ x.1.good ∧ Kd.C k54 W A x.2.1.length x.2.1 ∧ x.2.1.length ≤ c ∧ Kd.C (Kd.int .u8) W Ad x.2.2.1.2.2.length x.2.2.1.2.2 ∧ x.2.2.1.2.2.length ≤ cd ∧ x.2.2.2.1.length = 16 := by
  obtain ⟨c0, d0, e0, h0, c1, d1, e1, ⟨A, c, rfl, hc, hC⟩, c2, d2, e2, h2, c3, d3, e3, h3, rfl⟩ := h
  obtain ⟨g0, _, g2, ⟨g3, _⟩, _⟩ := hg
  obtain ⟨rfl, hgood⟩ := au_open h0 g0
  obtain ⟨Ad, cd, rfl, hD, hcd⟩ := pk_open h2 g2
  exact ⟨A, c, Ad, cd, by rw [e0, e1, e2, e3, arr_open h3]; rfl, hgood, hC, hc, hD, hcd, g3⟩
end Go.Proofs.Ytpbkdphilcodmaa.Q
