import Derived.Test.YtknlbeojdmeljaaR1
namespace Go.Proofs.Ytknlbeojdmeljaa.R
open Go.ChangeShapes Go.WideShapes Go.ChangeAt Go.RowKit Go.Proofs.YtknlbeojdmeljaaW.PrintWords Go.Proofs.Ytknlbeojdmeljaa.P
open Go.Proofs.Ytknlbeojdmeljaa.L (isB)
set_option linter.unusedVariables false

theorem open_row {H : Type} {enc : TypeId × Value → H} {W : World} {b0 : Nat} {v : Value} {d : DataW H} {p : List MemPlace} (hval : Value.okWide Try.prog W .any b0 25 v) (h : DataW.Trod enc Try.prog W 0 (fun _ => true) true 25 v d p) :
    ∃ (m : Int) (A : Option Addr) (cap : Nat) (zs : List Int), v = .agg #[.int .i64 m, .slice A zs.length cap] ∧ zs.length ≤ cap ∧ Kd.C (Kd.int .u8) W A zs.length zs ∧ ∀ b ∈ zs, isB b := by
  obtain ⟨cs, rfl, hsz⟩ := okWide_struct Try.underlying25 hval
  rw [cell25] at hsz
  obtain ⟨fuel, hf⟩ := h
  obtain ⟨xs, k, hk, hxy, _, hxl, hfs⟩ := DataW.trod_struct Try.underlying25 hf
  obtain ⟨l⟩ := cs
  match l, hsz, hf, hfs with
  | [v0, v1], _, hf, hfs =>
    match xs, hxl, hfs with
    | [y0, y1], _, hfs =>
      have g0 := hfs 0 _ rfl
      have g1 := hfs 1 _ rfl
      simp [Value.cells, cell3, cell23] at g0 g1
      obtain ⟨z, hz, _, _⟩ := DataW.trod_int Try.underlying3 g0
      obtain ⟨A, c, ds, hv, hl, hC, hB⟩ := open_bytes g1
      have hz' : v0 = .int .i64 z := by simpa using hz
      subst hz' hv
      exact ⟨z, A, c, ds, rfl, hl, hC, hB⟩
end Go.Proofs.Ytknlbeojdmeljaa.R
