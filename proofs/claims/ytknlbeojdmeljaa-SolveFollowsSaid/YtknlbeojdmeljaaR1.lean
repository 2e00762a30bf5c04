import Derived.Test.YtknlbeojdmeljaaRows
import Derived.Test.YtknlbeojdmeljaaL4
import Derived.Deep.SlicePairs
import Derived.WalkKit
import Derived.ProofKit
import Derived.OpenShut
import Derived.ShutString
import Derived.ChangeOld
import Derived.Below
import Derived.SizedLaws
namespace Go.Proofs.Ytknlbeojdmeljaa.R
open Go.ChangeShapes Go.WideShapes Go.ChangeAt Go.RowKit Go.Proofs.YtknlbeojdmeljaaW.PrintWords Go.Proofs.Ytknlbeojdmeljaa.P
open Go.Proofs.Ytknlbeojdmeljaa.L (isB)
set_option linter.unusedVariables false

theorem cell25 : Try.prog.cellsOf 25 = 2 := by kernel_rfl
theorem cell5 : Try.prog.cellsOf 5 = 1 := by kernel_rfl
theorem cell3 : Try.prog.cellsOf 3 = 1 := by kernel_rfl
theorem cell23 : Try.prog.cellsOf 23 = 1 := by kernel_rfl

theorem open_bytes {H : Type} {enc : TypeId × Value → H} {W : World} {n : Nat} {v : Value} {x : DataW H × List MemPlace} (h : DataW.trod enc Try.prog W 0 (fun _ => true) true n 23 [v] = some x) :
    ∃ (A : Option Addr) (c : Nat) (ds : List Int), v = .slice A ds.length c ∧ ds.length ≤ c ∧ Kd.C (Kd.int .u8) W A ds.length ds ∧ ∀ b ∈ ds, isB b := by
  rcases open_ints Try.underlying23 Try.underlying5 cell5 h with ⟨hcs, _⟩ | ⟨ad, l, c, zs, hcs, _, hl, hm, hz, _, hcell, hwz⟩
  · have : v = .slice none 0 0 := by simpa using hcs
    subst this
    exact ⟨none, 0, [], rfl, Nat.le_refl _, ⟨rfl, by simp, fun h => absurd h (by simp)⟩, by simp⟩
  · have hv : v = .slice (some ad) l c := by simpa using hcs
    subst hv
    have hz' : zs.length = c := by simpa using hz
    have htl : (zs.take l).length = l := by rw [List.length_take]; omega
    refine ⟨some ad, c, zs.take l, by rw [htl], by omega, ⟨rfl, by rw [htl]; have : c ≤ maxLen := hm; unfold maxLen at this; omega, fun _ => ⟨ad, rfl, fun j p hj => ⟨[.int .u8 p], rfl, ?_, fun i u hu => ?_⟩⟩⟩, fun b hb => ?_⟩
    · rfl
    · match i, hu with
      | 0, hu =>
        simp at hu
        subst hu
        rw [List.getElem?_take] at hj
        split at hj
        · rename_i hjl
          have h2 := hcell j (by omega)
          rw [List.getD_eq_getElem?_getD, hj] at h2
          have e : (Kd.int .u8).sz = 1 := rfl
          rw [e, Nat.mul_one]
          exact h2
        · cases hj
    · have := hwz b (List.mem_of_mem_take hb)
      have h3 : (Lit.int .u8 b).wf = true := this
      simp only [Lit.wf, Bool.and_eq_true, decide_eq_true_eq] at h3
      have e1 : IntKind.u8.min = 0 := rfl
      have e2 : IntKind.u8.max = 255 := rfl
      rw [e1, e2] at h3
      exact ⟨h3.1, by omega⟩
instance : Inhabited S25 := ⟨z25⟩
theorem open_rows {H : Type} {enc : TypeId × Value → H} {W : World} {a : Option Addr} {len cap : Nat} {d : DataW H} {p : List MemPlace} (h : DataW.Trod enc Try.prog W 0 (fun _ => true) true 22 (.slice a len cap) d p) :
    ∃ zs : List S25, zs.length = len ∧ Kd.C k25 W a zs.length zs ∧ zs.length ≤ cap ∧ zs.length < 9223372036854775808 ∧ ∀ x ∈ zs, ∀ b ∈ x.f1, isB b := by
  obtain ⟨fuel, hf⟩ := h
  rcases Deep.open_slice_pairs Try.underlying22 Try.underlying25 cell25 rfl rfl cell3 cell23 hf with ⟨hcs, _⟩ | ⟨ad, l, c, m, n, V0, V1, D0, D1, P0, P1, hcs, _, hl, hm, hmm, _, hat⟩
  · simp [Value.cells] at hcs
    obtain ⟨rfl, rfl, rfl⟩ := hcs
    exact ⟨[], rfl, ⟨rfl, by simp, fun h => absurd h (by simp)⟩, Nat.le_refl _, by simp, by simp⟩
  · simp [Value.cells] at hcs
    obtain ⟨rfl, rfl, rfl⟩ := hcs
    have hlm : len ≤ m := by rw [hmm]; split <;> omega
    have each : ∀ i, i < len → ∃ x : S25, ∃ A1 c1, W.cell? (ad.add (i * 2)) = some (.int .i64 x.f0) ∧ W.cell? (ad.add (i * 2 + 1)) = some (.slice A1 x.f1.length c1) ∧ x.f1.length ≤ c1 ∧ Kd.C (Kd.int .u8) W A1 x.f1.length x.f1 ∧ ∀ b ∈ x.f1, isB b := by
      intro i hi
      obtain ⟨h0, h1, h2, h3⟩ := hat i (by omega)
      obtain ⟨z, hz, _, _⟩ := DataW.trod_int Try.underlying3 h2
      obtain ⟨A1, c1, ds, hv, hl1, hC, hB⟩ := open_bytes h3
      have hz' : V0 i = .int .i64 z := by simpa using hz
      exact ⟨⟨z, ds⟩, A1, c1, by rw [h0, hz'], by rw [h1, hv], hl1, hC, hB⟩
    obtain ⟨f, hf2⟩ := Deep.choose_lt each
    have hsz : k25.sz = 2 := rfl
    have hcap : cap ≤ 9223372036854775807 := hm
    refine ⟨(List.range len).map f, by simp, ⟨rfl, by simp; omega, fun _ => ⟨ad, rfl, fun j q hj => ?_⟩⟩, by simpa using hl, ?_, ?_⟩
    · rw [List.getElem?_map] at hj
      obtain ⟨i, hi, rfl⟩ := Option.map_eq_some_iff.1 hj
      have hij : i = j ∧ j < len := by
        rcases Nat.lt_or_ge j len with h | h
        · rw [List.getElem?_range h] at hi
          injection hi with hi
          exact ⟨hi.symm, h⟩
        · rw [List.getElem?_eq_none (by simpa using h)] at hi; cases hi
      obtain ⟨rfl, hlt⟩ := hij
      obtain ⟨A1, c1, g0, g1, g2, g3, g4⟩ := hf2 i hlt
      refine ⟨[.int .i64 (f i).f0, .slice A1 (f i).f1.length c1], rfl, k25_mk W (f i) g2 g3, fun k u hu => ?_⟩
      rw [hsz]
      match k, hu with
      | 0, hu => simp at hu; subst hu; exact g0
      | 1, hu => simp at hu; subst hu; exact g1
    · simp only [List.length_map, List.length_range]; omega
    · intro x hx
      obtain ⟨i, hi, rfl⟩ := List.mem_map.1 hx
      obtain ⟨A1, c1, g0, g1, g2, g3, g4⟩ := hf2 i (List.mem_range.1 hi)
      exact g4
end Go.Proofs.Ytknlbeojdmeljaa.R
