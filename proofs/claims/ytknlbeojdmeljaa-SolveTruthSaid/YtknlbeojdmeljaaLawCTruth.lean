/- SolveTruth: for every input the law returns true; the input reads behind the call as it read before. No conditions. -/
import Derived.Test.YtknlbeojdmeljaaCTruth1
import Derived.Test.YtknlbeojdmeljaaRows
import Derived.WalkKit
import Derived.ProofKit
import Derived.OpenShut
import Derived.ShutString
import Derived.ChangeOld
import Derived.Below
import Derived.SizedLaws
namespace Go.Proofs.Ytknlbeojdmeljaa.solveTruth
open Go.ChangeShapes Go.WideShapes Go.ChangeAt Go.RowKit Go.Proofs.YtknlbeojdmeljaaW.PrintWords Go.Proofs.Ytknlbeojdmeljaa.P
open Go.ChangeMaps (open_string shut_string)
set_option linter.unusedVariables false
theorem own : ownKnob Try.prog.godebug = none := by kernel_rfl
theorem laidOut : laidOutB Try.prog = true := by kernel_rfl
set_option maxRecDepth 100000 in
theorem lifted (os : Os) (started : os.Started) (H : Type) (enc : TypeId × Value → H) :
    ReturnsInHanded {} Try.checked os 5 .any (Rows.solveTruthSpec.pre6 enc Try.prog Try.f5 Rows.solveTruthRow.domain false) (Rows.solveTruthSpec.post enc Try.prog Try.f5 false true false false) := by
  refine returnsInHanded_of_change_sized (C := Try.checked) own started (by kernel_rfl) Try.func5
    (ChangeSpec.witness6 (enc := enc) (C := Try.checked) false ⟨#[], #[.agg (Array.replicate 256 (.int .u8 0)), .slice none 0 0, .int .u16 0, .int .u8 0], []⟩ 8 (by kernel_rfl) (by kernel_rfl) (by kernel_rfl) (by kernel_rfl)) ?_
  intro W base args ds gs before hval0 hW hcnd hsz0 _
  have hval : ∀ (j : Nat) t v, Try.f5.params[j]? = some t → args[j]? = some v → Value.okWide Try.prog W .any base t v := hval0
  have hW' := hW
  obtain ⟨p, q, hA0, hV, rfl, hfz, hnd⟩ := hW
  have hA : DataW.TrodAll enc Try.prog W 0 (fun _ => true) true Try.f5.params.toList args.toList ds p := hA0
  rw [Try.params5] at hA hval
  obtain ⟨v0, vs0, d0, ds0, p0, q0, hargs, rfl, rfl, h0, r0⟩ := trodAll_cons hA
  obtain ⟨v1, vs1, d1, ds1, p1, q1, rfl, rfl, rfl, h1, r1⟩ := trodAll_cons r0
  obtain ⟨v2, vs2, d2, ds2, p2, q2, rfl, rfl, rfl, h2, r2⟩ := trodAll_cons r1
  obtain ⟨v3, vs3, d3, ds3, p3, q3, rfl, rfl, rfl, h3, r3⟩ := trodAll_cons r2
  obtain ⟨rfl, rfl, rfl⟩ := trodAll_nil r3
  obtain rfl : args = #[v0, v1, v2, v3] := by cases args; simp_all
  obtain ⟨rfl, rfl⟩ := trodVars_none hV
  have k0 := h0
  have lt0 : ∀ x ∈ p0, x.block < W.heap.size := by obtain ⟨m, hm⟩ := k0; exact DataW.trod_lt m _ _ _ hm
  obtain ⟨B0, rfl, y0⟩ := R.open_page (hval 0 38 v0 rfl rfl) h0
  obtain ⟨ax1, lx1, cx1, hx1⟩ := okWide_slice Try.underlying39 (hval 1 39 v1 rfl rfl)
  have k1 := h1
  have lt1 : ∀ x ∈ p1, x.block < W.heap.size := by obtain ⟨m, hm⟩ := k1; exact DataW.trod_lt m _ _ _ hm
  obtain ⟨a1, cap1, z1, rfl, l1, c1, y1⟩ := R.open_u16s h1 (by rw [hx1]; rfl)
  clear hx1
  obtain ⟨a2, rfl, rfl, rfl, w2⟩ := open_int Try.underlying40 (hval 2 40 v2 rfl rfl) h2
  obtain ⟨a3, rfl, rfl, rfl, w3⟩ := open_int Try.underlying5 (hval 3 5 v3 rfl rfl) h3
  clear hA0 hval0 hsz0
  have x2 := w2
  have x3 := w3
  simp only [Lit.wf, Bool.and_eq_true, decide_eq_true_eq] at x2 x3
  have u0 : IntKind.u16.min = 0 := rfl
  have u1 : IntKind.u16.max = 65535 := rfl
  have u2 : IntKind.u8.min = 0 := rfl
  have u3 : IntKind.u8.max = 255 := rfl
  rw [u0, u1] at x2
  rw [u2, u3] at x3
  obtain ⟨m2, rfl⟩ := Int.eq_ofNat_of_zero_le x2.1
  obtain ⟨m3, rfl⟩ := Int.eq_ofNat_of_zero_le x3.1
  have hcalls := L.truth_calls B0 y0 a1 cap1 z1 y1 m2 (by omega) m3 (by omega) W c1 l1
  refine (hcalls).mono fun e W' ⟨he, bel⟩ => ?_
  subst he
  exact ⟨_, rfl, _, _, _, [], _, [], hW', trodAll_mk1 (shut_bool Try.underlying4 _), (trodAll_cons_mk (Below.trod laidOut (by kernel_rfl) (of_decide_eq_true (by kernel_rfl)) k0 bel lt0) (trodAll_cons_mk (Below.trod laidOut (by kernel_rfl) (of_decide_eq_true (by kernel_rfl)) k1 bel lt1) (trodAll_cons_mk (shut_int Try.underlying40 w2) (trodAll_cons_mk (shut_int Try.underlying5 w3) trodAll_mk0)))), rfl, bel.frame _, fun h => by cases h⟩
theorem over : Rows.solveTruthRow.holds Try.pinned (OpenSpec.ofChange Rows.solveTruthSpec) :=
  OpenClaim.holds_of_wide 5 Try.f5 rfl rfl rfl rfl rfl rfl rfl ⟨rfl, rfl, rfl, rfl, rfl⟩ rfl rfl rfl rfl rfl (by kernel_rfl) Try.func5 (by kernel_rfl)
    (of_decide_eq_true (by kernel_rfl)) (by unfold Func.isWrapper; first | (rw [if_pos (by decide +kernel)]; kernel_rfl) | (rw [if_neg (by decide +kernel)]; exact ⟨rfl, rfl⟩))
    (fun os started H enc _ => lifted os started H enc)
theorem proved : Rows.SolveTruthSaid := over
#print axioms proved
end Go.Proofs.Ytknlbeojdmeljaa.solveTruth
namespace Go.Proofs.Ytknlbeojdmeljaa
/-- The row, under a short name, for the claim. -/
theorem solveTruth_holds : Rows.SolveTruthSaid := solveTruth.proved
end Go.Proofs.Ytknlbeojdmeljaa
