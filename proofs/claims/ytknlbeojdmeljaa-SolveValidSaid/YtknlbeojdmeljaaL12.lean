import Derived.Test.YtknlbeojdmeljaaL8
import Derived.Test.YtknlbeojdmeljaaP10
namespace Go.Proofs.Ytknlbeojdmeljaa.L
open Go.RowKit Go.Proofs.YtknlbeojdmeljaaW.PrintWords Go.Proofs.YtknlbeojdmeljaaW.PrintLast Go.Proofs.YtknlbeojdmeljaaW.PrintMore Go.Proofs.Ytknlbeojdmeljaa.P Go.Proofs.Ytknlbeojdmeljaa.H
set_option linter.unusedVariables false
set_option linter.unusedSimpArgs false

theorem few_len {l : List S25} (h : fewB l = true) : l.length ≤ 40 := by
  unfold fewB at h
  simp only [Bool.and_eq_true, decide_eq_true_eq] at h
  exact h.2
/-- what Add answers, case by case -/
theorem addS_cases {l : List S25} (hl : GR l) (hv : validS l = true) (m : Int) (d : List Int) (hd : ∀ b ∈ d, isB b) :
    (fineB m d = false ∧ addS l m d = ([], false, 1)) ∨
    (fineB m d = true ∧ redS l (m.toNat, d) = zeroE ∧ addS l m d = (l, false, 0)) ∨
    (fineB m d = true ∧ redS l (m.toNat, d) ≠ zeroE ∧ (redS l (m.toNat, d)).1 = 0 ∧ addS l m d = ([], false, 12)) ∨
    (fineB m d = true ∧ NE l (redS l (m.toNat, d)) ∧ addS l m d = (insS (redS l (m.toNat, d)) l, true, 0)) := by
  have hvp := (validS_iff l).1 hv
  cases hf : fineB m d
  · exact .inl ⟨rfl, if_pos (.inr hf)⟩
  · have hsp := fine_spec hf
    have hge : GE (m.toNat, d) := ⟨by show m.toNat < 65536; omega, hsp.2.2, hd⟩
    have hs : addS l m d = if redS l (m.toNat, d) = (0, z16) then (l, false, 0) else if (redS l (m.toNat, d)).1 = 0 then ([], false, 12) else (insS (redS l (m.toNat, d)) l, true, 0) := by
      unfold addS; rw [if_neg (by rw [hv, hf]; simp)]
    right
    by_cases h0 : redS l (m.toNat, d) = zeroE
    · exact .inl ⟨rfl, h0, by rw [hs]; exact if_pos h0⟩
    · right
      have h0' : ¬ redS l (m.toNat, d) = (0, z16) := h0
      by_cases h1 : (redS l (m.toNat, d)).1 = 0
      · exact .inl ⟨rfl, h0, h1, by rw [hs, if_neg h0', if_pos h1]⟩
      · exact .inr ⟨rfl, ⟨redS_ge hl hge, h1, redS_clear hl hvp hge⟩, by rw [hs, if_neg h0', if_neg h1]⟩
theorem valid_law_ev (l : List S25) (hl : l.length < 9223372036854775808) (hr : ∀ x ∈ l, ∀ b ∈ x.f1, isB b) (m : Int) (d : List Int) (hd : ∀ b ∈ d, isB b) :
    Ev (fun k => slotmeshlaw33_SolveValid.f k l m d) true := by
  show Ev (fun k => (slotmeshref33_Few.f k l).bind fun t261 => (if t261 = true then ((slotmeshref33_Valid.f k l).bind fun t262 => (slotmeshlaw33_SolveValid.j0 k l true (!t262) m d)) else (slotmeshlaw33_SolveValid.j0 k l true true m d))) true
  refine guard_ev hl (g := fun k t => slotmeshlaw33_SolveValid.j0 k l true t m d) (Ev.one (fun k => by rw [slotmeshlaw33_SolveValid.j0, if_pos rfl])) (fun hf hv => ?_)
  have hlen := few_len hf
  have hgr := GR.of_valid hv hr
  have hvp := (validS_iff l).1 hv
  have hadd : ∀ k, solve_Add.f k l m d = some (addS l m d) := fun k => if_pos (by omega)
  rcases addS_cases hgr hv m d hd with ⟨_, h⟩ | ⟨_, _, h⟩ | ⟨_, _, _, h⟩ | ⟨_, hne, h⟩
  · refine Ev.one (fun k => ?_)
    rw [slotmeshlaw33_SolveValid.j0, if_neg (by simp), hadd, h]
    rfl
  · have hsm := refSame l l hl (fun x hx => by have := fine_spec (hgr.fine x hx); omega)
    rw [sameB_self] at hsm
    have hva := refValid' l hl
    rw [hv] at hva
    refine hva.succ2 hsm (fun k h1 h2 => ?_)
    rw [slotmeshlaw33_SolveValid.j0, if_neg (by simp), hadd, h]
    simp only [Option.bind_some, if_true]
    rw [h1]
    simp only [Option.bind_some, if_true]
    rw [if_neg (by simp), h2]
    rfl
  · refine Ev.one (fun k => ?_)
    rw [slotmeshlaw33_SolveValid.j0, if_neg (by simp), hadd, h]
    rfl
  · obtain ⟨hvp2, hgr2, hlen2⟩ := insS_ok hgr hvp hne
    have hva := refValid' (insS (redS l (m.toNat, d)) l) (by omega)
    rw [(validS_iff _).2 hvp2] at hva
    refine hva.succ (fun k h1 => ?_)
    rw [slotmeshlaw33_SolveValid.j0, if_neg (by simp), hadd, h]
    simp only [Option.bind_some, if_true]
    rw [h1]
    simp only [Option.bind_some, if_true]
    rw [hlen2, wrap_succ l.length (by omega)]
    simp
end Go.Proofs.Ytknlbeojdmeljaa.L
