import Derived.Test.YtknlbeojdmeljaaL13
import Derived.Test.YtknlbeojdmeljaaP11
namespace Go.Proofs.Ytknlbeojdmeljaa.L
open Go.RowKit Go.Proofs.YtknlbeojdmeljaaW.PrintWords Go.Proofs.YtknlbeojdmeljaaW.PrintLast Go.Proofs.YtknlbeojdmeljaaW.PrintMore Go.Proofs.Ytknlbeojdmeljaa.P Go.Proofs.Ytknlbeojdmeljaa.H
set_option linter.unusedVariables false
set_option linter.unusedSimpArgs false

theorem few_len' {l : List S25} (h : fewB l = true) : l.length ≤ 40 := by
  unfold fewB at h
  simp only [Bool.and_eq_true, decide_eq_true_eq] at h
  exact h.2
theorem follows_ev (l : List S25) (hl : l.length < 9223372036854775808) (hr : ∀ x ∈ l, ∀ b ∈ x.f1, isB b) (m : Int) (d : List Int) (hd : ∀ b ∈ d, isB b) :
    Ev (fun k => slotmeshlaw33_SolveFollows.f k l m d) true := by
  have hno : Ev (fun k => slotmeshlaw33_SolveFollows.j0 k l true true m d) true := Ev.one (fun k => by rw [slotmeshlaw33_SolveFollows.j0, if_pos rfl])
  show Ev (fun k => (slotmeshref33_Few.f k l).bind fun t272 => (if t272 = true then ((slotmeshref33_Valid.f k l).bind fun t273 => (if t273 = true then ((slotmeshref33_Formed.f m d).bind fun t274 => (slotmeshlaw33_SolveFollows.j0 k l true (!t274) m d)) else (slotmeshlaw33_SolveFollows.j0 k l true true m d))) else (slotmeshlaw33_SolveFollows.j0 k l true true m d))) true
  refine Ev.bind (g := fun k t272 => (if t272 = true then ((slotmeshref33_Valid.f k l).bind fun t273 => (if t273 = true then ((slotmeshref33_Formed.f m d).bind fun t274 => (slotmeshlaw33_SolveFollows.j0 k l true (!t274) m d)) else (slotmeshlaw33_SolveFollows.j0 k l true true m d))) else (slotmeshlaw33_SolveFollows.j0 k l true true m d))) (refFew l hl) ?_
  cases hf : fewB l
  · exact hno
  show Ev (fun k => (slotmeshref33_Valid.f k l).bind fun t273 => (if t273 = true then ((slotmeshref33_Formed.f m d).bind fun t274 => (slotmeshlaw33_SolveFollows.j0 k l true (!t274) m d)) else (slotmeshlaw33_SolveFollows.j0 k l true true m d))) true
  refine Ev.bind (g := fun k t273 => (if t273 = true then ((slotmeshref33_Formed.f m d).bind fun t274 => (slotmeshlaw33_SolveFollows.j0 k l true (!t274) m d)) else (slotmeshlaw33_SolveFollows.j0 k l true true m d))) (refValid' l hl) ?_
  cases hv : validS l
  · exact hno
  show Ev (fun k => (slotmeshref33_Formed.f m d).bind fun t274 => (slotmeshlaw33_SolveFollows.j0 k l true (!t274) m d)) true
  rw [formed_eq]
  show Ev (fun k => slotmeshlaw33_SolveFollows.j0 k l true (!(fineB m d)) m d) true
  cases hfm : fineB m d
  · exact hno
  show Ev (fun k => slotmeshlaw33_SolveFollows.j0 k l true false m d) true
  have hlen := few_len' hf
  have hgr := GR.of_valid hv hr
  have hvp := (validS_iff l).1 hv
  have hsp := fine_spec hfm
  obtain ⟨m, rfl⟩ := Int.eq_ofNat_of_zero_le (show 0 ≤ m by omega)
  have hm : m < 65536 := by omega
  have hd1 := hsp.2.2
  have hadd : ∀ k, solve_Add.f k l (m : Int) d = some (addS l (m : Int) d) := fun k => if_pos (by omega)
  have hsum : ∀ k, solve_Sum.f k l (m : Int) = some (sumS l (m : Int)) := fun k => rfl
  have hsplit := redS_split hgr m hm hd1 hd
  have hga := redS_ge hgr (mask_ge m hm)
  have hs := sumS_eq hv m hm
  have ha : addS l (m : Int) d = if redS l (m, d) = (0, z16) then (l, false, 0) else if (redS l (m, d)).1 = 0 then ([], false, 12) else (insS (redS l (m, d)) l, true, 0) := by
    unfold addS; rw [if_neg (by rw [hv, hfm]; simp)]; rfl
  have hvm : ∀ (l' : List S25), VP l' → sumS l' (m : Int) = if (redS l' (m, z16)).1 ≠ 0 then ([], false) else ((redS l' (m, z16)).2, true) := fun l' h => sumS_eq ((validS_iff l').2 h) m hm
  have hdd : Ev (fun k => slotmeshref33_Bytes.f k d d) true := by
    have := refBytes d d (by omega)
    rwa [beq_self_eq_true] at this
  by_cases h1 : (redS l (m, z16)).1 = 0
  · rw [if_neg (fun h => h h1)] at hs
    by_cases h2 : (redS l (m, z16)).2 = d
    · have hA : redS l (m, z16) = (0, d) := pair_ext h1 h2
      have hz : redS l (m, d) = (0, z16) := by rw [hsplit, hA]; exact addE_self (data_ge hd1 hd)
      rw [if_pos hz] at ha
      rw [h2] at hs
      have hj1 : Ev (fun k => slotmeshlaw33_SolveFollows.j1 k true true l false 0 false (m : Int) d) true := hdd.succ (fun k e1 => by
        rw [slotmeshlaw33_SolveFollows.j1, if_neg (by simp), hsum, hs]
        simp only [Option.bind_some, if_true]
        rw [e1]
        simp)
      refine hj1.succ2 hdd (fun k e1 e2 => ?_)
      rw [slotmeshlaw33_SolveFollows.j0, if_neg (by simp), hsum, hs, hadd, ha]
      simp only [Option.bind_some, if_true]
      rw [e2]
      exact e1
    · have hz : redS l (m, d) ≠ (0, z16) := by
        intro h
        rw [hsplit] at h
        exact h2 (congrArg Prod.snd (addE_eq_zero hga (data_ge hd1 hd) h))
      have hz1 : (redS l (m, d)).1 = 0 := by
        rw [hsplit]
        show (redS l (m, z16)).1 ^^^ 0 = 0
        rw [h1]
        rfl
      rw [if_neg hz, if_pos hz1] at ha
      have hb : Ev (fun k => slotmeshref33_Bytes.f k (redS l (m, z16)).2 d) false := by
        have := refBytes (redS l (m, z16)).2 d (by rw [hga.len]; omega)
        rwa [beq_eq_false_iff_ne.2 h2] at this
      have hj1 : Ev (fun k => slotmeshlaw33_SolveFollows.j1 k true true [] false 12 true (m : Int) d) true := Ev.one (fun k => by
        rw [slotmeshlaw33_SolveFollows.j1, if_pos rfl, if_pos rfl]
        rfl)
      refine hj1.succ2 hb (fun k e1 e2 => ?_)
      rw [slotmeshlaw33_SolveFollows.j0, if_neg (by simp), hsum, hs, hadd, ha]
      simp only [Option.bind_some, if_true]
      rw [e2]
      exact e1
  · rw [if_pos h1] at hs
    have hx1 : (redS l (m, d)).1 ≠ 0 := by
      rw [hsplit]
      show (redS l (m, z16)).1 ^^^ 0 ≠ 0
      rw [Nat.xor_zero]
      exact h1
    have hne : NE l (redS l (m, d)) := ⟨redS_ge hgr ⟨hm, hd1, hd⟩, hx1, redS_clear hgr hvp ⟨hm, hd1, hd⟩⟩
    rw [if_neg (fun h => hx1 (by rw [h])), if_neg hx1] at ha
    obtain ⟨hvp2, hgr2, _⟩ := insS_ok hgr hvp hne
    have hs2 := hvm _ hvp2
    rw [ins_follows hgr hvp m hm hd1 hd hne, if_neg (fun h => h rfl)] at hs2
    have hsum2 : ∀ k, solve_Sum.f k (insS (redS l (m, d)) l) (m : Int) = some (sumS (insS (redS l (m, d)) l) (m : Int)) := fun k => rfl
    have hj1 : Ev (fun k => slotmeshlaw33_SolveFollows.j1 k true false (insS (redS l (m, d)) l) true 0 false (m : Int) d) true := hdd.succ (fun k e1 => by
        rw [slotmeshlaw33_SolveFollows.j1, if_neg (by simp), hsum2, hs2]
        simp only [Option.bind_some, if_true]
        rw [e1]
        simp)
    refine hj1.succ (fun k e1 => ?_)
    rw [slotmeshlaw33_SolveFollows.j0, if_neg (by simp), hsum, hs, hadd, ha]
    simp only [Option.bind_some]
    rw [if_neg (by simp)]
    exact e1
end Go.Proofs.Ytknlbeojdmeljaa.L
