import Derived.Test.YtknlbeojdmeljaaL8
namespace Go.Proofs.Ytknlbeojdmeljaa.L
open Go.RowKit Go.Proofs.YtknlbeojdmeljaaW.PrintWords Go.Proofs.YtknlbeojdmeljaaW.PrintLast Go.Proofs.YtknlbeojdmeljaaW.PrintMore Go.Proofs.Ytknlbeojdmeljaa.P Go.Proofs.Ytknlbeojdmeljaa.H
set_option linter.unusedVariables false
set_option linter.unusedSimpArgs false

/-- the rows behind an insertion: which they are -/
theorem insS_mem {l : List S25} (hv : VP l) (e : Nat × List Int) : rowE e ∈ insS e l ∧ (∀ r ∈ l, mixE e r ∈ insS e l) ∧ (∀ x ∈ insS e l, x = rowE e ∨ ∃ r ∈ l, x = mixE e r) := by
  obtain ⟨p, q, hpq, _, _, hins⟩ := insS_split e hv
  rw [hins]
  refine ⟨by simp, fun r hr => ?_, fun x hx => ?_⟩
  · rw [hpq] at hr
    rcases List.mem_append.1 hr with h | h
    · exact List.mem_append.2 (.inl (List.mem_map.2 ⟨r, h, rfl⟩))
    · exact List.mem_append.2 (.inr (List.mem_cons_of_mem _ (List.mem_map.2 ⟨r, h, rfl⟩)))
  · rcases List.mem_append.1 hx with h | h
    · obtain ⟨r, hr, rfl⟩ := List.mem_map.1 h
      exact .inr ⟨r, by rw [hpq]; simp [hr], rfl⟩
    · rcases List.mem_cons.1 h with h | h
      · exact .inl h
      · obtain ⟨r, hr, rfl⟩ := List.mem_map.1 h
        exact .inr ⟨r, by rw [hpq]; simp [hr], rfl⟩
theorem rowE_v (e : Nat × List Int) : rowv (rowE e) = e := pair_ext (Int.toNat_natCast _) rfl
theorem mixE_or {l : List S25} (hl : GR l) {e : Nat × List Int} (he : NE l e) {r : S25} (hr : r ∈ l) : rowv (mixE e r) = addE (rowv r) e ∨ rowv (mixE e r) = rowv r := by
  obtain ⟨j, _, hj, _⟩ := he.lead
  have hf := fine_spec (hl.fine r hr)
  rw [mixE_v e r hj (by omega)]
  split
  · exact .inl rfl
  · exact .inr rfl
/-- sums of the old rows are sums of the new ones, and so is the new equation -/
theorem insS_Sp {l : List S25} (hl : GR l) (hv : VP l) {e : Nat × List Int} (he : NE l e) : Sp (insS e l) e ∧ ∀ {y : Nat × List Int}, Sp l y → Sp (insS e l) y := by
  obtain ⟨_, hgr, _⟩ := insS_ok hl hv he
  obtain ⟨h1, h2, _⟩ := insS_mem hv e
  have hE : Sp (insS e l) e := by
    have := Sp.row hgr h1
    rwa [rowE_v] at this
  refine ⟨hE, fun {y} hy => Sp.of hl hgr (fun r hr => ?_) hy⟩
  have hm := Sp.row hgr (h2 r hr)
  rcases mixE_or hl he hr with h | h
  · rw [h] at hm
    have := hm.sum hgr hE
    rwa [addE_cancel (hl.row hr) he.ge] at this
  · rwa [h] at hm
theorem data_ge {d : List Int} (h1 : d.length = 16) (h2 : ∀ b ∈ d, isB b) : GE (0, d) := ⟨by show (0 : Nat) < 65536; omega, h1, h2⟩
theorem redS_data {l : List S25} (hl : GR l) (d : List Int) : redS l (0, d) = (0, d) := redS_id hl (fun r _ => Nat.zero_and _)
theorem split_eq (m : Nat) (hm : m < 65536) {d : List Int} (h1 : d.length = 16) (h2 : ∀ b ∈ d, isB b) : (m, d) = addE (m, z16) (0, d) := by
  refine pair_ext (Nat.xor_zero _).symm ?_
  exact (congrArg Prod.snd (zero_addE (data_ge h1 h2))).symm
theorem redS_split {l : List S25} (hl : GR l) (m : Nat) (hm : m < 65536) {d : List Int} (h1 : d.length = 16) (h2 : ∀ b ∈ d, isB b) : redS l (m, d) = addE (redS l (m, z16)) (0, d) := by
  have := redS_lin hl (x := (m, z16)) (y := (0, d)) ⟨hm, zeroE_ge.len, zeroE_ge.rng⟩ (data_ge h1 h2)
  rw [← split_eq m hm h1 h2, redS_data hl] at this
  exact this
theorem addE_eq_zero {x y : Nat × List Int} (hx : GE x) (hy : GE y) (h : addE x y = zeroE) : x = y := by
  have := addE_cancel hx hy
  rw [h, zero_addE hy] at this
  exact this.symm
/-- behind the insertion the equation's own sum follows -/
theorem ins_follows {l : List S25} (hl : GR l) (hv : VP l) (m : Nat) (hm : m < 65536) {d : List Int} (h1 : d.length = 16) (h2 : ∀ b ∈ d, isB b) (he : NE l (redS l (m, d))) :
    redS (insS (redS l (m, d)) l) (m, z16) = (0, d) := by
  obtain ⟨hvp, hgr, _⟩ := insS_ok hl hv he
  have hx : GE (m, d) := ⟨hm, h1, h2⟩
  obtain ⟨hE, hS⟩ := insS_Sp hl hv he
  have hd := hS (redS_diff hl hl (fun r hr => hr) hx)
  have h3 := hd.sum hgr hE
  rw [addE_cancel hx he.ge] at h3
  have h4 := redS_span hgr hvp h3
  rw [redS_split hgr m hm h1 h2] at h4
  exact addE_eq_zero (redS_ge hgr ⟨hm, zeroE_ge.len, zeroE_ge.rng⟩) (data_ge h1 h2) h4
end Go.Proofs.Ytknlbeojdmeljaa.L
