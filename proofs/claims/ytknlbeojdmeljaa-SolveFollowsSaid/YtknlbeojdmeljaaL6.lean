import Derived.Test.YtknlbeojdmeljaaL5
namespace Go.Proofs.Ytknlbeojdmeljaa.L
open Go.RowKit Go.Proofs.YtknlbeojdmeljaaW.PrintWords Go.Proofs.YtknlbeojdmeljaaW.PrintLast Go.Proofs.YtknlbeojdmeljaaW.PrintMore Go.Proofs.Ytknlbeojdmeljaa.P Go.Proofs.Ytknlbeojdmeljaa.H
set_option linter.unusedVariables false
set_option linter.unusedSimpArgs false

/-- rows by pairs -/
theorem VP.pair {l : List S25} (h : VP l) : l.Pairwise (fun a b => b.f0.toNat &&& H.lead a.f0.toNat = 0 ∧ a.f0.toNat &&& H.lead b.f0.toNat = 0 ∧ H.lead a.f0.toNat > H.lead b.f0.toNat) := by
  rw [List.pairwise_iff_getElem]
  intro i j hi hj hij
  have hg : ∀ k (hk : k < l.length), at_ l k = l[k] := fun k hk => by
    unfold at_; rw [List.getD_eq_getElem?_getD, List.getElem?_eq_getElem hk]; rfl
  have h1 := h.red i j hi hj (by omega)
  have h2 := h.red j i hj hi (by omega)
  have h3 := List.pairwise_iff_getElem.1 h.desc i j (by simpa using hi) (by simpa using hj) hij
  simp only [L.mk, hg i hi, hg j hj] at h1 h2
  simp only [List.getElem_map] at h3
  exact ⟨h1, h2, h3⟩
theorem redS_id {l : List S25} (hl : GR l) : ∀ {x : Nat × List Int}, (∀ r ∈ l, x.1 &&& H.lead r.f0.toNat = 0) → redS l x = x := by
  induction l with
  | nil => intro x _; rfl
  | cons r l ih =>
    intro x h
    have h0 := h r List.mem_cons_self
    show redS l (stepS x r) = x
    have : stepS x r = x := by unfold stepS; rw [if_neg (by simpa using h0)]
    rw [this]
    exact ih hl.tail (fun s hs => h s (List.mem_cons_of_mem _ hs))
theorem redS_append (p q : List S25) (x : Nat × List Int) : redS (p ++ q) x = redS q (redS p x) := by simp [redS]
theorem and_xor_zero {a b c : Nat} (h1 : a &&& c = 0) (h2 : b &&& c = 0) : (a ^^^ b) &&& c = 0 := by
  rw [Nat.and_xor_distrib_right, h1, h2]
  rfl
theorem GR.sub {l p : List S25} (hl : GR l) (h : ∀ x ∈ p, x ∈ l) : GR p := ⟨fun x hx => hl.fine x (h x hx), fun x hx => hl.rng x (h x hx)⟩
/-- one lead bit alone -/
theorem redS_one {l : List S25} (hl : GR l) (hv : VP l) {x : Nat × List Int} {r : S25} (hr : r ∈ l) (hx : x.1 &&& H.lead r.f0.toNat ≠ 0) (hno : ∀ s ∈ l, H.lead s.f0.toNat ≠ H.lead r.f0.toNat → x.1 &&& H.lead s.f0.toNat = 0) :
    redS l x = addE x (rowv r) := by
  obtain ⟨p, q, rfl⟩ := List.append_of_mem hr
  have hp := hv.pair
  rw [List.pairwise_append, List.pairwise_cons] at hp
  obtain ⟨_, ⟨hq, _⟩, hpq⟩ := hp
  rw [redS_append]
  have h1 : redS p x = x := redS_id (hl.sub (fun y hy => by simp [hy])) (fun s hs => hno s (by simp [hs]) (by have := (hpq s hs r List.mem_cons_self).2.2; omega))
  rw [h1]
  show redS q (stepS x r) = _
  have h2 : stepS x r = addE x (rowv r) := by unfold stepS; rw [if_pos hx]; rfl
  rw [h2]
  refine redS_id (hl.sub (fun y hy => by simp [hy])) (fun s hs => ?_)
  have h3 := hq s hs
  exact and_xor_zero (hno s (by simp [hs]) (by have := h3.2.2; omega)) h3.2.1
theorem two_pow_and {i j : Nat} (h : (2 ^ i : Nat) ≠ 2 ^ j) : 2 ^ i &&& 2 ^ j = 0 := by
  rw [and_two_pow, if_neg]
  rw [Nat.testBit_two_pow]
  simp
  rintro rfl
  exact h rfl
theorem lead_two_pow (i : Nat) (hi : i < 16) : H.lead (2 ^ i) = 2 ^ i := by
  have h1 : 2 ^ i < 2 ^ 16 := Nat.pow_lt_pow_right (by omega) hi
  obtain ⟨j, hj, e, h2, h3⟩ := lead_spec (2 ^ i) (Nat.two_pow_pos i) (by omega)
  have a1 : j ≤ i := (Nat.pow_le_pow_iff_right (by omega)).1 h2
  have a2 : i < j + 1 := (Nat.pow_lt_pow_iff_right (by omega)).1 h3
  rw [e, show i = j by omega]
/-- a block is solved if and only if its own sum follows, with the same bytes -/
theorem solved_sum {l : List S25} (hl : GR l) (hv : VP l) (i : Nat) (hi : i < 16) :
    (match l.find? (fun x => x.f0.toNat == 2 ^ i) with | some x => (x.f1, true) | none => (([] : List Int), false)) = if (redS l (2 ^ i, z16)).1 ≠ 0 then ([], false) else ((redS l (2 ^ i, z16)).2, true) := by
  have hpow : 2 ^ i < 65536 := by have : 2 ^ i < 2 ^ 16 := Nat.pow_lt_pow_right (by omega) hi; omega
  have hge := mask_ge (2 ^ i) hpow
  have hno : ∀ r : S25, H.lead r.f0.toNat = 2 ^ i → ∀ s ∈ l, H.lead s.f0.toNat ≠ H.lead r.f0.toNat → (2 ^ i : Nat) &&& H.lead s.f0.toNat = 0 := by
    intro r hr s hs hne
    obtain ⟨j, _, e, _⟩ := hl.lead hs
    rw [hr, e] at hne
    rw [e]
    exact two_pow_and (fun h => hne h.symm)
  by_cases hex : ∃ r ∈ l, H.lead r.f0.toNat = 2 ^ i
  · obtain ⟨r, hr, hlead⟩ := hex
    have hred := redS_one hl hv (x := (2 ^ i, z16)) hr (by rw [hlead]; simp only [Nat.and_self]; have := Nat.two_pow_pos i; omega) (hno r hlead)
    rw [hred]
    by_cases hm : r.f0.toNat = 2 ^ i
    · have huniq : ∀ s ∈ l, s.f0.toNat = 2 ^ i → rowv s = rowv r := by
        intro s hs hs2
        have hls : H.lead s.f0.toNat = 2 ^ i := by rw [hs2]; exact lead_two_pow i hi
        have h2 := redS_one hl hv (x := (2 ^ i, z16)) hs (by rw [hls]; simp only [Nat.and_self]; have := Nat.two_pow_pos i; omega) (hno s hls)
        rw [hred] at h2
        have h3 := congrArg (fun y => addE y (2 ^ i, z16)) h2
        rw [addE_comm hge (hl.row hr), addE_comm hge (hl.row hs), addE_cancel (hl.row hr) hge, addE_cancel (hl.row hs) hge] at h3
        exact h3.symm
      cases hf : l.find? (fun x => x.f0.toNat == 2 ^ i) with
      | none =>
        rw [List.find?_eq_none] at hf
        exact absurd (by simpa using hm) (hf r hr)
      | some x =>
        have hx1 := List.mem_of_find?_eq_some hf
        have hx2 := List.find?_some hf
        have hx3 := huniq x hx1 (by simpa using hx2)
        have h0 : (addE (2 ^ i, z16) (rowv r)).1 = 0 := by show (2 ^ i) ^^^ r.f0.toNat = 0; rw [hm, Nat.xor_self]
        rw [if_neg (fun h => h h0)]
        have h1 : (addE (2 ^ i, z16) (rowv r)).2 = r.f1 := congrArg Prod.snd (show addE (0, z16) (rowv r) = rowv r from zero_addE (hl.row hr))
        rw [h1]
        exact Prod.ext (congrArg Prod.snd hx3) rfl
    · have hnf : l.find? (fun x => x.f0.toNat == 2 ^ i) = none := by
        rw [List.find?_eq_none]
        intro s hs hs2
        have hs2' : s.f0.toNat = 2 ^ i := by simpa using hs2
        have hls : H.lead s.f0.toNat = 2 ^ i := by rw [hs2']; exact lead_two_pow i hi
        have h2 := redS_one hl hv (x := (2 ^ i, z16)) hs (by rw [hls]; simp only [Nat.and_self]; have := Nat.two_pow_pos i; omega) (hno s hls)
        rw [hred] at h2
        have h3 := congrArg (fun y => addE y (2 ^ i, z16)) h2
        rw [addE_comm hge (hl.row hr), addE_comm hge (hl.row hs), addE_cancel (hl.row hr) hge, addE_cancel (hl.row hs) hge] at h3
        exact hm ((congrArg Prod.fst h3).trans hs2')
      rw [hnf, if_pos]
      show (2 ^ i) ^^^ r.f0.toNat ≠ 0
      intro h
      have h4 := congrArg (fun y => y ^^^ r.f0.toNat) h
      simp only [Nat.xor_assoc, Nat.xor_self, Nat.xor_zero, Nat.zero_xor] at h4
      exact hm h4.symm
  · have hid := redS_id hl (x := (2 ^ i, z16)) (fun s hs => by
      obtain ⟨j, _, e, _⟩ := hl.lead hs
      show (2 ^ i : Nat) &&& H.lead s.f0.toNat = 0
      rw [e]
      exact two_pow_and (fun h => hex ⟨s, hs, by rw [e, h]⟩))
    have hnf : l.find? (fun x => x.f0.toNat == 2 ^ i) = none := by
      rw [List.find?_eq_none]
      intro s hs hs2
      have hs2' : s.f0.toNat = 2 ^ i := by simpa using hs2
      exact hex ⟨s, hs, by rw [hs2']; exact lead_two_pow i hi⟩
    rw [hid, hnf, if_pos (by have := Nat.two_pow_pos i; show (2 ^ i : Nat) ≠ 0; omega)]
end Go.Proofs.Ytknlbeojdmeljaa.L
