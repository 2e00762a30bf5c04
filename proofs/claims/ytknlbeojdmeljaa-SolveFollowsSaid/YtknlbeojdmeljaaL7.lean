import Derived.Test.YtknlbeojdmeljaaL6
import Derived.Test.YtknlbeojdmeljaaP12
namespace Go.Proofs.Ytknlbeojdmeljaa.L
open Go.RowKit Go.Proofs.YtknlbeojdmeljaaW.PrintWords Go.Proofs.YtknlbeojdmeljaaW.PrintLast Go.Proofs.YtknlbeojdmeljaaW.PrintMore Go.Proofs.Ytknlbeojdmeljaa.P Go.Proofs.Ytknlbeojdmeljaa.H
set_option linter.unusedVariables false
set_option linter.unusedSimpArgs false

theorem desc_len : ∀ (L : List Nat) (n : Nat), L.Pairwise (· > ·) → (∀ x ∈ L, x < n) → L.length ≤ n
  | [], _, _, _ => by simp
  | a :: L, n, hp, h => by
    rw [List.pairwise_cons] at hp
    have h1 := desc_len L a hp.2 (fun x hx => hp.1 x hx)
    have h2 := h a List.mem_cons_self
    simp only [List.length_cons]
    omega
theorem desc_full : ∀ (L : List Nat) (n : Nat), L.Pairwise (· > ·) → (∀ x ∈ L, x < n) → L.length = n → ∀ i, i < n → i ∈ L
  | [], n, _, _, hl, i, hi => by simp at hl; omega
  | a :: L, n, hp, h, hl, i, hi => by
    rw [List.pairwise_cons] at hp
    have h1 := desc_len L a hp.2 (fun x hx => hp.1 x hx)
    have h2 := h a List.mem_cons_self
    simp only [List.length_cons] at hl
    by_cases e : i = a
    · rw [e]; exact List.mem_cons_self
    · exact List.mem_cons_of_mem _ (desc_full L a hp.2 (fun x hx => hp.1 x hx) (by omega) i (by omega))
def expo (r : S25) : Nat := Nat.log2 (H.lead r.f0.toNat)
theorem expo_spec {l : List S25} (hl : GR l) {r : S25} (hr : r ∈ l) : expo r < 16 ∧ H.lead r.f0.toNat = 2 ^ expo r := by
  obtain ⟨j, hj, e, _⟩ := hl.lead hr
  unfold expo
  rw [e, Nat.log2_two_pow]
  exact ⟨hj, rfl⟩
theorem expo_desc {l : List S25} (hl : GR l) (hv : VP l) : (l.map expo).Pairwise (· > ·) := by
  have h := hv.pair
  rw [List.pairwise_map]
  refine List.Pairwise.imp_of_mem ?_ h
  intro a b ha hb hab
  have h1 := (expo_spec hl ha).2
  have h2 := (expo_spec hl hb).2
  have h3 := hab.2.2
  rw [h1, h2] at h3
  exact (Nat.pow_lt_pow_iff_right (by omega)).1 h3
theorem len16 {l : List S25} (hl : GR l) (hv : VP l) : l.length ≤ 16 := by
  have := desc_len (l.map expo) 16 (expo_desc hl hv) (fun x hx => by
    obtain ⟨r, hr, rfl⟩ := List.mem_map.1 hx
    exact (expo_spec hl hr).1)
  simpa using this
theorem all16 {l : List S25} (hl : GR l) (hv : VP l) (h16 : l.length = 16) (i : Nat) (hi : i < 16) : ∃ r ∈ l, r.f0.toNat = 2 ^ i := by
  have hfull : ∀ j, j < 16 → ∃ r ∈ l, H.lead r.f0.toNat = 2 ^ j := by
    intro j hj
    have := desc_full (l.map expo) 16 (expo_desc hl hv) (fun x hx => by
      obtain ⟨r, hr, rfl⟩ := List.mem_map.1 hx
      exact (expo_spec hl hr).1) (by simpa using h16) j hj
    obtain ⟨r, hr, e⟩ := List.mem_map.1 this
    exact ⟨r, hr, by rw [(expo_spec hl hr).2, e]⟩
  obtain ⟨r, hr, e⟩ := hfull i hi
  refine ⟨r, hr, ?_⟩
  obtain ⟨a, ha, rfl⟩ := at_mem hr
  have hfin := fine_spec (hl.fine _ hr)
  apply Nat.eq_of_testBit_eq
  intro j
  rw [Nat.testBit_two_pow]
  by_cases hij : i = j
  · subst hij
    obtain ⟨j2, _, e2, hb⟩ := hl.lead hr
    rw [e] at e2
    rw [(Nat.pow_right_inj (show 1 < 2 by omega)).1 e2]
    simpa using hb
  · simp only [hij, decide_false]
    by_cases hj : j < 16
    · obtain ⟨s, hs, e2⟩ := hfull j hj
      obtain ⟨b, hb, rfl⟩ := at_mem hs
      have hab : b ≠ a := by
        rintro rfl
        rw [e] at e2
        exact hij ((Nat.pow_right_inj (show 1 < 2 by omega)).1 e2)
      have h := hv.red b a hb ha hab
      have h2 : (at_ l a).f0.toNat &&& H.lead (at_ l b).f0.toNat = 0 := h
      rw [e2, and_two_pow] at h2
      by_cases ht : (at_ l a).f0.toNat.testBit j = true
      · rw [if_pos ht] at h2
        have := Nat.two_pow_pos j
        omega
      · simpa using ht
    · refine Nat.testBit_lt_two_pow (Nat.lt_of_lt_of_le (show (at_ l a).f0.toNat < 2 ^ 16 by omega) (Nat.pow_le_pow_right (by omega) (by omega)))
theorem shl_small : ∀ i : Nat, i < 16 → shl .i64 1 (i : Int) = ((2 ^ i : Nat) : Int)
  | 0, _ | 1, _ | 2, _ | 3, _ | 4, _ | 5, _ | 6, _ | 7, _ | 8, _ | 9, _ | 10, _ | 11, _ | 12, _ | 13, _ | 14, _ | 15, _ => by decide
  | n + 16, h => absurd h (by omega)
theorem enough_l0 (l : List S25) (hgr : GR l) (hv : validS l = true) : ∀ n i : Nat, i + n = 16 → Ev (fun k => slotmeshlaw33_SolveEnough.l0 k l true (i : Int)) true := by
  have hvp := (validS_iff l).1 hv
  intro n
  induction n with
  | zero =>
    intro i hi
    refine Ev.one (fun k => ?_)
    have h16 := len16 hgr hvp
    rw [slotmeshlaw33_SolveEnough.l0, if_neg (by omega), if_pos rfl]
    congr 1
    exact decide_eq_true (by omega)
  | succ n ih =>
    intro i hi
    have hpow : 2 ^ i < 65536 := by have : 2 ^ i < 2 ^ 16 := Nat.pow_lt_pow_right (by omega) (by omega); omega
    have hs : solvedS l (i : Int) = match l.find? (fun x => x.f0.toNat == 2 ^ i) with | some x => (x.f1, true) | none => ([], false) := by
      unfold solvedS; rw [if_neg (by rw [hv]; simp; omega)]; rfl
    have heq : solvedS l (i : Int) = sumS l ((2 ^ i : Nat) : Int) := by
      rw [hs, sumS_eq hv (2 ^ i) hpow]
      exact solved_sum hgr hvp i (by omega)
    have hlen : (solvedS l (i : Int)).1.length < 9223372036854775808 := by
      rw [hs]
      cases hf : l.find? (fun x => x.f0.toNat == 2 ^ i) with
      | none => simp
      | some x =>
        have := fine_spec (hgr.fine x (List.mem_of_find?_eq_some hf))
        simp only
        omega
    have hby := refBytes (solvedS l (i : Int)).1 (solvedS l (i : Int)).1 hlen
    refine hby.succ2 (ih (i + 1) (by omega)) (fun k h1 h2 => ?_)
    rw [slotmeshlaw33_SolveEnough.l0, if_pos (by omega)]
    show (Option.bind (some (solvedS l (i : Int))) _) = _
    simp only [Option.bind_some]
    rw [if_pos (by omega), shl_small i (by omega)]
    show (Option.bind (some (sumS l ((2 ^ i : Nat) : Int))) _) = _
    simp only [Option.bind_some]
    rw [← heq, if_neg (by simp), h1]
    simp only [Option.bind_some, beq_self_eq_true, if_true]
    rw [wrap_succ i (by omega)]
    by_cases h16 : l.length = 16
    · have hsol : (solvedS l (i : Int)).2 = true := by
        rw [hs]
        obtain ⟨r, hr, hm⟩ := all16 hgr hvp h16 i (by omega)
        cases hf : l.find? (fun x => x.f0.toNat == 2 ^ i) with
        | none =>
          rw [List.find?_eq_none] at hf
          exact absurd (by simpa using hm) (hf r hr)
        | some x => rfl
      rw [if_pos (by omega), hsol, if_pos rfl]
      exact h2
    · rw [if_neg (by omega)]
      exact h2
theorem enough_ev (l : List S25) (hl : l.length < 9223372036854775808) (hr : ∀ x ∈ l, ∀ b ∈ x.f1, isB b) : Ev (fun k => slotmeshlaw33_SolveEnough.f k l) true := by
  show Ev (fun k => (slotmeshref33_Few.f k l).bind fun t310 => (if t310 = true then ((slotmeshref33_Valid.f k l).bind fun t311 => (slotmeshlaw33_SolveEnough.j0 k l true (!t311))) else (slotmeshlaw33_SolveEnough.j0 k l true true))) true
  refine guard_ev hl (g := fun k t => slotmeshlaw33_SolveEnough.j0 k l true t) (Ev.one (fun k => by rw [slotmeshlaw33_SolveEnough.j0, if_pos rfl])) (fun hf hv => ?_)
  refine (enough_l0 l (GR.of_valid hv hr) hv 16 0 (by omega)).succ (fun k hk => ?_)
  rw [slotmeshlaw33_SolveEnough.j0, if_neg (by simp)]
  exact hk
end Go.Proofs.Ytknlbeojdmeljaa.L
