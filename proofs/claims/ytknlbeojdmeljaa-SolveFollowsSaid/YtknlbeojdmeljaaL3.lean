import Derived.Test.YtknlbeojdmeljaaL2
namespace Go.Proofs.Ytknlbeojdmeljaa.L
open Go.RowKit Go.Proofs.YtknlbeojdmeljaaW.PrintWords Go.Proofs.YtknlbeojdmeljaaW.PrintLast Go.Proofs.YtknlbeojdmeljaaW.PrintMore Go.Proofs.Ytknlbeojdmeljaa.P Go.Proofs.Ytknlbeojdmeljaa.H
set_option linter.unusedVariables false
set_option linter.unusedSimpArgs false

theorem Ev.bind {α β : Type} {f : Nat → Option α} {g : Nat → α → Option β} {r : α} {s : β} (h1 : Ev f r) (h2 : Ev (fun k => g k r) s) : Ev (fun k => (f k).bind (g k)) s := by
  obtain ⟨K1, h1⟩ := h1
  obtain ⟨K2, h2⟩ := h2
  exact ⟨K1 + K2, fun k hk => by show (f k).bind (g k) = some s; rw [h1 k (by omega)]; exact h2 k (by omega)⟩
theorem Ev.const {α : Type} (r : α) : Ev (fun _ => some r) r := ⟨0, fun _ _ => rfl⟩
theorem Ev.up {α : Type} {f g : Nat → Option α} {r : α} (h : Ev f r) (e : ∀ k, g (k + 1) = f k) : Ev g r := h.succ (fun k hk => (e k).trans hk)

theorem refSum (l : List S25) (hl : l.length < 9223372036854775808) (a : Int) : Ev (fun k => slotmeshref33_Sum.f k l a) (sumS l a) := by
  have hno : Ev (fun k => slotmeshref33_Sum.j0 k l a true) (([] : List Int), false) := Ev.one (fun k => by rw [slotmeshref33_Sum.j0, if_pos rfl])
  refine Ev.bind (f := fun k => slotmeshref33_Valid.f k l) (g := fun k t => if t = true then (if a < 0 then (slotmeshref33_Sum.j0 k l a true) else (slotmeshref33_Sum.j0 k l a (decide (a ≥ 65536)))) else (slotmeshref33_Sum.j0 k l a true)) (refValid' l hl) ?_
  cases hv : validS l
  · have : sumS l a = ([], false) := if_pos (.inr (.inr hv))
    rw [this]
    exact hno
  · show Ev (fun k => if a < 0 then slotmeshref33_Sum.j0 k l a true else slotmeshref33_Sum.j0 k l a (decide (a ≥ 65536))) _
    by_cases h1 : a < 0
    · have : sumS l a = ([], false) := if_pos (.inl h1)
      rw [this]
      simp only [if_pos h1]
      exact hno
    · simp only [if_neg h1]
      by_cases h2 : a ≥ 65536
      · have : sumS l a = ([], false) := if_pos (.inr (.inl h2))
        rw [this, decide_eq_true h2]
        exact hno
      · rw [decide_eq_false h2]
        obtain ⟨m, rfl⟩ := Int.eq_ofNat_of_zero_le (show 0 ≤ a by omega)
        have hs : sumS l (m : Int) = if (redS l (m, z16)).1 ≠ 0 then ([], false) else ((redS l (m, z16)).2, true) := by
          unfold sumS; rw [if_neg (by rw [hv]; simp; omega)]; rfl
        rw [hs]
        have hr := refReduce l hl hv m z16 (by omega) rfl
        have h3 : Ev (fun k => (slotmeshref33_reduce.f k l (m : Int) (List.replicate 16 0)).bind fun bt145 => (if bt145.1 = 0 then (some (bt145.2, true)) else (some (([] : List Int), false)))) (if (redS l (m, z16)).1 ≠ 0 then ([], false) else ((redS l (m, z16)).2, true)) := by
          refine Ev.bind hr ?_
          by_cases h0 : (redS l (m, z16)).1 = 0
          · refine ⟨0, fun k _ => ?_⟩
            show (if ((redS l (m, z16)).1 : Int) = 0 then _ else _) = _
            rw [if_pos (by omega), if_neg (fun h => h h0)]
          · refine ⟨0, fun k _ => ?_⟩
            show (if ((redS l (m, z16)).1 : Int) = 0 then _ else _) = _
            rw [if_neg (by omega), if_pos h0]
        refine h3.up (fun k => ?_)
        rw [slotmeshref33_Sum.j0, if_neg (by simp), if_pos (by omega)]

theorem shl16 : ∀ k : Nat, k < 16 → shl .i64 1 (IntKind.u64.wrap (k : Int)) = ((2 ^ k : Nat) : Int) ∧ 0 ≤ IntKind.u64.wrap (k : Int)
  | 0, _ | 1, _ | 2, _ | 3, _ | 4, _ | 5, _ | 6, _ | 7, _ | 8, _ | 9, _ | 10, _ | 11, _ | 12, _ | 13, _ | 14, _ | 15, _ => by decide
  | n + 16, h => absurd h (by omega)
theorem solved_l0 (l : List S25) (hl : l.length < 9223372036854775808) (hv : ∀ x ∈ l, fineB x.f0 x.f1 = true) (c : Nat) (hc : c < 16) : ∀ n i, i + n = l.length →
    Ev (fun k => slotmeshref33_Solved.l0 k (c : Int) l (i : Int)) (match (l.drop i).find? (fun x => x.f0.toNat == 2 ^ c) with | some x => (x.f1, true) | none => ([], false)) := by
  intro n
  induction n with
  | zero =>
    intro i hi
    refine Ev.one (fun k => ?_)
    rw [slotmeshref33_Solved.l0, if_neg (by omega), List.drop_of_length_le (by omega)]
    rfl
  | succ n ih =>
    intro i hi
    have hfi := fine_spec (hv _ (mem_at (show i < l.length by omega)))
    obtain ⟨h1, h2⟩ := shl16 c hc
    rw [drop_at l i (by omega), List.find?_cons]
    by_cases hz : (at_ l i).f0.toNat = 2 ^ c
    · refine Ev.one (fun k => ?_)
      rw [slotmeshref33_Solved.l0, if_pos (by omega), if_pos (by omega), if_pos h2, rd_at, h1, if_pos (by omega)]
      simp [hz]
    · refine (ih (i + 1) (by omega)).succ (fun k hk => ?_)
      rw [slotmeshref33_Solved.l0, if_pos (by omega), if_pos (by omega), if_pos h2, rd_at, h1, if_neg (by omega), wrap_succ i (by omega), hk]
      have : ((at_ l i).f0.toNat == 2 ^ c) = false := by rw [beq_eq_false_iff_ne]; exact hz
      rw [this]
theorem refSolved (l : List S25) (hl : l.length < 4398046511104) (a : Int) : Ev (fun k => slotmeshref33_Solved.f k l a) (solvedS l a) := by
  have hno : Ev (fun k => slotmeshref33_Solved.j0 k l a true) (([] : List Int), false) := Ev.one (fun k => by rw [slotmeshref33_Solved.j0, if_pos rfl])
  refine Ev.bind (f := fun k => slotmeshref33_Valid.f k l) (g := fun k t => if t = true then (if a < 0 then (slotmeshref33_Solved.j0 k l a true) else (slotmeshref33_Solved.j0 k l a (decide (a ≥ 16)))) else (slotmeshref33_Solved.j0 k l a true)) (refValid' l (by omega)) ?_
  cases hv : validS l
  · have : solvedS l a = ([], false) := if_pos (.inr (.inr hv))
    rw [this]
    exact hno
  · show Ev (fun k => if a < 0 then slotmeshref33_Solved.j0 k l a true else slotmeshref33_Solved.j0 k l a (decide (a ≥ 16))) _
    by_cases h1 : a < 0
    · have : solvedS l a = ([], false) := if_pos (.inl h1)
      rw [this]
      simp only [if_pos h1]
      exact hno
    · simp only [if_neg h1]
      by_cases h2 : a ≥ 16
      · have : solvedS l a = ([], false) := if_pos (.inr (.inl h2))
        rw [this, decide_eq_true h2]
        exact hno
      · rw [decide_eq_false h2]
        obtain ⟨c, rfl⟩ := Int.eq_ofNat_of_zero_le (show 0 ≤ a by omega)
        have hs : solvedS l (c : Int) = match l.find? (fun x => x.f0.toNat == 2 ^ c) with | some x => (x.f1, true) | none => ([], false) := by
          unfold solvedS; rw [if_neg (by rw [hv]; simp; omega)]; rfl
        rw [hs]
        have hvp := ((validS_iff l).1 hv).fine
        have h3 : Ev (fun k => (slotmeshref33_Copy.f k l).bind fun t136 => (slotmeshref33_Solved.l0 k (c : Int) t136 0)) (match l.find? (fun x => x.f0.toNat == 2 ^ c) with | some x => (x.f1, true) | none => ([], false)) :=
          Ev.bind (refCopy l hl (fun x hx => by have := fine_spec (hvp x hx); omega)) (solved_l0 l (by omega) hvp c (by omega) l.length 0 (by omega))
        refine h3.up (fun k => ?_)
        rw [slotmeshref33_Solved.j0, if_neg (by simp)]
end Go.Proofs.Ytknlbeojdmeljaa.L
