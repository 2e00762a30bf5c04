import Derived.Test.YtknlbeojdmeljaaL1
namespace Go.Proofs.Ytknlbeojdmeljaa.L
open Go.RowKit Go.Proofs.YtknlbeojdmeljaaW.PrintWords Go.Proofs.YtknlbeojdmeljaaW.PrintLast Go.Proofs.YtknlbeojdmeljaaW.PrintMore Go.Proofs.Ytknlbeojdmeljaa.P Go.Proofs.Ytknlbeojdmeljaa.H
set_option linter.unusedVariables false
set_option linter.unusedSimpArgs false

theorem rd_nat (l : List Int) (i : Nat) : rd l (i : Int) = l.getD i 0 := by simp [rd]
theorem xorD_snoc (a b : List Int) (i : Nat) (ha : i < a.length) (hb : i < b.length) : xorD (a.take i) (b.take i) ++ [xorB (a.getD i 0) (b.getD i 0)] = xorD (a.take (i + 1)) (b.take (i + 1)) := by
  rw [List.take_succ_eq_append_getElem ha, List.take_succ_eq_append_getElem hb]
  unfold xorD
  rw [List.zipWith_append (by simp; omega)]
  simp [List.getD, List.getElem?_eq_getElem ha, List.getElem?_eq_getElem hb]
theorem xor_l0 (a b : List Int) (ha : 16 ≤ a.length) (hb : 16 ≤ b.length) : ∀ n i, i + n = 16 → Ev (fun k => slotmeshref33_Xor.l0 k a b (xorD (a.take i) (b.take i)) (i : Int)) (xorD (a.take 16) (b.take 16)) := by
  intro n
  induction n with
  | zero =>
    intro i hi
    refine Ev.one (fun k => ?_)
    rw [slotmeshref33_Xor.l0, if_neg (by omega), show i = 16 by omega]
  | succ n ih =>
    intro i hi
    refine (ih (i + 1) (by omega)).succ (fun k hk => ?_)
    rw [slotmeshref33_Xor.l0, if_pos (by omega), if_pos (by omega), if_pos (by omega), if_pos (by omega), if_pos (by
      unfold xorD; rw [List.length_zipWith, List.length_take, List.length_take]; omega), rd_nat, rd_nat, wrap_succ i (by omega)]
    rw [show (xorD (a.take i) (b.take i) ++ [Go.bits .xor .u8 (a.getD i 0) (b.getD i 0)]) = xorD (a.take (i + 1)) (b.take (i + 1)) from xorD_snoc a b i (by omega) (by omega)]
    exact hk
theorem refXor (a b : List Int) (ha : a.length = 16) (hb : b.length = 16) : Ev (fun k => slotmeshref33_Xor.f k a b) (xorD a b) := by
  have := xor_l0 a b (by omega) (by omega) 16 0 (by omega)
  rw [List.take_of_length_le (show a.length ≤ 16 by omega), List.take_of_length_le (show b.length ≤ 16 by omega)] at this
  exact this

theorem i64_xor_int (a b : Int) (ha : 0 ≤ a ∧ a < 65536) (hb : 0 ≤ b ∧ b < 65536) : Go.bits .xor .i64 a b = ((a.toNat ^^^ b.toNat : Nat) : Int) := by
  obtain ⟨m, rfl⟩ := Int.eq_ofNat_of_zero_le ha.1
  obtain ⟨n, rfl⟩ := Int.eq_ofNat_of_zero_le hb.1
  exact i64_xor_nat m n (by omega) (by omega)
theorem stepS_ok (x : Nat × List Int) (r : S25) (hr : fineB r.f0 r.f1 = true) (h : x.1 < 65536 ∧ x.2.length = 16) : (stepS x r).1 < 65536 ∧ (stepS x r).2.length = 16 := step1_ok x ⟨r, hr⟩ h
theorem drop_at (l : List S25) (i : Nat) (h : i < l.length) : l.drop i = at_ l i :: l.drop (i + 1) := by
  rw [List.drop_eq_getElem_cons h]
  congr 1
  unfold at_
  rw [List.getD_eq_getElem?_getD, List.getElem?_eq_getElem h]
  rfl
theorem reduce_l0 (l : List S25) (hl : l.length < 9223372036854775808) (hv : ∀ x ∈ l, fineB x.f0 x.f1 = true) : ∀ n i, i + n = l.length → ∀ (m : Nat) (d : List Int), m < 65536 → d.length = 16 →
    Ev (fun k => slotmeshref33_reduce.l0 k l (i : Int) (m : Int) d) (((redS (l.drop i) (m, d)).1 : Int), (redS (l.drop i) (m, d)).2) := by
  intro n
  induction n with
  | zero =>
    intro i hi m d hm hd
    refine Ev.one (fun k => ?_)
    rw [slotmeshref33_reduce.l0, if_neg (by omega), List.drop_of_length_le (by omega)]
    rfl
  | succ n ih =>
    intro i hi m d hm hd
    have hf := hv _ (mem_at (show i < l.length by omega))
    have hfi := fine_spec hf
    have hle := leading_ev' (at_ l i).f0 hfi.1 hfi.2.1
    have hll := lead_lt (at_ l i).f0.toNat (by omega)
    have hand := i64_and_nat m _ (show m < 9223372036854775808 by omega) (show lead (at_ l i).f0.toNat < 9223372036854775808 by omega)
    rw [drop_at l i (by omega)]
    by_cases hz : m &&& lead (at_ l i).f0.toNat = 0
    · have hst : redS (at_ l i :: l.drop (i + 1)) (m, d) = redS (l.drop (i + 1)) (m, d) := by
        show redS (l.drop (i + 1)) (stepS (m, d) (at_ l i)) = _
        rw [show stepS (m, d) (at_ l i) = (m, d) from if_neg (by simpa using hz)]
      rw [hst]
      refine hle.succ2 (ih (i + 1) (by omega) m d hm hd) (fun k h1 h2 => ?_)
      rw [slotmeshref33_reduce.l0, if_pos (by omega), if_pos (by omega), rd_at, h1]
      simp only [Option.bind_some]
      rw [hand, if_pos (by rw [hz]; rfl), wrap_succ i (by omega)]
      exact h2
    · have hst : redS (at_ l i :: l.drop (i + 1)) (m, d) = redS (l.drop (i + 1)) (m ^^^ (at_ l i).f0.toNat, xorD d (at_ l i).f1) := by
        show redS (l.drop (i + 1)) (stepS (m, d) (at_ l i)) = _
        rw [show stepS (m, d) (at_ l i) = (m ^^^ (at_ l i).f0.toNat, xorD d (at_ l i).f1) from if_pos hz]
      rw [hst]
      have hok := stepS_ok (m, d) (at_ l i) hf ⟨hm, hd⟩
      rw [show stepS (m, d) (at_ l i) = (m ^^^ (at_ l i).f0.toNat, xorD d (at_ l i).f1) from if_pos hz] at hok
      have hx := refXor d (at_ l i).f1 hd hfi.2.2
      have hxr := i64_xor_int (m : Int) (at_ l i).f0 (by omega) (by omega)
      rw [Int.toNat_natCast] at hxr
      obtain ⟨K, hK⟩ := hle.and hx
      have h3 : Ev (fun k => (slotmeshref33_Leading.f k (at_ l i).f0).bind fun a => (slotmeshref33_Xor.f k d (at_ l i).f1).bind fun b => some (a, b)) ((lead (at_ l i).f0.toNat : Int), xorD d (at_ l i).f1) := ⟨K, fun k hk => by simp only [(hK k hk).1, (hK k hk).2, Option.bind_some]⟩
      refine h3.succ2 (ih (i + 1) (by omega) _ _ hok.1 hok.2) (fun k h1 h2 => ?_)
      have ha : slotmeshref33_Leading.f k (at_ l i).f0 = some (lead (at_ l i).f0.toNat : Int) ∧ slotmeshref33_Xor.f k d (at_ l i).f1 = some (xorD d (at_ l i).f1) := by
        cases e1 : slotmeshref33_Leading.f k (at_ l i).f0 with
        | none => rw [e1] at h1; cases h1
        | some a =>
          cases e2 : slotmeshref33_Xor.f k d (at_ l i).f1 with
          | none => rw [e1, e2] at h1; cases h1
          | some b =>
            rw [e1, e2] at h1
            simp only [Option.bind_some, Option.some.injEq, Prod.mk.injEq] at h1
            exact ⟨by rw [h1.1], by rw [h1.2]⟩
      rw [slotmeshref33_reduce.l0, if_pos (by omega), if_pos (by omega), rd_at, ha.1]
      simp only [Option.bind_some]
      rw [hand, if_neg (by omega), ha.2]
      simp only [Option.bind_some]
      rw [wrap_succ i (by omega), hxr]
      exact h2
theorem refReduce (l : List S25) (hl : l.length < 9223372036854775808) (hv : validS l = true) (m : Nat) (d : List Int) (hm : m < 65536) (hd : d.length = 16) :
    Ev (fun k => slotmeshref33_reduce.f k l (m : Int) d) (((redS l (m, d)).1 : Int), (redS l (m, d)).2) :=
  reduce_l0 l hl ((validS_iff l).1 hv).fine l.length 0 (by omega) m d hm hd

theorem zero_l0 (b : List Int) (hl : b.length < 9223372036854775808) : ∀ n i, i + n = b.length → Ev (fun k => slotmeshref33_Zero.l0 k b (i : Int)) ((b.drop i).all (· == 0)) := by
  intro n
  induction n with
  | zero =>
    intro i hi
    refine Ev.one (fun k => ?_)
    rw [slotmeshref33_Zero.l0, if_neg (by omega), List.drop_of_length_le (by omega)]
    rfl
  | succ n ih =>
    intro i hi
    have hd : b.drop i = b.getD i 0 :: b.drop (i + 1) := by
      rw [List.drop_eq_getElem_cons (by omega), List.getD_eq_getElem?_getD, List.getElem?_eq_getElem (show i < b.length by omega)]
      rfl
    rw [hd]
    by_cases hz : b.getD i 0 = 0
    · refine (ih (i + 1) (by omega)).succ (fun k hk => ?_)
      rw [slotmeshref33_Zero.l0, if_pos (by omega), if_pos (by omega), rd_nat, if_pos hz, wrap_succ i (by omega), List.all_cons, hz]
      exact hk
    · refine Ev.one (fun k => ?_)
      rw [slotmeshref33_Zero.l0, if_pos (by omega), if_pos (by omega), rd_nat, if_neg hz, List.all_cons]
      have h2 : (b.getD i 0 == 0) = false := by rw [beq_eq_false_iff_ne]; exact hz
      rw [h2]
      rfl
theorem refZero (b : List Int) (hl : b.length < 9223372036854775808) : Ev (fun k => slotmeshref33_Zero.f k b) (b.all (· == 0)) := zero_l0 b hl b.length 0 (by omega)
theorem copy_l0 (l : List S25) (hl : l.length < 4398046511104) (hd : ∀ x ∈ l, x.f1.length < 140737488355328) : ∀ n i, i + n = l.length → Ev (fun k => slotmeshref33_Copy.l0 k l (l.take i) (i : Int)) l := by
  intro n
  induction n with
  | zero =>
    intro i hi
    refine Ev.one (fun k => ?_)
    rw [slotmeshref33_Copy.l0, if_neg (by omega), List.take_of_length_le (by omega)]
  | succ n ih =>
    intro i hi
    refine (ih (i + 1) (by omega)).succ (fun k hk => ?_)
    have h1 := hd _ (mem_at (show i < l.length by omega))
    rw [slotmeshref33_Copy.l0, if_pos (by omega), if_pos (by omega), rd_at, if_pos (by simpa using h1), if_pos (by rw [List.length_take]; omega), wrap_succ i (by omega)]
    have e : l.take i ++ [(⟨(at_ l i).f0, [] ++ (at_ l i).f1⟩ : S25)] = l.take (i + 1) := by
      rw [List.take_succ_eq_append_getElem (show i < l.length by omega)]
      congr 2
      unfold at_
      rw [List.getD_eq_getElem?_getD, List.getElem?_eq_getElem (show i < l.length by omega)]
      simp
    rw [e]
    exact hk
theorem refCopy (l : List S25) (hl : l.length < 4398046511104) (hd : ∀ x ∈ l, x.f1.length < 140737488355328) : Ev (fun k => slotmeshref33_Copy.f k l) l := copy_l0 l hl hd l.length 0 (by omega)
theorem bytes_l0 (a b : List Int) (he : a.length = b.length) (hl : a.length < 9223372036854775808) : ∀ n i, i + n = a.length → Ev (fun k => slotmeshref33_Bytes.l0 k a b (i : Int)) (a.drop i == b.drop i) := by
  intro n
  induction n with
  | zero =>
    intro i hi
    refine Ev.one (fun k => ?_)
    rw [slotmeshref33_Bytes.l0, if_neg (by omega), List.drop_of_length_le (by omega), List.drop_of_length_le (by omega)]
    rfl
  | succ n ih =>
    intro i hi
    have hd : ∀ c : List Int, i < c.length → c.drop i = c.getD i 0 :: c.drop (i + 1) := fun c hc => by
      rw [List.drop_eq_getElem_cons hc, List.getD_eq_getElem?_getD, List.getElem?_eq_getElem hc]
      rfl
    rw [hd a (by omega), hd b (by omega)]
    by_cases hz : a.getD i 0 = b.getD i 0
    · refine (ih (i + 1) (by omega)).succ (fun k hk => ?_)
      rw [slotmeshref33_Bytes.l0, if_pos (by omega), if_pos (by omega), if_pos (by omega), rd_nat, rd_nat, if_pos hz, wrap_succ i (by omega), hz]
      simpa using hk
    · refine Ev.one (fun k => ?_)
      rw [slotmeshref33_Bytes.l0, if_pos (by omega), if_pos (by omega), if_pos (by omega), rd_nat, rd_nat, if_neg hz]
      simp only [Option.some.injEq]
      symm
      rw [beq_eq_false_iff_ne]
      intro h
      injection h with h1
      exact hz h1
theorem refBytes (a b : List Int) (hl : a.length < 9223372036854775808) : Ev (fun k => slotmeshref33_Bytes.f k a b) (a == b) := by
  by_cases he : a.length = b.length
  · refine (bytes_l0 a b he hl a.length 0 (by omega)).map (fun k hk => ?_)
    rw [slotmeshref33_Bytes.f, if_pos (by omega)]
    exact hk
  · refine ⟨0, fun k _ => ?_⟩
    show slotmeshref33_Bytes.f k a b = _
    rw [slotmeshref33_Bytes.f, if_neg (by omega)]
    congr 1
    symm
    rw [beq_eq_false_iff_ne]
    rintro rfl
    exact he rfl
def sameB (a b : List S25) : Bool := a.map (fun x => (x.f0, x.f1)) == b.map (fun x => (x.f0, x.f1))
theorem same_l0 (a b : List S25) (he : a.length = b.length) (hl : a.length < 9223372036854775808) (hd : ∀ x ∈ a, x.f1.length < 9223372036854775808) : ∀ n i, i + n = a.length → Ev (fun k => slotmeshref33_Same.l0 k a b (i : Int)) (sameB (a.drop i) (b.drop i)) := by
  intro n
  induction n with
  | zero =>
    intro i hi
    refine Ev.one (fun k => ?_)
    rw [slotmeshref33_Same.l0, if_neg (by omega), List.drop_of_length_le (by omega), List.drop_of_length_le (by omega)]
    rfl
  | succ n ih =>
    intro i hi
    rw [drop_at a i (by omega), drop_at b i (by omega)]
    by_cases hz : (at_ a i).f0 = (at_ b i).f0
    · have hb := refBytes (at_ a i).f1 (at_ b i).f1 (hd _ (mem_at (by omega)))
      by_cases hy : (at_ a i).f1 = (at_ b i).f1
      · refine hb.succ2 (ih (i + 1) (by omega)) (fun k h1 h2 => ?_)
        rw [slotmeshref33_Same.l0, if_pos (by omega), if_pos (by omega), if_pos (by omega), rd_at, rd_at, if_pos hz, h1]
        simp only [Option.bind_some]
        rw [if_pos (by simpa using hy), wrap_succ i (by omega), h2]
        simp [sameB, hz, hy]
      · refine hb.succ (fun k h1 => ?_)
        rw [slotmeshref33_Same.l0, if_pos (by omega), if_pos (by omega), if_pos (by omega), rd_at, rd_at, if_pos hz, h1]
        simp only [Option.bind_some]
        rw [if_neg (by simpa using hy)]
        simp [sameB, hy]
    · refine Ev.one (fun k => ?_)
      rw [slotmeshref33_Same.l0, if_pos (by omega), if_pos (by omega), if_pos (by omega), rd_at, rd_at, if_neg hz]
      simp [sameB, hz]
theorem refSame (a b : List S25) (hl : a.length < 9223372036854775808) (hd : ∀ x ∈ a, x.f1.length < 9223372036854775808) : Ev (fun k => slotmeshref33_Same.f k a b) (sameB a b) := by
  by_cases he : a.length = b.length
  · refine (same_l0 a b he hl hd a.length 0 (by omega)).map (fun k hk => ?_)
    rw [slotmeshref33_Same.f, if_pos (by omega)]
    exact hk
  · refine ⟨0, fun k _ => ?_⟩
    show slotmeshref33_Same.f k a b = _
    rw [slotmeshref33_Same.f, if_neg (by omega)]
    congr 1
    symm
    unfold sameB
    rw [beq_eq_false_iff_ne]
    intro h
    have := congrArg List.length h
    simp at this
    exact he this
theorem sameB_self (a : List S25) : sameB a a = true := by simp [sameB]
theorem few_l0 (l : List S25) (hl : l.length < 9223372036854775808) : ∀ n i, i + n = l.length → Ev (fun k => slotmeshref33_Few.l0 k l (i : Int)) ((l.drop i).all (fun x => decide (x.f1.length ≤ 100)) && decide (l.length ≤ 40)) := by
  intro n
  induction n with
  | zero =>
    intro i hi
    refine Ev.one (fun k => ?_)
    rw [slotmeshref33_Few.l0, if_neg (by omega), List.drop_of_length_le (by omega)]
    simp
    omega
  | succ n ih =>
    intro i hi
    rw [drop_at l i (by omega)]
    by_cases hz : (at_ l i).f1.length ≤ 100
    · refine (ih (i + 1) (by omega)).succ (fun k hk => ?_)
      rw [slotmeshref33_Few.l0, if_pos (by omega), if_pos (by omega), rd_at, if_neg (by omega), wrap_succ i (by omega), hk]
      simp [hz]
    · refine Ev.one (fun k => ?_)
      rw [slotmeshref33_Few.l0, if_pos (by omega), if_pos (by omega), rd_at, if_pos (by omega)]
      simp [hz]
def fewB (l : List S25) : Bool := l.all (fun x => decide (x.f1.length ≤ 100)) && decide (l.length ≤ 40)
theorem refFew (l : List S25) (hl : l.length < 9223372036854775808) : Ev (fun k => slotmeshref33_Few.f k l) (fewB l) := few_l0 l hl l.length 0 (by omega)
end Go.Proofs.Ytknlbeojdmeljaa.L
