import Derived.Lib.ItoaNum
import Derived.Test.YtknlbeojdmeljaaH9
import Derived.Test.YtknlbeojdmeljaaP4
namespace Go.Proofs.Ytknlbeojdmeljaa.L
open Go.RowKit Go.Proofs.YtknlbeojdmeljaaW.PrintWords Go.Proofs.YtknlbeojdmeljaaW.PrintLast Go.Proofs.YtknlbeojdmeljaaW.PrintMore Go.Proofs.Ytknlbeojdmeljaa.P Go.Proofs.Ytknlbeojdmeljaa.H
set_option linter.unusedVariables false
set_option linter.unusedSimpArgs false

/-- with fuel enough -/
def Ev {α : Type} (f : Nat → Option α) (r : α) : Prop := ∃ K, ∀ k, K ≤ k → f k = some r
theorem Ev.succ {α β : Type} {f : Nat → Option α} {g : Nat → Option β} {r : α} {s : β} (h : Ev f r) (e : ∀ k, f k = some r → g (k + 1) = some s) : Ev g s := by
  obtain ⟨K, h⟩ := h
  refine ⟨K + 1, fun k hk => ?_⟩
  obtain ⟨j, rfl⟩ : ∃ j, k = j + 1 := ⟨k - 1, by omega⟩
  exact e j (h j (by omega))
theorem Ev.map {α β : Type} {f : Nat → Option α} {g : Nat → Option β} {r : α} {s : β} (h : Ev f r) (e : ∀ k, f k = some r → g k = some s) : Ev g s := by
  obtain ⟨K, h⟩ := h
  exact ⟨K, fun k hk => e k (h k hk)⟩
theorem Ev.succ2 {α β γ : Type} {f : Nat → Option α} {g : Nat → Option β} {r : α} {s : β} {h : Nat → Option γ} (h1 : Ev f r) (h2 : Ev g s) {t : γ} (e : ∀ k, f k = some r → g k = some s → h (k + 1) = some t) : Ev h t := by
  obtain ⟨K1, h1⟩ := h1
  obtain ⟨K2, h2⟩ := h2
  refine ⟨K1 + K2 + 1, fun k hk => ?_⟩
  obtain ⟨j, rfl⟩ : ∃ j, k = j + 1 := ⟨k - 1, by omega⟩
  exact e j (h1 j (by omega)) (h2 j (by omega))
theorem Ev.map2 {α β γ : Type} {f : Nat → Option α} {g : Nat → Option β} {r : α} {s : β} {h : Nat → Option γ} (h1 : Ev f r) (h2 : Ev g s) {t : γ} (e : ∀ k, f k = some r → g k = some s → h k = some t) : Ev h t := by
  obtain ⟨K1, h1⟩ := h1
  obtain ⟨K2, h2⟩ := h2
  exact ⟨K1 + K2, fun k hk => e k (h1 k (by omega)) (h2 k (by omega))⟩
theorem Ev.one {α : Type} {f : Nat → Option α} {r : α} (e : ∀ k, f (k + 1) = some r) : Ev f r := ⟨1, fun k hk => by
  obtain ⟨j, rfl⟩ : ∃ j, k = j + 1 := ⟨k - 1, by omega⟩
  exact e j⟩
theorem Ev.and {α β : Type} {f : Nat → Option α} {g : Nat → Option β} {r : α} {s : β} (h1 : Ev f r) (h2 : Ev g s) : ∃ K, ∀ k, K ≤ k → f k = some r ∧ g k = some s := by
  obtain ⟨K1, h1⟩ := h1
  obtain ⟨K2, h2⟩ := h2
  exact ⟨K1 + K2, fun k hk => ⟨h1 k (by omega), h2 k (by omega)⟩⟩

theorem wrap_succ (i : Nat) (h : i < 9223372036854775807) : wrap64 ((i : Int) + 1) = ((i + 1 : Nat) : Int) := by unfold wrap64; omega
theorem wrap_pred (i : Nat) (h0 : 0 < i) (h : i < 9223372036854775808) : wrap64 ((i : Int) - 1) = ((i - 1 : Nat) : Int) := by unfold wrap64; omega

theorem lead_spec (m : Nat) (h1 : 1 ≤ m) (h : m < 65536) : ∃ j, j < 16 ∧ lead m = 2 ^ j ∧ 2 ^ j ≤ m ∧ m < 2 ^ (j + 1) := by
  obtain ⟨h2, h3, h4⟩ := Lib.bitLenAux_bounds 64 m (by omega) (by omega)
  have h5 := bitLen16 m h
  have e : Lib.bitLen m = Lib.bitLenAux 64 m := rfl
  rw [← e] at h2 h3 h4
  refine ⟨Lib.bitLen m - 1, by omega, ?_, h3, ?_⟩
  · unfold lead
    have : 2 ^ Lib.bitLen m = 2 * 2 ^ (Lib.bitLen m - 1) := by rw [← Nat.pow_succ']; congr 1; omega
    omega
  · rwa [show Lib.bitLen m - 1 + 1 = Lib.bitLen m by omega]

theorem leading_l0 (m j : Nat) (hj : j < 16) (h1 : 2 ^ j ≤ m) (h2 : m < 2 ^ (j + 1)) (hm : m < 65536) : ∀ n i, i + n = j → Ev (fun k => slotmeshref33_Leading.l0 k (m : Int) ((2 ^ i : Nat) : Int)) ((2 ^ j : Nat) : Int) := by
  intro n
  induction n with
  | zero =>
    intro i hi
    have : i = j := by omega
    subst this
    refine Ev.one (fun k => ?_)
    have hp : 2 ^ (i + 1) = 2 ^ i * 2 := Nat.pow_succ 2 i
    have hw : wrap64 (((2 ^ i : Nat) : Int) * 2) = ((2 ^ i * 2 : Nat) : Int) := by unfold wrap64; omega
    rw [slotmeshref33_Leading.l0, hw, if_neg (by omega)]
  | succ n ih =>
    intro i hi
    refine (ih (i + 1) (by omega)).succ (fun k hk => ?_)
    have hp : 2 ^ (i + 1) = 2 ^ i * 2 := Nat.pow_succ 2 i
    have hle : 2 ^ (i + 1) ≤ 2 ^ j := Nat.pow_le_pow_right (by omega) (by omega)
    have hw : wrap64 (((2 ^ i : Nat) : Int) * 2) = ((2 ^ (i + 1) : Nat) : Int) := by rw [hp]; unfold wrap64; omega
    rw [slotmeshref33_Leading.l0, hw, if_pos (by omega)]
    exact hk
theorem leading_ev (m : Nat) (h1 : 1 ≤ m) (h : m < 65536) : Ev (fun k => slotmeshref33_Leading.f k (m : Int)) (lead m : Int) := by
  obtain ⟨j, hj, e, h2, h3⟩ := lead_spec m h1 h
  rw [e]
  exact leading_l0 m j hj h2 h3 h j 0 (by omega)
/-- the same at a mask as it stands -/
theorem leading_ev' (z : Int) (h1 : 1 ≤ z) (h : z < 65536) : Ev (fun k => slotmeshref33_Leading.f k z) (lead z.toNat : Int) := by
  obtain ⟨m, rfl⟩ := Int.eq_ofNat_of_zero_le (show 0 ≤ z by omega)
  exact leading_ev m (by omega) (by omega)

theorem formed_eq (m : Int) (d : List Int) : slotmeshref33_Formed.f m d = some (fineB m d) := by
  unfold slotmeshref33_Formed.f fineB
  by_cases h1 : m ≥ 1
  · rw [if_pos h1]
    by_cases h2 : m < 65536
    · rw [if_pos h2]
      have e1 : decide (1 ≤ m) = true := decide_eq_true h1
      have e2 : decide (m < 65536) = true := decide_eq_true h2
      rw [e1, e2]
      simp only [Bool.true_and]
      congr 1
      rw [Bool.eq_iff_iff]
      simp
      omega
    · rw [if_neg h2]
      have e2 : decide (m < 65536) = false := decide_eq_false h2
      rw [e2]
      simp
  · rw [if_neg h1]
    have e1 : decide (1 ≤ m) = false := decide_eq_false h1
    rw [e1]
    simp

def allFrom (p : Nat → Bool) : Nat → Nat → Bool
  | _, 0 => true
  | i, n + 1 => p i && allFrom p (i + 1) n
theorem allFrom_iff (p : Nat → Bool) : ∀ n i, allFrom p i n = true ↔ ∀ j, i ≤ j → j < i + n → p j = true := by
  intro n
  induction n with
  | zero => intro i; simp [allFrom]; intro j h1 h2; omega
  | succ n ih =>
    intro i
    simp only [allFrom, Bool.and_eq_true, ih]
    constructor
    · rintro ⟨h1, h2⟩ j h3 h4
      by_cases e : j = i
      · rw [e]; exact h1
      · exact h2 j (by omega) (by omega)
    · intro h
      exact ⟨h i (by omega) (by omega), fun j h1 h2 => h j (by omega) (by omega)⟩

def at_ (l : List S25) (i : Nat) : S25 := l.getD i z25
def mk (l : List S25) (i : Nat) : Nat := (at_ l i).f0.toNat
theorem rd_at (l : List S25) (i : Nat) : rd_T25 l (i : Int) = at_ l i := by simp [rd_T25, at_]
def okAt (l : List S25) (i : Nat) : Bool := fineB (at_ l i).f0 (at_ l i).f1 && (i == 0 || decide (lead (mk l i) < lead (mk l (i - 1))))
def okPair (l : List S25) (i k : Nat) : Bool := i == k || (mk l k &&& lead (mk l i)) == 0

theorem fine_spec {m : Int} {d : List Int} (h : fineB m d = true) : 1 ≤ m ∧ m < 65536 ∧ d.length = 16 := FRow.spec ⟨⟨m, d⟩, h⟩
theorem okAt_fine {l : List S25} {i : Nat} (h : okAt l i = true) : 1 ≤ (at_ l i).f0 ∧ (at_ l i).f0 < 65536 ∧ (at_ l i).f1.length = 16 := by
  unfold okAt at h
  simp only [Bool.and_eq_true] at h
  exact fine_spec h.1
theorem i64_and_int (a : Int) (ha : 1 ≤ a ∧ a < 65536) (b : Nat) (hb : b < 65536) : Go.bits .and .i64 a (b : Int) = ((a.toNat &&& b : Nat) : Int) := by
  obtain ⟨m, rfl⟩ := Int.eq_ofNat_of_zero_le (show 0 ≤ a by omega)
  exact i64_and_nat m b (by omega) (by omega)

/-- the inner loop, and what comes behind it -/
theorem valid_l2 (l : List S25) (hl : l.length < 9223372036854775808) (hok : ∀ j, j < l.length → okAt l j = true) (i : Nat) (hi : i < l.length) (rest : Bool) (hrest : Ev (fun k => slotmeshref33_Valid.l1 k l ((i + 1 : Nat) : Int)) rest) :
    ∀ n c, c + n = l.length → Ev (fun k => slotmeshref33_Valid.l2 k l (i : Int) (c : Int)) (allFrom (okPair l i) c n && rest) := by
  intro n
  induction n with
  | zero =>
    intro c hc
    refine hrest.succ (fun k hk => ?_)
    rw [slotmeshref33_Valid.l2, if_neg (by omega), wrap_succ i (by omega)]
    simpa [allFrom] using hk
  | succ n ih =>
    intro c hc
    have hlt : (c : Int) < (l.length : Int) := by omega
    by_cases hic : i = c
    · refine (ih (c + 1) (by omega)).succ (fun k hk => ?_)
      rw [slotmeshref33_Valid.l2, if_pos hlt, if_pos (by omega), wrap_succ c (by omega)]
      have hp : okPair l i c = true := by simp [okPair, hic]
      simpa [allFrom, hp] using hk
    · have hfi := okAt_fine (hok i hi)
      have hfc := okAt_fine (hok c (by omega))
      have hle := leading_ev' (at_ l i).f0 hfi.1 hfi.2.1
      have hll := lead_lt (at_ l i).f0.toNat (by omega)
      have hand := i64_and_int (at_ l c).f0 ⟨hfc.1, hfc.2.1⟩ _ hll
      by_cases hz : (mk l c &&& lead (mk l i)) = 0
      · refine hle.succ2 (ih (c + 1) (by omega)) (fun k h1 h2 => ?_)
        rw [slotmeshref33_Valid.l2, if_pos hlt, if_neg (by omega), if_pos (by omega), if_pos (by omega), if_pos (by omega), rd_at, rd_at, h1]
        simp only [Option.bind_some]
        rw [hand, if_pos (by show ((mk l c &&& lead (mk l i) : Nat) : Int) = 0; rw [hz]; rfl), wrap_succ c (by omega)]
        have hp : okPair l i c = true := by simp [okPair, hz]
        simpa [allFrom, hp] using h2
      · refine hle.succ (fun k h1 => ?_)
        rw [slotmeshref33_Valid.l2, if_pos hlt, if_neg (by omega), if_pos (by omega), if_pos (by omega), if_pos (by omega), rd_at, rd_at, h1]
        simp only [Option.bind_some]
        have hp : okPair l i c = false := by simp [okPair, hic, hz]
        rw [hand, if_neg (by show ¬ ((mk l c &&& lead (mk l i) : Nat) : Int) = 0; omega)]
        simp [allFrom, hp]
theorem valid_l1 (l : List S25) (hl : l.length < 9223372036854775808) (hok : ∀ j, j < l.length → okAt l j = true) :
    ∀ n i, i + n = l.length → Ev (fun k => slotmeshref33_Valid.l1 k l (i : Int)) (allFrom (fun a => allFrom (okPair l a) 0 l.length) i n) := by
  intro n
  induction n with
  | zero =>
    intro i hi
    refine Ev.one (fun k => ?_)
    rw [slotmeshref33_Valid.l1, if_neg (by omega)]
    rfl
  | succ n ih =>
    intro i hi
    refine (valid_l2 l hl hok i (by omega) _ (ih (i + 1) (by omega)) l.length 0 (by omega)).succ (fun k hk => ?_)
    rw [slotmeshref33_Valid.l1, if_pos (by omega)]
    exact hk
def refB (l : List S25) : Bool := allFrom (okAt l) 0 l.length && allFrom (fun a => allFrom (okPair l a) 0 l.length) 0 l.length
theorem valid_l0 (l : List S25) (hl : l.length < 9223372036854775808) :
    ∀ n i, i + n = l.length → (∀ j, j < i → okAt l j = true) → Ev (fun k => slotmeshref33_Valid.l0 k l (i : Int)) (allFrom (okAt l) i n && allFrom (fun a => allFrom (okPair l a) 0 l.length) 0 l.length) := by
  intro n
  induction n with
  | zero =>
    intro i hi hb
    refine (valid_l1 l hl (fun j hj => hb j (by omega)) l.length 0 (by omega)).succ (fun k hk => ?_)
    rw [slotmeshref33_Valid.l0, if_neg (by omega)]
    simpa [allFrom] using hk
  | succ n ih =>
    intro i hi hb
    have hlt : (i : Int) < (l.length : Int) := by omega
    by_cases hf : fineB (at_ l i).f0 (at_ l i).f1 = true
    · have hfi := fine_spec hf
      have hle := leading_ev' (at_ l i).f0 hfi.1 hfi.2.1
      by_cases h0 : i = 0
      · subst h0
        have hp : okAt l 0 = true := by simp [okAt, hf]
        refine (ih 1 (by omega) (fun j hj => by rw [show j = 0 by omega]; exact hp)).succ (fun k hk => ?_)
        rw [slotmeshref33_Valid.l0, if_pos hlt, if_pos (by omega), rd_at, formed_eq, hf]
        simp only [Option.bind_some, if_true]
        rw [if_neg (by omega), show wrap64 (((0 : Nat) : Int) + 1) = ((0 + 1 : Nat) : Int) from wrap_succ 0 (by omega)]
        simpa [allFrom, hp] using hk
      · have hfp := okAt_fine (hb (i - 1) (by omega))
        have hlp := leading_ev' (at_ l (i - 1)).f0 hfp.1 hfp.2.1
        by_cases hc : lead (mk l i) < lead (mk l (i - 1))
        · have hp : okAt l i = true := by simp [okAt, hf, hc]
          obtain ⟨K, hK⟩ := hle.and hlp
          have hev2 : Ev (fun k => if slotmeshref33_Leading.f k (at_ l i).f0 = some (lead (at_ l i).f0.toNat : Int) ∧ slotmeshref33_Leading.f k (at_ l (i - 1)).f0 = some (lead (at_ l (i - 1)).f0.toNat : Int) then some () else none) () := ⟨K, fun k hk => if_pos (hK k hk)⟩
          refine hev2.succ2 (ih (i + 1) (by omega) (fun j hj => by
            by_cases e : j = i
            · rw [e]; exact hp
            · exact hb j (by omega))) (fun k h1 h2 => ?_)
          have h1' : slotmeshref33_Leading.f k (at_ l i).f0 = some (lead (at_ l i).f0.toNat : Int) ∧ slotmeshref33_Leading.f k (at_ l (i - 1)).f0 = some (lead (at_ l (i - 1)).f0.toNat : Int) := by
            by_cases hh : slotmeshref33_Leading.f k (at_ l i).f0 = some (lead (at_ l i).f0.toNat : Int) ∧ slotmeshref33_Leading.f k (at_ l (i - 1)).f0 = some (lead (at_ l (i - 1)).f0.toNat : Int)
            · exact hh
            · rw [if_neg hh] at h1; cases h1
          rw [slotmeshref33_Valid.l0, if_pos hlt, if_pos (by omega), rd_at, formed_eq, hf]
          simp only [Option.bind_some, if_true]
          rw [if_pos (by omega), wrap_pred i (by omega) (by omega), if_pos (by omega), if_pos (by omega), rd_at, h1'.1, h1'.2]
          simp only [Option.bind_some]
          rw [if_neg (by have : lead (at_ l i).f0.toNat < lead (at_ l (i - 1)).f0.toNat := hc; omega), wrap_succ i (by omega)]
          simpa [allFrom, hp] using h2
        · have hp : okAt l i = false := by simp [okAt, hc, h0]
          refine hle.succ2 hlp (fun k h1 h2 => ?_)
          rw [slotmeshref33_Valid.l0, if_pos hlt, if_pos (by omega), rd_at, formed_eq, hf]
          simp only [Option.bind_some, if_true]
          rw [if_pos (by omega), wrap_pred i (by omega) (by omega), if_pos (by omega), if_pos (by omega), rd_at, h1, h2]
          simp only [Option.bind_some]
          rw [if_pos (by have : ¬ lead (at_ l i).f0.toNat < lead (at_ l (i - 1)).f0.toNat := hc; omega)]
          simp [allFrom, hp]
    · have hp : okAt l i = false := by simp [okAt, hf]
      refine Ev.one (fun k => ?_)
      rw [slotmeshref33_Valid.l0, if_pos hlt, if_pos (by omega), rd_at, formed_eq]
      simp only [Option.bind_some]
      rw [if_neg hf]
      simp [allFrom, hp]
theorem refValid (l : List S25) (hl : l.length < 9223372036854775808) : Ev (fun k => slotmeshref33_Valid.f k l) (refB l) :=
  valid_l0 l hl l.length 0 (by omega) (fun j hj => by omega)

/-! ### the leading bits -/
theorem and_two_pow (m j : Nat) : m &&& 2 ^ j = if m.testBit j then 2 ^ j else 0 := by
  apply Nat.eq_of_testBit_eq
  intro i
  rw [Nat.testBit_and, Nat.testBit_two_pow]
  by_cases h : m.testBit j = true
  · rw [if_pos h, Nat.testBit_two_pow]
    by_cases e : j = i
    · subst e; simp [h]
    · simp [e]
  · rw [if_neg h]
    by_cases e : j = i
    · subst e; simpa using h
    · simp [e]
theorem top_bit {m j : Nat} (h1 : 2 ^ j ≤ m) (h2 : m < 2 ^ (j + 1)) : m.testBit j = true := by
  obtain ⟨i, hi, hb⟩ := Nat.exists_ge_and_testBit_of_ge_two_pow h1
  by_cases e : i = j
  · rw [← e]; exact hb
  · have := Nat.testBit_lt_two_pow (x := m) (i := i) (Nat.lt_of_lt_of_le h2 (Nat.pow_le_pow_right (by omega) (by omega)))
    rw [this] at hb
    cases hb
/-- the leads of a list, together -/
def orL (l : List S25) : Nat := l.foldl (fun a x => a ||| lead x.f0.toNat) 0
theorem val1_val (l : List S25) : ∀ st, (∀ x ∈ l, fineB x.f0 x.f1 = true) → ((st.2 :: l.map (fun x => lead x.f0.toNat)).Pairwise (· > ·)) → val1 l st = some (l.foldl (fun a x => a ||| lead x.f0.toNat) st.1, (l.map (fun x => lead x.f0.toNat)).getLast?.getD st.2) := by
  induction l with
  | nil => intro st _ _; rfl
  | cons x l ih =>
    intro st hf hp
    simp only [List.map_cons, List.pairwise_cons] at hp
    have h1 : fineB x.f0 x.f1 = true ∧ lead x.f0.toNat < st.2 := ⟨hf x (by simp), hp.1 _ (by simp)⟩
    rw [val1, if_pos h1, ih _ (fun y hy => hf y (by simp [hy]))]
    · simp only [List.foldl_cons, List.map_cons, List.getLast?_cons]
      simp
    · simp only [List.pairwise_cons]
      exact ⟨hp.2.1, hp.2.2⟩
theorem val1_conv (l : List S25) : ∀ st st', val1 l st = some st' → (∀ x ∈ l, fineB x.f0 x.f1 = true) ∧ ((st.2 :: l.map (fun x => lead x.f0.toNat)).Pairwise (· > ·)) := by
  induction l with
  | nil => intro st st' _; simp
  | cons x l ih =>
    intro st st' h
    rw [val1] at h
    split at h
    · rename_i hc
      obtain ⟨h1, h2⟩ := ih _ _ h
      refine ⟨fun y hy => ?_, ?_⟩
      · rcases List.mem_cons.1 hy with rfl | hy
        · exact hc.1
        · exact h1 y hy
      · simp only [List.map_cons, List.pairwise_cons] at h2 ⊢
        refine ⟨fun b hb => ?_, h2⟩
        rcases List.mem_cons.1 hb with rfl | hb
        · exact hc.2
        · exact Nat.lt_trans (h2.1 b hb) hc.2
    · cases h
/-- what valid rows are, in plain words -/
structure VP (l : List S25) : Prop where
  fine : ∀ x ∈ l, fineB x.f0 x.f1 = true
  desc : (l.map (fun x => lead x.f0.toNat)).Pairwise (· > ·)
  red : ∀ i k, i < l.length → k < l.length → i ≠ k → mk l k &&& lead (mk l i) = 0
theorem lead_lt16 (x : S25) (h : fineB x.f0 x.f1 = true) : lead x.f0.toNat < 65536 := lead_lt _ (by have := fine_spec h; omega)
theorem testBit_foldl_or (l : List S25) (i : Nat) : ∀ a : Nat, (l.foldl (fun a x => a ||| lead x.f0.toNat) a).testBit i = (a.testBit i || l.any (fun x => (lead x.f0.toNat).testBit i)) := by
  induction l with
  | nil => intro a; simp
  | cons x l ih => intro a; rw [List.foldl_cons, ih, Nat.testBit_or]; simp [Bool.or_assoc]
theorem mem_at {l : List S25} {i : Nat} (h : i < l.length) : at_ l i ∈ l := by
  unfold at_
  rw [List.getD_eq_getElem?_getD, List.getElem?_eq_getElem h]
  exact List.getElem_mem h
theorem at_mem {l : List S25} {x : S25} (h : x ∈ l) : ∃ i, i < l.length ∧ at_ l i = x := by
  obtain ⟨i, hi, e⟩ := List.getElem_of_mem h
  exact ⟨i, hi, by unfold at_; rw [List.getD_eq_getElem?_getD, List.getElem?_eq_getElem hi]; exact e⟩
theorem lead_inj_at {l : List S25} (hd : (l.map (fun x => lead x.f0.toNat)).Pairwise (· > ·)) {i k : Nat} (hi : i < l.length) (hk : k < l.length) (hne : i ≠ k) : lead (mk l i) ≠ lead (mk l k) := by
  have key : ∀ a b, a < b → b < l.length → lead (mk l b) < lead (mk l a) := by
    intro a b hab hb
    have := List.pairwise_iff_getElem.1 hd a b (by simp; omega) (by simpa using hb) hab
    simp only [List.getElem_map] at this
    unfold mk at_
    rw [List.getD_eq_getElem?_getD, List.getD_eq_getElem?_getD, List.getElem?_eq_getElem hb, List.getElem?_eq_getElem (show a < l.length by omega)]
    exact this
  rcases Nat.lt_or_gt_of_ne hne with h | h
  · have := key i k h hk; omega
  · have := key k i h hi; omega
theorem validS_iff (l : List S25) : validS l = true ↔ VP l := by
  have lead2 : ∀ x ∈ l, fineB x.f0 x.f1 = true → ∃ j, j < 16 ∧ lead x.f0.toNat = 2 ^ j ∧ x.f0.toNat.testBit j = true := by
    intro x hx hf
    have := fine_spec hf
    obtain ⟨j, h1, h2, h3, h4⟩ := lead_spec x.f0.toNat (by omega) (by omega)
    exact ⟨j, h1, h2, top_bit h3 h4⟩
  -- the test of the second loop, bit by bit
  have second : ∀ (hf : ∀ x ∈ l, fineB x.f0 x.f1 = true) (hd : (l.map (fun x => lead x.f0.toNat)).Pairwise (· > ·)), ((l.all fun x => x.f0.toNat &&& orL l == lead x.f0.toNat) = true ↔ ∀ i k, i < l.length → k < l.length → i ≠ k → mk l k &&& lead (mk l i) = 0) := by
    intro hf hd
    rw [List.all_eq_true]
    constructor
    · intro h i k hi hk hne
      have hx := h (at_ l k) (mem_at hk)
      simp only [beq_iff_eq] at hx
      obtain ⟨j, hj, e, _⟩ := lead2 _ (mem_at hi) (hf _ (mem_at hi))
      show (at_ l k).f0.toNat &&& lead (at_ l i).f0.toNat = 0
      rw [e, and_two_pow]
      by_cases hb : (at_ l k).f0.toNat.testBit j = true
      · exfalso
        have ht : ((at_ l k).f0.toNat &&& orL l).testBit j = true := by
          rw [Nat.testBit_and, hb, orL, testBit_foldl_or]
          simp only [Bool.true_and, Nat.zero_testBit, Bool.false_or, List.any_eq_true]
          exact ⟨at_ l i, mem_at hi, by rw [e, Nat.testBit_two_pow_self]⟩
        rw [hx] at ht
        obtain ⟨j2, _, e2, _⟩ := lead2 _ (mem_at hk) (hf _ (mem_at hk))
        rw [e2, Nat.testBit_two_pow] at ht
        have : j2 = j := by simpa using ht
        exact lead_inj_at hd hi hk hne (by show lead (at_ l i).f0.toNat = lead (at_ l k).f0.toNat; rw [e, e2, this])
      · rw [if_neg hb]
    · intro h x hx
      obtain ⟨k, hk, rfl⟩ := at_mem hx
      obtain ⟨j, hj, e, hb⟩ := lead2 _ hx (hf _ hx)
      simp only [beq_iff_eq]
      apply Nat.eq_of_testBit_eq
      intro i
      rw [Nat.testBit_and, orL, testBit_foldl_or, e, Nat.testBit_two_pow]
      simp only [Nat.zero_testBit, Bool.false_or]
      by_cases hij : j = i
      · subst hij
        rw [hb]
        simp only [Bool.true_and, decide_true, List.any_eq_true]
        exact ⟨_, hx, by rw [e, Nat.testBit_two_pow_self]⟩
      · simp only [hij, decide_false, Bool.and_eq_false_iff]
        by_cases hbi : (at_ l k).f0.toNat.testBit i = true
        · right
          rw [List.any_eq_false]
          intro y hy ht
          obtain ⟨k2, hk2, rfl⟩ := at_mem hy
          obtain ⟨j2, _, e2, _⟩ := lead2 _ hy (hf _ hy)
          rw [e2, Nat.testBit_two_pow] at ht
          have hji : j2 = i := by simpa using ht
          by_cases hkk : k2 = k
          · subst hkk
            rw [e] at e2
            have := (Nat.pow_right_inj (show 1 < 2 by omega)).1 e2
            omega
          · have := h k2 k hk2 hk hkk
            have h3 : (at_ l k).f0.toNat &&& lead (at_ l k2).f0.toNat = 0 := this
            rw [e2, and_two_pow, hji, if_pos hbi] at h3
            have := Nat.two_pow_pos i
            omega
        · left
          simpa using hbi
  constructor
  · intro h
    unfold validS at h
    split at h
    · cases h
    · rename_i st hv
      obtain ⟨h1, h2⟩ := val1_conv _ _ _ hv
      have h3 := val1_val l (0, 65536) h1 h2
      rw [hv] at h3
      injection h3 with h3
      simp only [List.pairwise_cons] at h2
      rw [h3] at h
      exact ⟨h1, h2.2, (second h1 h2.2).1 h⟩
  · rintro ⟨h1, h2, h3⟩
    have hp : (((0, 65536) : Nat × Nat).2 :: l.map (fun x => lead x.f0.toNat)).Pairwise (· > ·) := by
      rw [List.pairwise_cons]
      refine ⟨fun b hb => ?_, h2⟩
      obtain ⟨x, hx, rfl⟩ := List.mem_map.1 hb
      exact lead_lt16 x (h1 x hx)
    unfold validS
    rw [val1_val l (0, 65536) h1 hp]
    exact (second h1 h2).2 h3
theorem refB_iff (l : List S25) : refB l = true ↔ VP l := by
  unfold refB
  rw [Bool.and_eq_true, allFrom_iff, allFrom_iff]
  constructor
  · rintro ⟨h1, h2⟩
    have hf : ∀ x ∈ l, fineB x.f0 x.f1 = true := by
      intro x hx
      obtain ⟨i, hi, rfl⟩ := at_mem hx
      have := h1 i (by omega) (by omega)
      unfold okAt at this
      simp only [Bool.and_eq_true] at this
      exact this.1
    have hstep : ∀ i, i + 1 < l.length → lead (mk l (i + 1)) < lead (mk l i) := by
      intro i hi
      have := h1 (i + 1) (by omega) (by omega)
      unfold okAt at this
      simp at this
      exact this.2
    have hmono : ∀ d i, i + d + 1 < l.length → lead (mk l (i + d + 1)) < lead (mk l i) := by
      intro d
      induction d with
      | zero => intro i hi; exact hstep i hi
      | succ d ih => intro i hi; exact Nat.lt_trans (hstep (i + d + 1) hi) (ih i (by omega))
    refine ⟨hf, ?_, fun i k hi hk hne => ?_⟩
    · rw [List.pairwise_iff_getElem]
      intro i j hi hj hij
      simp only [List.length_map] at hi hj
      simp only [List.getElem_map]
      have := hmono (j - i - 1) i (by omega)
      rw [show i + (j - i - 1) + 1 = j by omega] at this
      unfold mk at_ at this
      rw [List.getD_eq_getElem?_getD, List.getD_eq_getElem?_getD, List.getElem?_eq_getElem hj, List.getElem?_eq_getElem hi] at this
      exact this
    · have := (allFrom_iff _ _ _).1 (h2 i (by omega) (by omega)) k (by omega) (by omega)
      unfold okPair at this
      simp [hne] at this
      exact this
  · rintro ⟨h1, h2, h3⟩
    refine ⟨fun i _ hi => ?_, fun i _ hi => (allFrom_iff _ _ _).2 (fun k _ hk => ?_)⟩
    · unfold okAt
      rw [h1 _ (mem_at (by omega)), Bool.true_and]
      by_cases e : i = 0
      · simp [e]
      · have := List.pairwise_iff_getElem.1 h2 (i - 1) i (by simp; omega) (by simp; omega) (by omega)
        simp only [List.getElem_map] at this
        have h4 : lead (mk l i) < lead (mk l (i - 1)) := by
          unfold mk at_
          rw [List.getD_eq_getElem?_getD, List.getD_eq_getElem?_getD, List.getElem?_eq_getElem (show i < l.length by omega), List.getElem?_eq_getElem (show i - 1 < l.length by omega)]
          exact this
        simp [h4]
    · unfold okPair
      by_cases e : i = k
      · simp [e]
      · rw [h3 i k (by omega) (by omega) e]
        simp
theorem refB_validS (l : List S25) : refB l = validS l := by
  rw [Bool.eq_iff_iff, refB_iff, validS_iff]
theorem refValid' (l : List S25) (hl : l.length < 9223372036854775808) : Ev (fun k => slotmeshref33_Valid.f k l) (validS l) := by
  rw [← refB_validS]
  exact refValid l hl
end Go.Proofs.Ytknlbeojdmeljaa.L
