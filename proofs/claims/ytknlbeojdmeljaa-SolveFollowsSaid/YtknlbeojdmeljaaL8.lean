import Derived.Test.YtknlbeojdmeljaaL7
namespace Go.Proofs.Ytknlbeojdmeljaa.L
open Go.RowKit Go.Proofs.YtknlbeojdmeljaaW.PrintWords Go.Proofs.YtknlbeojdmeljaaW.PrintLast Go.Proofs.YtknlbeojdmeljaaW.PrintMore Go.Proofs.Ytknlbeojdmeljaa.P Go.Proofs.Ytknlbeojdmeljaa.H
set_option linter.unusedVariables false
set_option linter.unusedSimpArgs false

/-- what is reduced has no lead bit of the rows -/
theorem redS_clear {l : List S25} (hl : GR l) (hv : VP l) : ∀ {x : Nat × List Int}, GE x → ∀ r ∈ l, (redS l x).1 &&& H.lead r.f0.toNat = 0 := by
  have key : ∀ (p q : List S25), l = p ++ q → ∀ {x : Nat × List Int}, GE x → (∀ r ∈ p, x.1 &&& H.lead r.f0.toNat = 0) → ∀ r ∈ l, (redS q x).1 &&& H.lead r.f0.toNat = 0 := by
    intro p q
    induction q generalizing p with
    | nil =>
      intro e x hx hp r hr
      rw [e, List.append_nil] at hr
      exact hp r hr
    | cons s q ih =>
      intro e x hx hp
      have hs : s ∈ l := by rw [e]; simp
      obtain ⟨j, _, hj, hb⟩ := hl.lead hs
      have hpair := hv.pair
      rw [e, List.pairwise_append, List.pairwise_cons] at hpair
      obtain ⟨_, _, hpq⟩ := hpair
      refine ih (p ++ [s]) (by rw [e]; simp) (stepS_ge hx (hl.row hs) hj) (fun r hr => ?_)
      rw [stepS_eq x s hj]
      rcases List.mem_append.1 hr with hr | hr
      · have h1 := hp r hr
        have h2 := (hpq r hr s List.mem_cons_self).1
        split
        · exact and_xor_zero h1 h2
        · exact h1
      · rw [List.mem_singleton.1 hr, hj]
        split
        · rename_i hbit
          show (x.1 ^^^ s.f0.toNat) &&& 2 ^ j = 0
          rw [and_two_pow, if_neg]
          rw [Nat.testBit_xor, hbit, hb]
          simp
        · rename_i hbit
          rw [and_two_pow, if_neg hbit]
  intro x hx r hr
  exact key [] l rfl hx (by simp) r hr

theorem VP.and_zero {l : List S25} (hv : VP l) {r s : S25} (hr : r ∈ l) (hs : s ∈ l) (hne : H.lead s.f0.toNat ≠ H.lead r.f0.toNat) : r.f0.toNat &&& H.lead s.f0.toNat = 0 := by
  obtain ⟨i, hi, rfl⟩ := at_mem hs
  obtain ⟨k, hk, rfl⟩ := at_mem hr
  exact hv.red i k hi hk (by rintro rfl; exact hne rfl)
theorem redS_row {l : List S25} (hl : GR l) (hv : VP l) {r : S25} (hr : r ∈ l) : redS l (rowv r) = zeroE := by
  obtain ⟨j, _, hj, hb⟩ := hl.lead hr
  rw [redS_one hl hv (x := rowv r) hr ?_ (fun s hs hne => hv.and_zero hr hs hne), addE_self (hl.row hr)]
  rw [hj, and_two_pow]
  show (if r.f0.toNat.testBit j = true then 2 ^ j else 0) ≠ 0
  rw [if_pos hb]
  have := Nat.two_pow_pos j
  omega
/-- sums of rows -/
inductive Sp (l : List S25) : Nat × List Int → Prop
  | zero : Sp l zeroE
  | add {y : Nat × List Int} {r : S25} : Sp l y → r ∈ l → Sp l (addE y (rowv r))
theorem Sp.ge {l : List S25} (hl : GR l) {y : Nat × List Int} (h : Sp l y) : GE y := by
  induction h with
  | zero => exact zeroE_ge
  | add _ hr ih => exact ih.add (hl.row hr)
theorem Sp.sum {l : List S25} (hl : GR l) {y z : Nat × List Int} (hy : Sp l y) (hz : Sp l z) : Sp l (addE y z) := by
  induction hz with
  | zero => rw [addE_zero (hy.ge hl)]; exact hy
  | add hz hr ih => rw [← addE_assoc (hy.ge hl) (hz.ge hl) (hl.row hr)]; exact Sp.add ih hr
theorem Sp.row {l : List S25} (hl : GR l) {r : S25} (hr : r ∈ l) : Sp l (rowv r) := by
  have := Sp.add (Sp.zero (l := l)) hr
  rwa [zero_addE (hl.row hr)] at this
theorem Sp.of {l l' : List S25} (hl : GR l) (hl' : GR l') (h : ∀ r ∈ l, Sp l' (rowv r)) {y : Nat × List Int} (hy : Sp l y) : Sp l' y := by
  induction hy with
  | zero => exact Sp.zero
  | add _ hr ih => exact ih.sum hl' (h _ hr)
theorem redS_zero {l : List S25} (hl : GR l) : redS l zeroE = zeroE := redS_id hl (fun r _ => Nat.zero_and _)
theorem redS_span {l : List S25} (hl : GR l) (hv : VP l) {y : Nat × List Int} (h : Sp l y) : redS l y = zeroE := by
  induction h with
  | zero => exact redS_zero hl
  | add hy hr ih => rw [redS_lin hl (hy.ge hl) (hl.row hr), ih, redS_row hl hv hr, addE_zero zeroE_ge]
/-- what is reduced differs by a sum of rows -/
theorem redS_diff {l l' : List S25} (hl' : GR l') : ∀ (hl : GR l), (∀ r ∈ l, r ∈ l') → ∀ {x : Nat × List Int}, GE x → Sp l' (addE x (redS l x)) := by
  induction l with
  | nil => intro hl _ x hx; show Sp l' (addE x x); rw [addE_self hx]; exact Sp.zero
  | cons r l ih =>
    intro hl hsub x hx
    obtain ⟨j, _, hj, _⟩ := hl.lead (List.mem_cons_self)
    have hr := hl.row (r := r) List.mem_cons_self
    have h1 := ih hl.tail (fun s hs => hsub s (List.mem_cons_of_mem _ hs)) (stepS_ge hx hr hj)
    show Sp l' (addE x (redS l (stepS x r)))
    have hg := redS_ge hl.tail (stepS_ge hx hr hj)
    rw [stepS_eq x r hj] at h1 hg ⊢
    by_cases hb : x.1.testBit j = true
    · rw [if_pos hb] at h1 hg ⊢
      have h2 := h1.add (hsub r List.mem_cons_self)
      rw [addE_assoc (hx.add hr) hg hr, addE_comm hg hr, ← addE_assoc (hx.add hr) hr hg, addE_cancel hx hr] at h2
      exact h2
    · rw [if_neg hb] at h1 ⊢
      exact h1
end Go.Proofs.Ytknlbeojdmeljaa.L
namespace Go.Proofs.Ytknlbeojdmeljaa.L
open Go.RowKit Go.Proofs.YtknlbeojdmeljaaW.PrintWords Go.Proofs.YtknlbeojdmeljaaW.PrintLast Go.Proofs.YtknlbeojdmeljaaW.PrintMore Go.Proofs.Ytknlbeojdmeljaa.P Go.Proofs.Ytknlbeojdmeljaa.H
set_option linter.unusedVariables false
set_option linter.unusedSimpArgs false

theorem ins_true (e : Nat × List Int) : ∀ (l acc : List S25), l.foldl (insStep e) (acc, true) = (acc ++ l.map (mixE e), true)
  | [], acc => by simp
  | r :: l, acc => by
    have : insStep e (acc, true) r = (acc ++ [mixE e r], true) := by unfold insStep; rw [if_neg (fun h => by cases h.1)]
    rw [List.foldl_cons, this, ins_true e l]
    simp
theorem ins_split (e : Nat × List Int) : ∀ (l acc : List S25), (l.map (fun x => H.lead x.f0.toNat)).Pairwise (· > ·) →
    ∃ p q, l = p ++ q ∧ (∀ r ∈ p, ¬ H.lead r.f0.toNat < H.lead e.1) ∧ (∀ r ∈ q, H.lead r.f0.toNat < H.lead e.1) ∧
      (if (l.foldl (insStep e) (acc, false)).2 = true then (l.foldl (insStep e) (acc, false)).1 else (l.foldl (insStep e) (acc, false)).1 ++ [rowE e]) = acc ++ (p.map (mixE e) ++ rowE e :: q.map (mixE e))
  | [], acc, _ => ⟨[], [], rfl, by simp, by simp, by simp⟩
  | r :: l, acc, hd => by
    simp only [List.map_cons, List.pairwise_cons] at hd
    by_cases hlt : H.lead r.f0.toNat < H.lead e.1
    · refine ⟨[], r :: l, rfl, by simp, fun s hs => ?_, ?_⟩
      · rcases List.mem_cons.1 hs with rfl | hs
        · exact hlt
        · exact Nat.lt_trans (hd.1 _ (List.mem_map.2 ⟨s, hs, rfl⟩)) hlt
      · have : insStep e (acc, false) r = (acc ++ [rowE e, mixE e r], true) := by unfold insStep; rw [if_pos ⟨rfl, hlt⟩]
        rw [List.foldl_cons, this, ins_true]
        simp
    · obtain ⟨p, q, h1, h2, h3, h4⟩ := ins_split e l (acc ++ [mixE e r]) hd.2
      have : insStep e (acc, false) r = (acc ++ [mixE e r], false) := by unfold insStep; rw [if_neg (fun h => hlt h.2)]
      refine ⟨r :: p, q, by rw [h1]; rfl, fun s hs => ?_, h3, ?_⟩
      · rcases List.mem_cons.1 hs with rfl | hs
        · exact hlt
        · exact h2 s hs
      · rw [List.foldl_cons, this, h4]
        simp
theorem insS_split (e : Nat × List Int) {l : List S25} (hv : VP l) : ∃ p q, l = p ++ q ∧ (∀ r ∈ p, ¬ H.lead r.f0.toNat < H.lead e.1) ∧ (∀ r ∈ q, H.lead r.f0.toNat < H.lead e.1) ∧ insS e l = p.map (mixE e) ++ rowE e :: q.map (mixE e) := by
  obtain ⟨p, q, h1, h2, h3, h4⟩ := ins_split e l [] hv.desc
  rw [List.nil_append] at h4
  exact ⟨p, q, h1, h2, h3, h4⟩
end Go.Proofs.Ytknlbeojdmeljaa.L
namespace Go.Proofs.Ytknlbeojdmeljaa.L
open Go.RowKit Go.Proofs.YtknlbeojdmeljaaW.PrintWords Go.Proofs.YtknlbeojdmeljaaW.PrintLast Go.Proofs.YtknlbeojdmeljaaW.PrintMore Go.Proofs.Ytknlbeojdmeljaa.P Go.Proofs.Ytknlbeojdmeljaa.H
set_option linter.unusedVariables false
set_option linter.unusedSimpArgs false

def Pr (a b : S25) : Prop := b.f0.toNat &&& H.lead a.f0.toNat = 0 ∧ a.f0.toNat &&& H.lead b.f0.toNat = 0 ∧ H.lead a.f0.toNat > H.lead b.f0.toNat
theorem VP.of_pair {l : List S25} (hf : ∀ x ∈ l, fineB x.f0 x.f1 = true) (hp : l.Pairwise Pr) : VP l := by
  have hg : ∀ k (hk : k < l.length), at_ l k = l[k] := fun k hk => by
    unfold at_; rw [List.getD_eq_getElem?_getD, List.getElem?_eq_getElem hk]; rfl
  refine ⟨hf, ?_, fun i k hi hk hne => ?_⟩
  · rw [List.pairwise_map]
    exact hp.imp (fun h => h.2.2)
  · simp only [L.mk, hg i hi, hg k hk]
    rcases Nat.lt_or_gt_of_ne hne with h | h
    · exact (List.pairwise_iff_getElem.1 hp i k hi hk h).1
    · exact (List.pairwise_iff_getElem.1 hp k i hk hi h).2.1
theorem lead_unique {m j : Nat} (h1 : 2 ^ j ≤ m) (h2 : m < 2 ^ (j + 1)) (hm : m < 65536) : H.lead m = 2 ^ j := by
  obtain ⟨i, _, e, h3, h4⟩ := lead_spec m (by have := Nat.two_pow_pos j; omega) hm
  have a1 : i < j + 1 := (Nat.pow_lt_pow_iff_right (show 1 < 2 by omega)).1 (Nat.lt_of_le_of_lt h3 h2)
  have a2 : j < i + 1 := (Nat.pow_lt_pow_iff_right (show 1 < 2 by omega)).1 (Nat.lt_of_le_of_lt h1 h4)
  rw [e, show i = j by omega]
/-- what a new equation must be -/
structure NE (l : List S25) (e : Nat × List Int) : Prop where
  ge : GE e
  ne : e.1 ≠ 0
  clear : ∀ r ∈ l, e.1 &&& H.lead r.f0.toNat = 0
theorem mixE_v (e : Nat × List Int) (r : S25) {j : Nat} (hj : H.lead e.1 = 2 ^ j) (hr : 0 ≤ r.f0) : rowv (mixE e r) = if r.f0.toNat.testBit j = true then (r.f0.toNat ^^^ e.1, xorD r.f1 e.2) else rowv r := by
  unfold mixE
  rw [hj, and_two_pow]
  by_cases h : r.f0.toNat.testBit j = true
  · rw [if_pos h, if_pos h, if_pos (by have := Nat.two_pow_pos j; omega)]
    rfl
  · rw [if_neg h, if_neg h, if_neg (by simp)]
theorem mix_lead {l : List S25} (hl : GR l) {e : Nat × List Int} (he : NE l e) {r : S25} (hr : r ∈ l) : H.lead (mixE e r).f0.toNat = H.lead r.f0.toNat ∧ GE (rowv (mixE e r)) ∧ 1 ≤ (mixE e r).f0 ∧ (mixE e r).f0 < 65536 := by
  have hf := fine_spec (hl.fine r hr)
  obtain ⟨j, hj16, hj, h2, h3⟩ := lead_spec e.1 (by have := he.ne; omega) he.ge.m
  obtain ⟨i, hi16, hi, h4, h5⟩ := lead_spec r.f0.toNat (by omega) (by omega)
  have hv := mixE_v e r hj (by omega)
  by_cases hb : r.f0.toNat.testBit j = true
  · rw [if_pos hb] at hv
    have hm : (mixE e r).f0 = ((r.f0.toNat ^^^ e.1 : Nat) : Int) := by
      unfold mixE
      rw [hj, and_two_pow, if_pos hb, if_pos (by have := Nat.two_pow_pos j; omega)]
    have hji : j ≠ i := by
      rintro rfl
      have hc := he.clear r hr
      rw [hi, and_two_pow, if_pos (top_bit h2 h3)] at hc
      have := Nat.two_pow_pos j
      omega
    have hlt : j < i := by
      rcases Nat.lt_or_gt_of_ne hji with h | h
      · exact h
      · have := Nat.testBit_lt_two_pow (x := r.f0.toNat) (i := j) (Nat.lt_of_lt_of_le h5 (Nat.pow_le_pow_right (by omega) (by omega)))
        rw [this] at hb
        cases hb
    have hei : e.1 < 2 ^ i := Nat.lt_of_lt_of_le h3 (Nat.pow_le_pow_right (by omega) (by omega))
    have hx1 : (r.f0.toNat ^^^ e.1) < 2 ^ (i + 1) := Nat.xor_lt_two_pow h5 (Nat.lt_of_lt_of_le hei (Nat.pow_le_pow_right (by omega) (by omega)))
    have hx2 : 2 ^ i ≤ (r.f0.toNat ^^^ e.1) := by
      refine Nat.ge_two_pow_of_testBit ?_
      rw [Nat.testBit_xor, top_bit h4 h5, Nat.testBit_lt_two_pow hei]
      rfl
    have hx3 : (r.f0.toNat ^^^ e.1) < 65536 := by
      have := Nat.xor_lt_two_pow (n := 16) (x := r.f0.toNat) (y := e.1) (by omega) (by have := he.ge.m; omega)
      omega
    have hp := Nat.two_pow_pos i
    refine ⟨?_, ?_, by omega, by omega⟩
    · rw [hm, Int.toNat_natCast, hi]
      exact lead_unique hx2 hx1 hx3
    · rw [hv]
      exact (hl.row hr).add he.ge
  · rw [if_neg hb] at hv
    have hm : mixE e r = r := by
      unfold mixE
      rw [hj, and_two_pow, if_neg hb, if_neg (by simp)]
    rw [hm]
    exact ⟨rfl, hl.row hr, hf.1, hf.2.1⟩
end Go.Proofs.Ytknlbeojdmeljaa.L
namespace Go.Proofs.Ytknlbeojdmeljaa.L
open Go.RowKit Go.Proofs.YtknlbeojdmeljaaW.PrintWords Go.Proofs.YtknlbeojdmeljaaW.PrintLast Go.Proofs.YtknlbeojdmeljaaW.PrintMore Go.Proofs.Ytknlbeojdmeljaa.P Go.Proofs.Ytknlbeojdmeljaa.H
set_option linter.unusedVariables false
set_option linter.unusedSimpArgs false

theorem NE.lead {l : List S25} {e : Nat × List Int} (he : NE l e) : ∃ j, j < 16 ∧ H.lead e.1 = 2 ^ j ∧ e.1.testBit j = true := by
  obtain ⟨j, hj16, hj, h2, h3⟩ := lead_spec e.1 (by have := he.ne; omega) he.ge.m
  exact ⟨j, hj16, hj, top_bit h2 h3⟩
theorem mix_mask {l : List S25} (hl : GR l) {e : Nat × List Int} (he : NE l e) {r : S25} (hr : r ∈ l) : (mixE e r).f0.toNat = if r.f0.toNat &&& H.lead e.1 ≠ 0 then r.f0.toNat ^^^ e.1 else r.f0.toNat := by
  unfold mixE
  split
  · rw [Int.toNat_natCast]
  · rfl
theorem mix_and {l : List S25} (hl : GR l) {e : Nat × List Int} (he : NE l e) {r : S25} (hr : r ∈ l) {c : Nat} (h1 : r.f0.toNat &&& c = 0) (h2 : e.1 &&& c = 0) : (mixE e r).f0.toNat &&& c = 0 := by
  rw [mix_mask hl he hr]
  split
  · exact and_xor_zero h1 h2
  · exact h1
theorem mix_clear {l : List S25} (hl : GR l) {e : Nat × List Int} (he : NE l e) {r : S25} (hr : r ∈ l) : (mixE e r).f0.toNat &&& H.lead e.1 = 0 := by
  obtain ⟨j, _, hj, hb⟩ := he.lead
  rw [mix_mask hl he hr]
  by_cases h : r.f0.toNat &&& H.lead e.1 = 0
  · rw [if_neg (fun h2 => h2 h)]; exact h
  · rw [if_pos h]
    rw [hj, and_two_pow] at h ⊢
    have hrb : r.f0.toNat.testBit j = true := by
      by_cases h3 : r.f0.toNat.testBit j = true
      · exact h3
      · rw [if_neg h3] at h; exact absurd rfl h
    rw [if_neg]
    rw [Nat.testBit_xor, hrb, hb]
    simp
theorem ne_lead {l : List S25} {e : Nat × List Int} (he : NE l e) {r : S25} (hr : r ∈ l) : H.lead r.f0.toNat ≠ H.lead e.1 := by
  intro h
  obtain ⟨j, _, hj, hb⟩ := he.lead
  have hc := he.clear r hr
  rw [h, hj, and_two_pow, if_pos hb] at hc
  have := Nat.two_pow_pos j
  omega
theorem fineB_of {x : S25} (h1 : 1 ≤ x.f0) (h2 : x.f0 < 65536) (h3 : x.f1.length = 16) : fineB x.f0 x.f1 = true := by
  unfold fineB
  simp [h1, h2, h3]
theorem insS_ok {l : List S25} (hl : GR l) (hv : VP l) {e : Nat × List Int} (he : NE l e) : VP (insS e l) ∧ GR (insS e l) ∧ (insS e l).length = l.length + 1 := by
  obtain ⟨p, q, hpq, hp, hq, hins⟩ := insS_split e hv
  have hsubp : ∀ r ∈ p, r ∈ l := fun r hr => by rw [hpq]; simp [hr]
  have hsubq : ∀ r ∈ q, r ∈ l := fun r hr => by rw [hpq]; simp [hr]
  have hmem : ∀ x ∈ insS e l, x = rowE e ∨ ∃ r ∈ l, x = mixE e r := by
    intro x hx
    rw [hins] at hx
    rcases List.mem_append.1 hx with h | h
    · obtain ⟨r, hr, rfl⟩ := List.mem_map.1 h
      exact .inr ⟨r, hsubp r hr, rfl⟩
    · rcases List.mem_cons.1 h with h | h
      · exact .inl h
      · obtain ⟨r, hr, rfl⟩ := List.mem_map.1 h
        exact .inr ⟨r, hsubq r hr, rfl⟩
  have hfine : ∀ x ∈ insS e l, fineB x.f0 x.f1 = true := by
    intro x hx
    rcases hmem x hx with rfl | ⟨r, hr, rfl⟩
    · have := he.ne
      have := he.ge.m
      exact fineB_of (by show (1 : Int) ≤ (e.1 : Int); omega) (by show (e.1 : Int) < 65536; omega) he.ge.len
    · obtain ⟨_, hg, h1, h2⟩ := mix_lead hl he hr
      exact fineB_of h1 h2 hg.len
  have hpair := hv.pair
  rw [hpq, List.pairwise_append] at hpair
  obtain ⟨hpp, hqq, hcross⟩ := hpair
  have hmm : ∀ a ∈ l, ∀ b ∈ l, (b.f0.toNat &&& H.lead a.f0.toNat = 0 ∧ a.f0.toNat &&& H.lead b.f0.toNat = 0 ∧ H.lead a.f0.toNat > H.lead b.f0.toNat) → Pr (mixE e a) (mixE e b) := by
    intro a ha b hb ⟨h1, h2, h3⟩
    have la := (mix_lead hl he ha).1
    have lb := (mix_lead hl he hb).1
    refine ⟨?_, ?_, by rw [la, lb]; exact h3⟩
    · rw [la]; exact mix_and hl he hb h1 (he.clear a ha)
    · rw [lb]; exact mix_and hl he ha h2 (he.clear b hb)
  have hrow : (rowE e).f0.toNat = e.1 := Int.toNat_natCast _
  have hP : (insS e l).Pairwise Pr := by
    rw [hins, List.pairwise_append, List.pairwise_cons, List.pairwise_map, List.pairwise_map]
    refine ⟨?_, ⟨fun b hb => ?_, ?_⟩, fun a ha b hb => ?_⟩
    · exact hpp.imp_of_mem (fun ha hb h => hmm _ (hsubp _ ha) _ (hsubp _ hb) h)
    · obtain ⟨r, hr, rfl⟩ := List.mem_map.1 hb
      have lr := (mix_lead hl he (hsubq r hr)).1
      refine ⟨?_, ?_, ?_⟩
      · rw [hrow]; exact mix_clear hl he (hsubq r hr)
      · rw [hrow, lr]; exact he.clear r (hsubq r hr)
      · rw [hrow, lr]; exact hq r hr
    · exact hqq.imp_of_mem (fun ha hb h => hmm _ (hsubq _ ha) _ (hsubq _ hb) h)
    · obtain ⟨r, hr, rfl⟩ := List.mem_map.1 ha
      have lr := (mix_lead hl he (hsubp r hr)).1
      rcases List.mem_cons.1 hb with rfl | hb
      · refine ⟨?_, ?_, ?_⟩
        · rw [hrow, lr]; exact he.clear r (hsubp r hr)
        · rw [hrow]; exact mix_clear hl he (hsubp r hr)
        · rw [hrow, lr]
          have h1 := hp r hr
          have h2 := ne_lead he (hsubp r hr)
          omega
      · obtain ⟨s, hs, rfl⟩ := List.mem_map.1 hb
        exact hmm _ (hsubp r hr) _ (hsubq s hs) (hcross r hr s hs)
  refine ⟨VP.of_pair hfine hP, ⟨hfine, fun x hx => ?_⟩, ?_⟩
  · rcases hmem x hx with rfl | ⟨r, hr, rfl⟩
    · exact he.ge.rng
    · exact (mix_lead hl he hr).2.1.rng
  · rw [hins, hpq]
    simp
    omega
end Go.Proofs.Ytknlbeojdmeljaa.L
