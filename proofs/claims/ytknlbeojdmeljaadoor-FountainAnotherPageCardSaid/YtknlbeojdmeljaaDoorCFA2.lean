-- cut by shake.py (own program) out of this session's texts
import Derived.Test.YtknlbeojdmeljaaDoorCFA1
namespace Go.Proofs.YtknlbeojdmeljaaDoor.L
open Go.RowKit Go.Proofs.YtknlbeojdmeljaaDoorW.PrintWords Go.Proofs.YtknlbeojdmeljaaDoorW.PrintLast Go.Proofs.YtknlbeojdmeljaaDoorW.PrintMore Go.Proofs.YtknlbeojdmeljaaDoor.P Go.Proofs.YtknlbeojdmeljaaDoor.H
set_option linter.unusedVariables false
set_option linter.unusedSimpArgs false
def sumTo (B : List Int) (m : Nat) : Nat → List Int
  | 0 => z16
  | k + 1 => if m.testBit k = true then xorD (sumTo B m k) (blk B k) else sumTo B m k
def sumB (B : List Int) (m : Nat) : List Int := sumTo B m 16
/-- one more equation that is true of the blocks -/
def stepA (B : List Int) (l : Option (List S25)) (m : Int) : Option (List S25) :=
  match l with
  | none => none
  | some l => if m = 0 then some l else if (addS l m (sumB B m.toNat)).2.2 = 0 then some (addS l m (sumB B m.toNat)).1 else none
def allO (B : List Int) (ms : List Int) : Option (List S25) := ms.foldl (stepA B) (some [])
structure PB (B : List Int) : Prop where
  len : B.length = 256
  rng : ∀ b ∈ B, isB b
theorem xorD_eq (a b : List Int) : ((0 : Nat), xorD a b) = addE (0, a) (0, b) := pair_ext (Nat.xor_self 0).symm rfl
theorem blk_ge {B : List Int} (hB : PB B) {i : Nat} (hi : i < 16) : GE (0, blk B i) :=
  data_ge (blk_len hB.len hi) (fun b hb => hB.rng b (List.mem_of_mem_drop (List.mem_of_mem_take hb)))
theorem sumTo_ge {B : List Int} (hB : PB B) (m : Nat) : ∀ k, k ≤ 16 → GE (0, sumTo B m k)
  | 0, _ => zeroE_ge
  | k + 1, h => by
    have h1 := sumTo_ge hB m k (by omega)
    unfold sumTo
    split
    · rw [xorD_eq]; exact h1.add (blk_ge hB (show k < 16 by omega))
    · exact h1
theorem sumTo_xor {B : List Int} (hB : PB B) (a b : Nat) : ∀ k, k ≤ 16 → ((0 : Nat), sumTo B (a ^^^ b) k) = addE (0, sumTo B a k) (0, sumTo B b k)
  | 0, _ => (addE_zero zeroE_ge).symm
  | k + 1, h => by
    have ih := sumTo_xor hB a b k (by omega)
    have ga := sumTo_ge hB a k (by omega)
    have gb := sumTo_ge hB b k (by omega)
    have gk := blk_ge hB (show k < 16 by omega)
    unfold sumTo
    rw [Nat.testBit_xor]
    cases ha : a.testBit k <;> cases hb : b.testBit k
    · exact ih
    · rw [if_pos (by rfl), if_neg (by simp), if_pos rfl, xorD_eq, ih, xorD_eq, addE_assoc ga gb gk]
    · rw [if_pos (by rfl), if_pos rfl, if_neg (by simp), xorD_eq, ih, xorD_eq, addE_assoc ga gb gk, addE_comm gb gk, ← addE_assoc ga gk gb]
    · rw [if_neg (by simp), if_pos rfl, if_pos rfl, ih, xorD_eq, xorD_eq, addE_four ga gk gb gk, addE_self gk, addE_zero (ga.add gb)]
theorem sumTo_zero (B : List Int) : ∀ k, sumTo B 0 k = z16
  | 0 => rfl
  | k + 1 => by unfold sumTo; rw [if_neg (by simp)]; exact sumTo_zero B k
/-- true equations -/
def TE (B : List Int) (x : Nat × List Int) : Prop := x.1 < 65536 ∧ x.2 = sumB B x.1
theorem TE.ge {B : List Int} (hB : PB B) {x : Nat × List Int} (h : TE B x) : GE x := by
  have := sumTo_ge hB x.1 16 (by omega)
  exact ⟨h.1, by rw [h.2]; exact this.len, by rw [h.2]; exact this.rng⟩
theorem TE.add {B : List Int} (hB : PB B) {x y : Nat × List Int} (hx : TE B x) (hy : TE B y) : TE B (addE x y) := by
  refine ⟨((hx.ge hB).add (hy.ge hB)).m, ?_⟩
  have h := congrArg Prod.snd (sumTo_xor hB x.1 y.1 16 (by omega))
  show xorD x.2 y.2 = sumTo B (x.1 ^^^ y.1) 16
  rw [hx.2, hy.2]
  exact h.symm
theorem TE.mk_ (B : List Int) {m : Nat} (hm : m < 65536) : TE B (m, sumB B m) := ⟨hm, rfl⟩
theorem TE.null {B : List Int} {x : Nat × List Int} (hx : TE B x) (h : x.1 = 0) : x = zeroE := by
  refine pair_ext h ?_
  rw [hx.2, h]
  exact sumTo_zero B 16
/-- rows that are true of the blocks -/
structure TR (B : List Int) (l : List S25) : Prop where
  vp : VP l
  gr : GR l
  tr : ∀ r ∈ l, TE B (rowv r)
theorem TR.nil (B : List Int) : TR B [] := ⟨VP.of_pair (by simp) List.Pairwise.nil, ⟨by simp, by simp⟩, by simp⟩
theorem TR.red {B : List Int} (hB : PB B) {l : List S25} (hg : GR l) (ht : ∀ r ∈ l, TE B (rowv r)) : ∀ {x : Nat × List Int}, TE B x → TE B (redS l x) := by
  induction l with
  | nil => intro x hx; exact hx
  | cons r l ih =>
    intro x hx
    obtain ⟨j, _, hj, _⟩ := hg.lead List.mem_cons_self
    refine ih hg.tail (fun s hs => ht s (List.mem_cons_of_mem _ hs)) (x := stepS x r) ?_
    rw [stepS_eq x r hj]
    split
    · exact hx.add hB (ht r List.mem_cons_self)
    · exact hx
theorem TR.add {B : List Int} (hB : PB B) {l : List S25} (h : TR B l) {m : Nat} (h1 : 1 ≤ m) (h2 : m < 65536) :
    ((redS l (m, sumB B m)).1 = 0 ∧ redS l (m, sumB B m) = zeroE ∧ addS l (m : Int) (sumB B m) = (l, false, 0)) ∨
    ((redS l (m, sumB B m)).1 ≠ 0 ∧ NE l (redS l (m, sumB B m)) ∧ addS l (m : Int) (sumB B m) = (insS (redS l (m, sumB B m)) l, true, 0) ∧ TR B (insS (redS l (m, sumB B m)) l)) := by
  have ht := TR.red hB h.gr h.tr (TE.mk_ B h2)
  have hge := (TE.mk_ B h2).ge hB
  have hv := (validS_iff l).2 h.vp
  have hf : fineB (m : Int) (sumB B m) = true := by
    have : (sumB B m).length = 16 := hge.len
    unfold fineB
    simp [this]
    omega
  have hs : addS l (m : Int) (sumB B m) = if redS l (m, sumB B m) = (0, z16) then (l, false, 0) else if (redS l (m, sumB B m)).1 = 0 then ([], false, 12) else (insS (redS l (m, sumB B m)) l, true, 0) := by
    unfold addS; rw [if_neg (by rw [hv, hf]; simp)]; rfl
  by_cases h0 : (redS l (m, sumB B m)).1 = 0
  · have hz := ht.null h0
    exact .inl ⟨h0, hz, by rw [hs]; exact if_pos hz⟩
  · have hne : NE l (redS l (m, sumB B m)) := ⟨redS_ge h.gr hge, h0, redS_clear h.gr h.vp hge⟩
    obtain ⟨hv2, hg2, _⟩ := insS_ok h.gr h.vp hne
    refine .inr ⟨h0, hne, by rw [hs, if_neg (fun e => h0 (by rw [e])), if_neg h0], hv2, hg2, fun r hr => ?_⟩
    obtain ⟨_, _, h3⟩ := insS_mem h.vp (redS l (m, sumB B m))
    rcases h3 r hr with rfl | ⟨s, hs2, rfl⟩
    · rw [rowE_v]; exact ht
    · rcases mixE_or h.gr hne hs2 with e | e
      · rw [e]; exact (h.tr s hs2).add hB ht
      · rw [e]; exact h.tr s hs2
theorem TR.step {B : List Int} (hB : PB B) {l : List S25} (h : TR B l) {m : Int} (h0 : 0 ≤ m) (h2 : m < 65536) : ∃ l', stepA B (some l) m = some l' ∧ TR B l' := by
  unfold stepA
  by_cases hm : m = 0
  · exact ⟨l, by simp [hm], h⟩
  · obtain ⟨m, rfl⟩ := Int.eq_ofNat_of_zero_le h0
    rcases h.add hB (m := m) (by omega) (by omega) with ⟨_, _, e⟩ | ⟨_, _, e, ht⟩
    · refine ⟨l, ?_, h⟩
      simp only [if_neg hm, Int.toNat_natCast, e]
      rfl
    · refine ⟨_, ?_, ht⟩
      simp only [if_neg hm, Int.toNat_natCast, e]
      rfl
theorem TR.all {B : List Int} (hB : PB B) : ∀ (ms : List Int) {l : List S25}, TR B l → (∀ x ∈ ms, 0 ≤ x ∧ x < 65536) → ∃ l', ms.foldl (stepA B) (some l) = some l' ∧ TR B l'
  | [], l, h, _ => ⟨l, rfl, h⟩
  | m :: ms, l, h, hm => by
    obtain ⟨l1, e1, h1⟩ := h.step hB (m := m) (hm m List.mem_cons_self).1 (hm m List.mem_cons_self).2
    obtain ⟨l2, e2, h2⟩ := TR.all hB ms h1 (fun x hx => hm x (List.mem_cons_of_mem _ hx))
    exact ⟨l2, by rw [List.foldl_cons, e1, e2], h2⟩
theorem xorD_z {B : List Int} (hB : PB B) {d : List Int} (hd : GE (0, d)) {m : Nat} (hm : m < 65536) (h : xorD d (sumB B m) = z16) : d = sumB B m := by
  have h2 : addE (0, d) (0, sumB B m) = zeroE := pair_ext (Nat.xor_self 0) h
  exact congrArg Prod.snd (addE_eq_zero hd (sumTo_ge hB m 16 (by omega)) h2)
/-- what follows from true rows is true -/
theorem TR.sum {B : List Int} (hB : PB B) {l : List S25} (h : TR B l) (m : Nat) (hm : m < 65536) (hf : (sumS l (m : Int)).2 = true) : (sumS l (m : Int)).1 = sumB B m := by
  have hv := (validS_iff l).2 h.vp
  have hs := sumS_eq hv m hm
  rw [hs] at hf ⊢
  by_cases h0 : (redS l (m, z16)).1 = 0
  · rw [if_neg (fun e => e h0)]
    have ht := TR.red hB h.gr h.tr (TE.mk_ B hm)
    have hge := (TE.mk_ B hm).ge hB
    rw [redS_split h.gr m hm hge.len hge.rng] at ht
    have h1 : (addE (redS l (m, z16)) (0, sumB B m)).1 = 0 := by show (redS l (m, z16)).1 ^^^ 0 = 0; rw [h0]; rfl
    have h2 := congrArg Prod.snd (ht.null h1)
    have hg := redS_ge h.gr (mask_ge m hm)
    exact xorD_z hB ⟨by show (0 : Nat) < 65536; omega, hg.len, hg.rng⟩ hm h2
  · rw [if_pos h0] at hf
    cases hf
theorem redS_top {l : List S25} (hl : GR l) {j : Nat} (hno : ∀ r ∈ l, H.lead r.f0.toNat ≠ 2 ^ j) : ∀ {x : Nat × List Int}, 2 ^ j ≤ x.1 → x.1 < 2 ^ (j + 1) → 2 ^ j ≤ (redS l x).1 ∧ (redS l x).1 < 2 ^ (j + 1) := by
  induction l with
  | nil => intro x h1 h2; exact ⟨h1, h2⟩
  | cons r l ih =>
    intro x h1 h2
    obtain ⟨i, _, hi, hb⟩ := hl.lead List.mem_cons_self
    have hij : i ≠ j := by
      rintro rfl
      exact hno r List.mem_cons_self hi
    refine ih hl.tail (fun s hs => hno s (List.mem_cons_of_mem _ hs)) (x := stepS x r) ?_ ?_
    all_goals
      rw [stepS_eq x r hi]
      split
      · rename_i hbit
        have hlt : i < j := by
          rcases Nat.lt_or_gt_of_ne hij with h | h
          · exact h
          · have := Nat.testBit_lt_two_pow (x := x.1) (i := i) (Nat.lt_of_lt_of_le h2 (Nat.pow_le_pow_right (by omega) (by omega)))
            rw [this] at hbit
            cases hbit
        have hf := fine_spec (hl.fine r List.mem_cons_self)
        obtain ⟨i', _, e, h3, h4⟩ := lead_spec r.f0.toNat (by omega) (by omega)
        have hii : i' = i := by
          rw [hi] at e
          exact ((Nat.pow_right_inj (show 1 < 2 by omega)).1 e).symm
        subst hii
        have hr : r.f0.toNat < 2 ^ j := Nat.lt_of_lt_of_le h4 (Nat.pow_le_pow_right (by omega) (by omega))
        first
        | (refine Nat.ge_two_pow_of_testBit ?_
           show (x.1 ^^^ r.f0.toNat).testBit j = true
           rw [Nat.testBit_xor, top_bit h1 h2, Nat.testBit_lt_two_pow hr]
           rfl)
        | exact Nat.xor_lt_two_pow h2 (Nat.lt_of_lt_of_le hr (Nat.pow_le_pow_right (by omega) (by omega)))
      · first | exact h1 | exact h2
theorem desc_ext : ∀ (L L' : List Nat), L.Pairwise (· > ·) → L'.Pairwise (· > ·) → (∀ x ∈ L, x ∈ L') → (∀ x ∈ L', x ∈ L) → L = L'
  | [], [], _, _, _, _ => rfl
  | [], b :: L', _, _, _, h => absurd (h b List.mem_cons_self) (by simp)
  | a :: L, [], _, _, h, _ => absurd (h a List.mem_cons_self) (by simp)
  | a :: L, b :: L', hp, hq, h1, h2 => by
    rw [List.pairwise_cons] at hp hq
    have hab : a = b := by
      have x1 := h1 a List.mem_cons_self
      have x2 := h2 b List.mem_cons_self
      rcases List.mem_cons.1 x1 with e | e
      · exact e
      · rcases List.mem_cons.1 x2 with e2 | e2
        · exact e2.symm
        · have := hp.1 b e2
          have := hq.1 a e
          omega
    subst hab
    rw [desc_ext L L' hp.2 hq.2 (fun x hx => ?_) (fun x hx => ?_)]
    · rcases List.mem_cons.1 (h1 x (List.mem_cons_of_mem _ hx)) with e | e
      · have := hp.1 x hx
        omega
      · exact e
    · rcases List.mem_cons.1 (h2 x (List.mem_cons_of_mem _ hx)) with e | e
      · have := hq.1 x hx
        omega
      · exact e
theorem sup_step {B : List Int} (hB : PB B) {l l' : List S25} (ht : TR B l) {m : Int} (h0 : 0 ≤ m) (h2 : m < 65536) (h : stepA B (some l) m = some l') : (∀ {y : Nat × List Int}, Sp l y → Sp l' y) ∧ (m ≠ 0 → Sp l' (m.toNat, sumB B m.toNat)) := by
  unfold stepA at h
  by_cases hm : m = 0
  · simp only [hm, if_true] at h
    cases h
    exact ⟨fun hy => hy, fun h => absurd hm h⟩
  · obtain ⟨m, rfl⟩ := Int.eq_ofNat_of_zero_le h0
    rw [Int.toNat_natCast]
    have hge := (TE.mk_ B (m := m) (by omega)).ge hB
    have hdiff := redS_diff ht.gr ht.gr (fun r hr => hr) hge
    rcases ht.add hB (m := m) (by omega) (by omega) with ⟨_, hz, e⟩ | ⟨_, hne, e, ht2⟩
    · simp only [if_neg hm, Int.toNat_natCast, e, if_true] at h
      cases h
      refine ⟨fun hy => hy, fun _ => ?_⟩
      rw [hz, addE_zero hge] at hdiff
      exact hdiff
    · simp only [if_neg hm, Int.toNat_natCast, e, if_true] at h
      cases h
      obtain ⟨hE, hS⟩ := insS_Sp ht.gr ht.vp hne
      refine ⟨hS, fun _ => ?_⟩
      have h3 := (hS hdiff).sum ht2.gr hE
      rwa [addE_cancel hge hne.ge] at h3
theorem sup_all {B : List Int} (hB : PB B) : ∀ (ms : List Int) {l l' : List S25}, TR B l → (∀ x ∈ ms, 0 ≤ x ∧ x < 65536) → ms.foldl (stepA B) (some l) = some l' → (∀ {y : Nat × List Int}, Sp l y → Sp l' y) ∧ (∀ m ∈ ms, m ≠ 0 → Sp l' (m.toNat, sumB B m.toNat))
  | [], l, l', _, _, h => by cases h; exact ⟨fun hy => hy, by simp⟩
  | m :: ms, l, l', ht, hm, h => by
    have hm0 := hm m List.mem_cons_self
    obtain ⟨l1, e1, h1⟩ := ht.step hB (m := m) hm0.1 hm0.2
    rw [List.foldl_cons, e1] at h
    obtain ⟨a1, a2⟩ := sup_step hB ht hm0.1 hm0.2 e1
    obtain ⟨b1, b2⟩ := sup_all hB ms h1 (fun x hx => hm x (List.mem_cons_of_mem _ hx)) h
    refine ⟨fun hy => b1 (a1 hy), fun x hx hx0 => ?_⟩
    rcases List.mem_cons.1 hx with rfl | hx
    · exact b1 (a2 hx0)
    · exact b2 x hx hx0
end Go.Proofs.YtknlbeojdmeljaaDoor.L
namespace Go.Proofs.YtknlbeojdmeljaaDoor.L
open Go.RowKit Go.Proofs.YtknlbeojdmeljaaDoorW.PrintWords Go.Proofs.YtknlbeojdmeljaaDoorW.PrintLast Go.Proofs.YtknlbeojdmeljaaDoorW.PrintMore Go.Proofs.YtknlbeojdmeljaaDoor.P Go.Proofs.YtknlbeojdmeljaaDoor.H
set_option linter.unusedVariables false
set_option linter.unusedSimpArgs false
theorem sumTo_succ (B : List Int) (m k : Nat) : sumTo B m (k + 1) = if m.testBit k = true then xorD (sumTo B m k) (blk B k) else sumTo B m k := rfl
theorem foldE_sum {B : List Int} {m : Nat} (hm : m < 65536) : ∀ k, k ≤ 16 → foldE B m (fr k) = (sumTo B m k, hiS m k)
  | 0, _ => by rw [hiS_zero]; rfl
  | k + 1, h => by
    rw [fr_succ (show k < 16 by omega), foldE_snoc, foldE_sum hm k (by omega)]
    rw [sumTo_succ]
    unfold stepE
    by_cases hb : m.testBit k = true
    · rw [if_pos ((ctz_eq hm (by omega)).2 hb), if_pos hb, hiS_step hb]
    · rw [if_neg (fun h => hb ((ctz_eq hm (by omega)).1 h)), if_neg hb, hiS_same (by simpa using hb)]
theorem sumE_eq (B : List Int) (s : Int) (hs : 0 ≤ s ∧ s ≤ 1000000000) : sumE B s = sumB B (setS s).toNat := by
  have := setS_range s hs.1 hs.2
  exact congrArg Prod.fst (foldE_sum (B := B) (m := (setS s).toNat) (by omega) 16 (Nat.le_refl _))
def Good (l : List Int) : Prop := ∀ s ∈ l, 0 ≤ s ∧ s ≤ 1000000000
theorem Good.ms {l : List Int} (h : Good l) : ∀ x ∈ l.map setS, 0 ≤ x ∧ x < 65536 := by
  intro x hx
  obtain ⟨s, hs, rfl⟩ := List.mem_map.1 hx
  have := setS_range s (h s hs).1 (h s hs).2
  omega
theorem setN (s : Int) (hs : 0 ≤ s ∧ s ≤ 1000000000) : ∃ m : Nat, setS s = (m : Int) ∧ 1 ≤ m ∧ m < 65536 := by
  have := setS_range s hs.1 hs.2
  exact ⟨(setS s).toNat, by omega, by omega, by omega⟩
/-- the rows after coded blocks of a page -/
theorem recL_spec {B : List Int} (hB : PB B) : ∀ (seeds : List Int) {l : List S25} (n : Int), TR B l → Good seeds →
    ∃ l', recL B seeds l n = (l', n + ((l'.length : Int) - l.length), true) ∧ (seeds.map setS).foldl (stepA B) (some l) = some l' ∧ TR B l'
  | [], l, n, h, _ => ⟨l, by simp [recL], rfl, h⟩
  | s :: r, l, n, h, hg => by
    have hs := hg s List.mem_cons_self
    have hr : Good r := fun x hx => hg x (List.mem_cons_of_mem _ hx)
    have he := sumE_eq B s hs
    obtain ⟨m, hm, h1, h2⟩ := setN s hs
    rw [hm, Int.toNat_natCast] at he
    rcases h.add hB h1 h2 with ⟨_, _, e⟩ | ⟨_, hne, e, ht⟩
    · obtain ⟨l', a, b, c⟩ := recL_spec hB r n h hr
      refine ⟨l', ?_, ?_, c⟩
      · unfold recL
        rw [hm, he, e]
        simpa using a
      · rw [List.map_cons, List.foldl_cons, show stepA B (some l) (setS s) = some l from ?_]
        · exact b
        · have hm0 : ¬ ((m : Int) = 0) := by omega
          unfold stepA
          rw [hm]
          simp only [if_neg hm0, Int.toNat_natCast, e, if_true]
    · obtain ⟨l', a, b, c⟩ := recL_spec hB r (n + 1) ht hr
      refine ⟨l', ?_, ?_, c⟩
      · unfold recL
        rw [hm, he, e]
        simp only [if_true]
        rw [a, (insS_ok h.gr h.vp hne).2.2, show n + 1 + ((l'.length : Int) - ((l.length + 1 : Nat) : Int)) = n + ((l'.length : Int) - l.length) by omega]
      · rw [List.map_cons, List.foldl_cons, show stepA B (some l) (setS s) = some (insS (redS l (m, sumB B m)) l) from ?_]
        · exact b
        · have hm0 : ¬ ((m : Int) = 0) := by omega
          unfold stepA
          rw [hm]
          simp only [if_neg hm0, Int.toNat_natCast, e, if_true]
theorem rec0 {B : List Int} (hB : PB B) (seeds : List Int) (hg : Good seeds) : ∃ l, recL B seeds [] 0 = (l, (l.length : Int), true) ∧ allO B (seeds.map setS) = some l ∧ TR B l := by
  obtain ⟨l, a, b, c⟩ := recL_spec hB seeds 0 (TR.nil B) hg
  exact ⟨l, by rw [a]; simp, b, c⟩
def down16 : List Nat := [15, 14, 13, 12, 11, 10, 9, 8, 7, 6, 5, 4, 3, 2, 1, 0]
theorem down16_mem {i : Nat} : i ∈ down16 ↔ i < 16 := by
  unfold down16
  simp only [List.mem_cons, List.not_mem_nil, or_false]
  omega
theorem full {l : List S25} (hl : GR l) (hv : VP l) (h : ∀ i, i < 16 → ∃ r ∈ l, H.lead r.f0.toNat = 2 ^ i) : l.length = 16 := by
  have := desc_ext (l.map expo) down16 (expo_desc hl hv) (by decide) (fun x hx => ?_) (fun x hx => ?_)
  · have h2 := congrArg List.length this
    rw [List.length_map] at h2
    exact h2
  · obtain ⟨r, hr, rfl⟩ := List.mem_map.1 hx
    exact down16_mem.2 (expo_spec hl hr).1
  · obtain ⟨r, hr, e⟩ := h x (down16_mem.1 hx)
    refine List.mem_map.2 ⟨r, hr, ?_⟩
    have := (expo_spec hl hr).2
    rw [e] at this
    exact ((Nat.pow_right_inj (show 1 < 2 by omega)).1 this).symm
theorem enough {l : List S25} {B : List Int} (hB : PB B) (h : TR B l) (h16 : l.length = 16) {m : Nat} (h1 : 1 ≤ m) (h2 : m < 65536) : redS l (m, sumB B m) = zeroE ∧ addS l (m : Int) (sumB B m) = (l, false, 0) := by
  rcases h.add hB h1 h2 with ⟨_, e, e2⟩ | ⟨_, hne, _, ht⟩
  · exact ⟨e, e2⟩
  · have := len16 ht.gr ht.vp
    rw [(insS_ok h.gr h.vp hne).2.2] at this
    omega
theorem another {l : List S25} {A : List Int} (hA : PB A) (h : TR A l) (h16 : l.length = 16) {m : Nat} (h1 : 1 ≤ m) (h2 : m < 65536) {d : List Int} (hd : GE (0, d)) :
    addS l (m : Int) d = if d = sumB A m then (l, false, 0) else ([], false, 12) := by
  by_cases e : d = sumB A m
  · rw [if_pos e, e]
    exact (enough hA h h16 h1 h2).2
  · rw [if_neg e]
    have hz := (enough hA h h16 h1 h2).1
    have gs := sumTo_ge hA m 16 (Nat.le_refl _)
    have gm := (TE.mk_ A h2).ge hA
    have g2 : GE (0, xorD (sumB A m) d) := by rw [xorD_eq]; exact GE.add gs hd
    have hsplit : (m, d) = addE (m, sumB A m) (0, xorD (sumB A m) d) := by
      refine pair_ext (Nat.xor_zero m).symm ?_
      have := congrArg Prod.snd (addE_assoc gs gs hd)
      rw [addE_self gs] at this
      exact (congrArg Prod.snd (zero_addE hd)).symm.trans this
    have hred : redS l (m, d) = (0, xorD (sumB A m) d) := by
      rw [hsplit, redS_lin h.gr gm g2, hz, redS_data h.gr, zero_addE g2]
    have hv := (validS_iff l).2 h.vp
    have hf : fineB (m : Int) d = true := by
      have : d.length = 16 := hd.len
      unfold fineB
      simp [this]
      omega
    unfold addS
    rw [if_neg (by rw [hv, hf]; simp), Int.toNat_natCast, hred, if_neg, if_pos rfl]
    intro e2
    have e3 : xorD (sumB A m) d = z16 := congrArg Prod.snd e2
    have e4 : addE (0, sumB A m) (0, d) = zeroE := pair_ext (Nat.xor_self 0) e3
    exact e (congrArg Prod.snd (addE_eq_zero gs hd e4)).symm
theorem lead_sp {l : List S25} (hl : GR l) (hv : VP l) {i : Nat} (d : List Int) (h : Sp l (2 ^ i, d)) : ∃ r ∈ l, H.lead r.f0.toNat = 2 ^ i := by
  by_cases hex : ∃ r ∈ l, H.lead r.f0.toNat = 2 ^ i
  · exact hex
  · have h3 := redS_top hl (j := i) (fun s hs he => hex ⟨s, hs, he⟩) (x := (2 ^ i, d)) (Nat.le_refl _) (Nat.pow_lt_pow_right (by omega) (by omega))
    rw [redS_span hl hv h] at h3
    have := Nat.two_pow_pos i
    have h4 : (zeroE).1 = 0 := rfl
    omega
theorem setS_small (i : Nat) (hi : i < 16) : setS (i : Int) = ((2 ^ i : Nat) : Int) := by
  unfold setS
  rw [if_neg (by omega), if_pos (by omega), Int.toNat_natCast]
theorem plain_full {B : List Int} (hB : PB B) {seeds : List Int} (hg : Good seeds) (hall : ∀ i : Nat, i < 16 → (i : Int) ∈ seeds) {l : List S25} (h : allO B (seeds.map setS) = some l) (ht : TR B l) : l.length = 16 := by
  have hs := (sup_all hB _ (TR.nil B) hg.ms h).2
  refine full ht.gr ht.vp (fun i hi => ?_)
  have h2 := hs (setS i) (List.mem_map.2 ⟨_, hall i hi, rfl⟩)
  rw [setS_small i hi, Int.toNat_natCast] at h2
  have := Nat.two_pow_pos i
  exact lead_sp ht.gr ht.vp _ (h2 (by omega))
theorem PB.xor {A B : List Int} (hA : PB A) (hB : PB B) : PB (xorD A B) := by
  refine ⟨by simp [xorD, hA.len, hB.len], fun b hb => ?_⟩
  unfold xorD at hb
  obtain ⟨i, hi, rfl⟩ := List.getElem_of_mem hb
  simp only [List.length_zipWith] at hi
  rw [List.getElem_zipWith]
  have a := hA.rng _ (List.getElem_mem (show i < A.length by omega))
  have b := hB.rng _ (List.getElem_mem (show i < B.length by omega))
  exact xorB_isB a b
end Go.Proofs.YtknlbeojdmeljaaDoor.L
namespace Go.Proofs.YtknlbeojdmeljaaDoor.R
open Go.ChangeShapes Go.WideShapes Go.ChangeAt Go.RowKit Go.Proofs.YtknlbeojdmeljaaDoorW.PrintWords Go.Proofs.YtknlbeojdmeljaaDoor.P
open Go.Proofs.YtknlbeojdmeljaaDoor.L (isB)
set_option linter.unusedVariables false
theorem open_num {k : IntKind} {t te : TypeId} (hu : Tryd.prog.underlying t = some (.slice te)) (hk : Tryd.prog.underlying te = some (.int k)) (hc1 : Tryd.prog.cellsOf te = 1) {H : Type} {enc : TypeId × Value → H} {W : World} {a : Option Addr} {len cap : Nat} {d : DataW H} {p : List MemPlace} (h : DataW.Trod enc Tryd.prog W 0 (fun _ => true) true t (.slice a len cap) d p) :
    ∃ ds : List Int, len = ds.length ∧ len ≤ cap ∧ Kd.C (Kd.int k) W a len ds ∧ ∀ b ∈ ds, (Lit.int k b).wf = true := by
  obtain ⟨n, h⟩ := h
  rcases open_ints hu hk hc1 h with ⟨hcs, _⟩ | ⟨ad, l, c, zs, hcs, _, hl, hm, hz, _, hcell, hwz⟩
  · simp [Value.cells] at hcs
    obtain ⟨rfl, rfl, rfl⟩ := hcs
    exact ⟨[], rfl, Nat.le_refl _, ⟨rfl, by simp, fun h => absurd h (by simp)⟩, by simp⟩
  · simp [Value.cells] at hcs
    obtain ⟨rfl, rfl, rfl⟩ := hcs
    have hz' : zs.length = cap := by simpa using hz
    have hl' : len ≤ cap := by simpa using hl
    have htl : (zs.take len).length = len := by rw [List.length_take]; omega
    refine ⟨zs.take len, htl.symm, hl', ⟨htl, by have : cap ≤ maxLen := hm; unfold maxLen at this; omega, fun _ => ⟨ad, rfl, fun j p hj => ⟨[.int k p], rfl, rfl, fun i u hu => ?_⟩⟩⟩, fun b hb => hwz b (List.mem_of_mem_take hb)⟩
    match i, hu with
    | 0, hu =>
      simp at hu
      subst hu
      rw [List.getElem?_take] at hj
      split at hj
      · rename_i hjl
        have h2 := hcell j (by omega)
        rw [List.getD_eq_getElem?_getD, hj] at h2
        have e : (Kd.int k).sz = 1 := rfl
        rw [e, Nat.mul_one]
        exact h2
      · cases hj
theorem open_byteS {H : Type} {enc : TypeId × Value → H} {W : World} {a : Option Addr} {len cap : Nat} {d : DataW H} {p : List MemPlace} (h : DataW.Trod enc Tryd.prog W 0 (fun _ => true) true 22 (.slice a len cap) d p) :
    ∃ ds : List Int, len = ds.length ∧ len ≤ cap ∧ Kd.C (Kd.int .u8) W a len ds ∧ ∀ b ∈ ds, isB b := by
  obtain ⟨ds, h1, h2, h3, h4⟩ := open_num Tryd.underlying22 Tryd.underlying5 cell5' h
  refine ⟨ds, h1, h2, h3, fun b hb => ?_⟩
  have h3 := h4 b hb
  simp only [Lit.wf, Bool.and_eq_true, decide_eq_true_eq] at h3
  have e1 : IntKind.u8.min = 0 := rfl
  have e2 : IntKind.u8.max = 255 := rfl
  rw [e1, e2] at h3
  exact ⟨h3.1, by omega⟩
end Go.Proofs.YtknlbeojdmeljaaDoor.R
namespace Go.Proofs.YtknlbeojdmeljaaDoor.H
open Go.RowKit Go.Proofs.YtknlbeojdmeljaaDoorW.PrintWords Go.Proofs.YtknlbeojdmeljaaDoorW.PrintLast Go.Proofs.YtknlbeojdmeljaaDoorW.PrintMore Go.Proofs.YtknlbeojdmeljaaDoor.P
set_option linter.unusedVariables false
set_option linter.unusedSimpArgs false
/-- What is held of rows and blocks, in one bundle. -/
def Hold (w0 w : World) (ls : List (Option Addr × Nat × List S25)) (bs : List (Option Addr × Nat × List Int)) : Prop :=
  Below w0.heap.size w0 w ∧ (∀ p ∈ ls, Kd.C k25 w p.1 p.2.1 p.2.2) ∧ (∀ p ∈ bs, Kd.C (Kd.int .u8) w p.1 p.2.1 p.2.2)
theorem Hold.below {w0 w u : World} {ls : List (Option Addr × Nat × List S25)} {bs : List (Option Addr × Nat × List Int)} (h : Hold w0 w ls bs) (hb : Below w.heap.size w u) : Hold w0 u ls bs :=
  ⟨h.1.trans (hb.mono h.1.size), fun p hp => Kd.C_below (h.2.1 p hp) hb, fun p hp => Kd.C_below (h.2.2 p hp) hb⟩
theorem Hold.addl {w0 w : World} {ls : List (Option Addr × Nat × List S25)} {bs : List (Option Addr × Nat × List Int)} (h : Hold w0 w ls bs) {A : Option Addr} {n : Nat} {xs : List S25} (hc : Kd.C k25 w A n xs) : Hold w0 w ((A, n, xs) :: ls) bs :=
  ⟨h.1, fun p hp => by rcases List.mem_cons.1 hp with rfl | hp; exact hc; exact h.2.1 p hp, h.2.2⟩
theorem Hold.addb {w0 w : World} {ls : List (Option Addr × Nat × List S25)} {bs : List (Option Addr × Nat × List Int)} (h : Hold w0 w ls bs) {A : Option Addr} {n : Nat} {xs : List Int} (hc : Kd.C (Kd.int .u8) w A n xs) : Hold w0 w ls ((A, n, xs) :: bs) :=
  ⟨h.1, h.2.1, fun p hp => by rcases List.mem_cons.1 hp with rfl | hp; exact hc; exact h.2.2 p hp⟩
theorem ex_h {w0 w : World} {ls : List (Option Addr × Nat × List S25)} {bs : List (Option Addr × Nat × List Int)} (h : Hold w0 w ls bs) :
    Calls Tryd.prog 27 #[] w fun e u => ∃ A c, e = .returned (.slice A 256 c) ∧ 256 ≤ c ∧ Hold w0 u ls ((A, 256, exB) :: bs) := by
  obtain ⟨E, hE⟩ : ∃ E, E = exB := ⟨_, rfl⟩
  have hcall := slotmeshlaw34_example.calls 300 E w (by rw [hE]; exact ex_is)
  rw [← hE]
  have hl256 : E.length = 256 := by rw [hE]; simp [exB]
  clear hE
  refine hcall.mono ?_
  rintro e u ⟨v, rfl, hR, hb⟩
  obtain ⟨A, c, rfl⟩ := Kd.R_slice hR
  obtain ⟨_, hl, hc⟩ := Kd.R_reads' hR
  rw [hl256] at hl hc ⊢
  exact ⟨A, c, rfl, hl, (h.below hb).addb hc⟩
theorem enc_h {w0 w : World} {ls : List (Option Addr × Nat × List S25)} {bs : List (Option Addr × Nat × List Int)} (h : Hold w0 w ls bs) (ht : Tabs w0) {A : Option Addr} {c : Nat} (B : List Int) (p s : Int) (hA : (A, 256, B) ∈ bs) (hc : 256 ≤ c) (hp : 0 ≤ p ∧ p < 16) (hs : 0 ≤ s ∧ s ≤ 1000000000) :
    Calls Tryd.prog 12 #[.slice A 256 c, .int .i64 p, .int .i64 s] w fun e u => ∃ A' c', e = .returned (.tuple #[.agg #[.int .i64 p, .int .i64 s, .slice A' 16 c', .slice none 0 0], .int .i64 0]) ∧ 16 ≤ c' ∧ Hold w0 u ls ((A', 16, sumE B s) :: bs) := by
  refine (encode_good A c B p s w hc (h.2.2 _ hA) (ht.keep h.1) hp hs).mono ?_
  rintro e u ⟨v, rfl, hR, hb⟩
  have hl16 : (sumE B s).length = 16 := sumE_len (h.2.2 _ hA).1 s hs
  obtain ⟨A', c', rfl⟩ := Kd.R_slice hR
  obtain ⟨_, hl, hcc⟩ := Kd.R_reads' hR
  rw [show (foldE B (setS s).toNat (fr 16)).1 = sumE B s from rfl, hl16] at hl hcc ⊢
  exact ⟨A', c', rfl, hl, (h.below hb).addb hcc⟩
theorem rcv_h {w0 w : World} {ls : List (Option Addr × Nat × List S25)} {bs : List (Option Addr × Nat × List Int)} (h : Hold w0 w ls bs) (ht : Tabs w0) {A : Option Addr} {c : Nat} (B : List Int) (A2 : Option Addr) (c2 n2 : Nat) (seeds : List Int) (hn : n2 = seeds.length) (hA : (A, 256, B) ∈ bs) (hc : 256 ≤ c)
    (hr2 : Kd.C (Kd.int .i64) w A2 seeds.length seeds) (hl : seeds.length ≤ 200) (hg : ∀ s ∈ seeds, 0 ≤ s ∧ s ≤ 1000000000) (zs : List S25) (m : Int) (b : Bool) (k : Nat) (hres : recL B seeds [] 0 = (zs, m, b)) (hk : zs.length = k) :
    Calls Tryd.prog 24 #[.slice A 256 c, .slice A2 n2 c2] w fun e u => ∃ A' c', e = .returned (.tuple #[.slice A' k c', .int .i64 m, .bool b]) ∧ k ≤ c' ∧ Hold w0 u ((A', k, zs) :: ls) bs := by
  subst hn hk
  have hcall := received_calls A c B A2 c2 seeds w hc (h.2.2 _ hA) hr2 hl hg (ht.keep h.1)
  rw [hres] at hcall
  refine hcall.mono ?_
  rintro e u ⟨v, rfl, hS, hb⟩
  obtain ⟨A', c', rfl⟩ := Kd.R_slice (Kd.S_R hS)
  obtain ⟨_, hl', hcc⟩ := Kd.R_reads' (Kd.S_R hS)
  exact ⟨A', c', rfl, hl', (h.below hb).addl hcc⟩
theorem page_h {w0 w : World} {ls : List (Option Addr × Nat × List S25)} {bs : List (Option Addr × Nat × List Int)} (h : Hold w0 w ls bs) {A : Option Addr} {cap n : Nat} (xs : List S25) (ys : List Int) (b : Bool) (k : Nat)
    (hA : (A, n, xs) ∈ ls) (hn : n = xs.length) (hr : pageS xs = (ys, b)) (hk : ys.length = k) :
    Calls Tryd.prog 16 #[.slice A n cap] w fun e u => ∃ A' c', e = .returned (.tuple #[.slice A' k c', .bool b]) ∧ k ≤ c' ∧ Hold w0 u ls ((A', k, ys) :: bs) := by
  subst hn hk
  have hc := page_calls A cap xs w (h.2.1 _ hA)
  rw [hr] at hc
  refine hc.mono ?_
  rintro e u ⟨v, rfl, hR, hb⟩
  obtain ⟨A', c', rfl⟩ := Kd.R_slice hR
  obtain ⟨_, hl', hcc⟩ := Kd.R_reads' hR
  exact ⟨A', c', rfl, hl', (h.below hb).addb hcc⟩
theorem bytes_h {w0 w : World} {ls : List (Option Addr × Nat × List S25)} {bs : List (Option Addr × Nat × List Int)} (h : Hold w0 w ls bs) {A A1 : Option Addr} {c c1 n n1 : Nat} (xs ys : List Int) (b : Bool) (k : Nat) (hA : (A, n, xs) ∈ bs) (hB : (A1, n1, ys) ∈ bs) (hn : n = xs.length) (hn1 : n1 = ys.length) (hc : n ≤ c) (hc1 : n1 ≤ c1) (hr : slotmeshref33_Bytes.f k xs ys = some b) :
    Calls Tryd.prog 22 #[.slice A n c, .slice A1 n1 c1] w fun e u => e = .returned (.bool b) ∧ Hold w0 u ls bs := by
  subst hn hn1
  refine (slotmeshref33_Bytes.calls k A c xs A1 c1 ys b w (h.2.2 _ hA) hc (h.2.2 _ hB) hc1 hr).mono ?_
  rintro e u ⟨rfl, hd⟩
  exact ⟨rfl, h.below hd.below⟩
end Go.Proofs.YtknlbeojdmeljaaDoor.H
namespace Go.Proofs.YtknlbeojdmeljaaDoor.H
open Go.RowKit Go.Proofs.YtknlbeojdmeljaaDoorW.PrintWords Go.Proofs.YtknlbeojdmeljaaDoorW.PrintLast Go.Proofs.YtknlbeojdmeljaaDoorW.PrintMore Go.Proofs.YtknlbeojdmeljaaDoor.P
set_option linter.unusedVariables false
set_option linter.unusedSimpArgs false
/-- a block's cells, told by their values -/
def Box (w : World) (b : Nat) (vs : List Value) : Prop := b < w.heap.size ∧ ∀ k v, vs[k]? = some v → w.cell? ⟨b, k, none⟩ = some v
theorem Box.below {w u : World} {b : Nat} {vs : List Value} (h : Box w b vs) (hb : Below w.heap.size w u) : Box u b vs :=
  ⟨Nat.lt_of_lt_of_le h.1 hb.size, fun k v hk => (hb.cell (p := ⟨b, k, none⟩) h.1).trans (h.2 k v hk)⟩
theorem Box.new (w : World) (vs : List Value) (t : TypeId) : Box (w.alloc (.cells vs.toArray t)) w.heap.size vs := by
  refine ⟨blk_lt (heap_alloc_new w _), fun k v hk => ?_⟩
  rw [blk_cell (heap_alloc_new w _) k]
  simpa using hk
theorem Hold.alloc {w0 w : World} {ls : List (Option Addr × Nat × List S25)} {bs : List (Option Addr × Nat × List Int)} (h : Hold w0 w ls bs) (o : Obj) : Hold w0 (w.alloc o) ls bs :=
  h.below ((Below.refl _ _).alloc (Nat.le_refl _) _)
theorem lit_C (k : IntKind) (w : World) (e : TypeId) (xs : List Int) (h : xs.length ≤ 9223372036854775807) : Kd.C (Kd.int k) (w.alloc (.cells (nums k xs).toArray e)) (some ⟨w.heap.size, 0, none⟩) xs.length xs := by
  refine ⟨rfl, h, fun _ => ⟨_, rfl, fun j p hj => ⟨[.int k p], rfl, rfl, fun i u hu => ?_⟩⟩⟩
  match i, hu with
  | 0, hu =>
    simp at hu
    subst hu
    have e1 : (Kd.int k).sz = 1 := rfl
    rw [e1, Nat.mul_one, Nat.add_zero, add_plain, blk_cell (heap_alloc_new w _) j]
    simp [nums, hj]
theorem Hold.rebase {w0 w : World} {ls : List (Option Addr × Nat × List S25)} {bs : List (Option Addr × Nat × List Int)} (h : Hold w0 w ls bs) : Hold w w ls bs := ⟨Below.refl _ _, h.2.1, h.2.2⟩
theorem Hold.onto {w0 w u : World} {ls ls' : List (Option Addr × Nat × List S25)} {bs bs' : List (Option Addr × Nat × List Int)} (h : Hold w0 w ls bs) (k : Hold w u ls' bs') : Hold w0 u ls' bs' := ⟨h.1.trans (k.1.mono h.1.size), k.2.1, k.2.2⟩
theorem set_h {w0 w : World} {ls : List (Option Addr × Nat × List S25)} {bs : List (Option Addr × Nat × List Int)} (h : Hold w0 w ls bs) (ht : Tabs w0) (n v : Int) (hv : setS n = v) :
    Calls Tryd.prog 18 #[.int .i64 n] w fun e u => e = .returned (.int .i64 v) ∧ Hold w0 u ls bs := by
  subst hv
  exact (set_calls n w (ht.keep h.1)).mono fun e u ⟨he, hb⟩ => ⟨he, h.below hb⟩
theorem bad_h {w0 w : World} {ls : List (Option Addr × Nat × List S25)} {bs : List (Option Addr × Nat × List Int)} (h : Hold w0 w ls bs) (A : Option Addr) (n c : Nat) (p s : Int) (hg : ¬ goodE n p s) :
    Calls Tryd.prog 12 #[.slice A n c, .int .i64 p, .int .i64 s] w fun e u => e = .returned (.tuple #[.agg #[.int .i64 0, .int .i64 0, .slice none 0 0, .slice none 0 0], .int .i64 1]) ∧ Hold w0 u ls bs :=
  (encode_bad A n c p s w hg).mono fun e u ⟨hb, he⟩ => ⟨he, h.below hb⟩
set_option maxRecDepth 100000 in
set_option maxHeartbeats 1000000 in
theorem head_calls (w : World) (ht : Tabs w) : Calls Tryd.prog 10 #[] w fun e w' => e = .returned (.bool true) ∧ Below w.heap.size w w' := by
  have HT := Lib.hid ht
  have H0 := Lib.hid (show Hold w w [] [] from ⟨Below.refl _ _, (fun _ h => by cases h), (fun _ h => by cases h)⟩)
  obtain ⟨E, hE⟩ : ∃ E, E = exB := ⟨_, rfl⟩
  have HE := Lib.hid hE
  obtain ⟨z1, hz1⟩ : ∃ z, z = (recL exB up15 [] 0).1 := ⟨_, rfl⟩
  obtain ⟨z2, hz2⟩ : ∃ z, z = (recL exB dn16 [] 0).1 := ⟨_, rfl⟩
  have R1 := Lib.hid (show recL E up15 [] 0 = (z1, 15, true) by rw [hE, hz1, ← ex_up])
  have R2 := Lib.hid (show recL E dn16 [] 0 = (z2, 16, true) by rw [hE, hz2, ← ex_dn])
  obtain ⟨⟨p1, b1⟩, hp1⟩ : ∃ p, p = pageS z1 := ⟨_, rfl⟩
  have hb1 : b1 = false := by have := ex_upP; rw [← hz1, ← hp1] at this; exact this
  subst hb1
  have P1 := Lib.hid hp1.symm
  have P2 := Lib.hid (show pageS z2 = (E, true) by rw [hE, hz2, ex_dnP])
  have S3 := Lib.hid (show sumE E 3 = List.replicate 16 3 by rw [hE]; exact ex_enc)
  have EX := Lib.hid (fun w0 w1 ls bs (h : Hold w0 w1 ls bs) => hE ▸ ex_h h)
  have LE := Lib.hid (show E.length = 256 by rw [hE]; simp [exB])
  clear ht hE hz1 hz2 hp1
  go_enter Tryd.func10, Tryd.ntmps10
  go_wp2_with fail
  refine (EX.out _ _ _ _ H0.out).mono ?_
  rintro e u1 ⟨A1, c1, rfl, hc1, h1⟩
  have H1 := Lib.hid h1
  clear h1
  go_wp2_with fail
  refine (enc_h H1.out HT.out E 2 3 (List.mem_cons_self) hc1 (by omega) (by omega)).mono ?_
  rintro e u2 ⟨A2, c2, rfl, hc2, h2⟩
  have H2 := Lib.hid h2
  clear h2
  go_wp2_with fail
  obtain ⟨u2b, hu2⟩ : ∃ u, u = u2.alloc (Obj.cells #[Value.int IntKind.i64 2, Value.int IntKind.i64 3, Value.slice A2 16 c2, Value.slice none 0 0] 26) := ⟨_, rfl⟩
  have X2 := Lib.hid (show Box u2b u2.heap.size [Value.int IntKind.i64 2, Value.int IntKind.i64 3, Value.slice A2 16 c2, Value.slice none 0 0] by rw [hu2]; exact Box.new _ _ _)
  have H2b := Lib.hid (show Hold w u2b _ _ by rw [hu2]; exact H2.out.alloc _)
  have K2 := Lib.hid H2b.out.rebase
  have TB := Lib.hid (HT.out.keep H2b.out.1)
  rw [← hu2]
  clear hu2
  refine (EX.out _ _ _ _ K2.out).mono ?_
  rintro e u3 ⟨A3, c3, rfl, hc3, h3⟩
  have H3 := Lib.hid h3
  clear h3
  go_wp2_with fail
  refine (rcv_h (H3.out.alloc _) TB.out E _ _ _ up15 rfl List.mem_cons_self hc3 (lit_C .i64 u3 3 up15 (by decide)) (by decide) (by decide) z1 15 true _ R1.out rfl).mono ?_
  rintro e u4 ⟨A4, c4, rfl, hc4, h4⟩
  have H4 := Lib.hid h4
  clear h4
  go_wp2_with fail
  refine (page_h H4.out z1 p1 false _ List.mem_cons_self rfl P1.out rfl).mono ?_
  rintro e u5 ⟨A5, c5, rfl, hc5, h5⟩
  have H5 := Lib.hid h5
  clear h5
  go_wp2_with fail
  refine (EX.out _ _ _ _ H5.out).mono ?_
  rintro e u6 ⟨A6, c6, rfl, hc6, h6⟩
  have H6 := Lib.hid h6
  clear h6
  go_wp2_with fail
  refine (rcv_h (H6.out.alloc _) TB.out E _ _ _ dn16 rfl List.mem_cons_self hc6 (lit_C .i64 u6 3 dn16 (by decide)) (by decide) (by decide) z2 16 true _ R2.out rfl).mono ?_
  rintro e u7 ⟨A7, c7, rfl, hc7, h7⟩
  have H7 := Lib.hid h7
  clear h7
  go_wp2_with fail
  refine (page_h H7.out z2 E true _ List.mem_cons_self rfl P2.out LE.out).mono ?_
  rintro e u8 ⟨A8, c8, rfl, hc8, h8⟩
  have H8 := Lib.hid h8
  clear h8
  go_wp2_with fail
  refine (bad_h H8.out _ _ _ _ _ (by unfold goodE; omega)).mono ?_
  rintro e u9 ⟨rfl, h9⟩
  have H9 := Lib.hid h9
  clear h9
  go_wp2_with fail
  refine (set_h (H9.out.alloc _) TB.out _ 1 (by decide)).mono ?_
  rintro e u10 ⟨rfl, h10⟩
  have H10 := Lib.hid h10
  clear h10
  go_wp2_with fail
  refine (set_h H10.out TB.out _ 8 (by decide)).mono ?_
  rintro e u11 ⟨rfl, h11⟩
  have H11 := Lib.hid h11
  clear h11
  go_wp2_with fail
  refine (set_h H11.out TB.out _ 32768 (by decide)).mono ?_
  rintro e u12 ⟨rfl, h12⟩
  have H12 := Lib.hid h12
  clear h12
  go_wp2_with fail
  refine (set_h H12.out TB.out _ 0 (by decide)).mono ?_
  rintro e u13 ⟨rfl, h13⟩
  have H13 := Lib.hid h13
  clear h13
  have X13 := Lib.hid (X2.out.below H13.out.1)
  have xc0 := X13.out.2 0 _ rfl
  have xc1 := X13.out.2 1 _ rfl
  have xc2 := X13.out.2 2 _ rfl
  go_wp2_with fail
  have hm2 : (A2, 16, List.replicate 16 3) ∈ [(A8, 256, E), (A6, 256, E), (A5, p1.length, p1), (A3, 256, E), (A2, 16, sumE E 3), (A1, 256, E)] := by rw [S3.out]; simp
  refine (bytes_h ((H13.out.alloc _).addb (lit_C .u8 u13 5 (List.replicate 16 3) (by decide))) (List.replicate 16 3) (List.replicate 16 3) true 300 (List.mem_cons_of_mem _ hm2) List.mem_cons_self rfl rfl hc2 (Nat.le_refl 16) ex_b3).mono ?_
  rintro e u14 ⟨rfl, h14⟩
  have H14 := Lib.hid h14
  clear h14 hm2
  go_wp2_with fail
  refine (EX.out _ _ _ _ H14.out).mono ?_
  rintro e u15 ⟨A15, c15, rfl, hc15, h15⟩
  have H15 := Lib.hid h15
  clear h15
  go_wp2_with fail
  refine (bytes_h H15.out E E true 300 (List.mem_cons_of_mem _ (List.mem_cons_of_mem _ List.mem_cons_self)) List.mem_cons_self LE.out.symm LE.out.symm hc8 hc15 (by rw [HE.out]; exact ex_bb)).mono ?_
  rintro e u16 ⟨rfl, h16⟩
  have H16 := Lib.hid h16
  clear h16
  go_wp2_with fail
  go_ret
  exact ⟨rfl, (H2b.out.onto H16.out).1⟩
end Go.Proofs.YtknlbeojdmeljaaDoor.H
namespace Go.Proofs.YtknlbeojdmeljaaDoor.L
open Go.RowKit Go.Proofs.YtknlbeojdmeljaaDoorW.PrintWords Go.Proofs.YtknlbeojdmeljaaDoorW.PrintLast Go.Proofs.YtknlbeojdmeljaaDoorW.PrintMore Go.Proofs.YtknlbeojdmeljaaDoor.P Go.Proofs.YtknlbeojdmeljaaDoor.H
set_option linter.unusedVariables false
set_option linter.unusedSimpArgs false
def seedB (s : Int) : Bool := decide (0 ≤ s ∧ s ≤ 1000000000)
theorem seed_f (n : Int) : slotmeshref34_Seed.f n = some (seedB n) := by
  unfold slotmeshref34_Seed.f seedB
  by_cases h : 0 ≤ n
  · rw [if_pos h]; simp [h]
  · rw [if_neg h]; simp [h]
end Go.Proofs.YtknlbeojdmeljaaDoor.L
namespace Go.Proofs.YtknlbeojdmeljaaDoor.H
open Go.RowKit Go.Proofs.YtknlbeojdmeljaaDoorW.PrintWords Go.Proofs.YtknlbeojdmeljaaDoorW.PrintLast Go.Proofs.YtknlbeojdmeljaaDoorW.PrintMore Go.Proofs.YtknlbeojdmeljaaDoor.P
set_option linter.unusedVariables false
set_option linter.unusedSimpArgs false
variable {w0 w : World} {ls : List (Option Addr × Nat × List S25)} {bs : List (Option Addr × Nat × List Int)}
theorem head_h (h : Hold w0 w ls bs) (ht : Tabs w0) : Calls Tryd.prog 10 #[] w fun e u => e = .returned (.bool true) ∧ Hold w0 u ls bs :=
  (head_calls w (ht.keep h.1)).mono fun e u ⟨he, hb⟩ => ⟨he, h.below hb⟩
theorem seed_h (h : Hold w0 w ls bs) (n : Int) (b : Bool) (hb : L.seedB n = b) : Calls Tryd.prog 25 #[.int .i64 n] w fun e u => e = .returned (.bool b) ∧ Hold w0 u ls bs := by
  subst hb
  exact (slotmeshref34_Seed.calls n _ w (L.seed_f n)).mono fun e u ⟨he, hd⟩ => ⟨he, h.below hd.below⟩
theorem bytesE_h (h : Hold w0 w ls bs) {A A1 : Option Addr} {c c1 n n1 : Nat} (xs ys : List Int) (b : Bool) (hA : (A, n, xs) ∈ bs) (hB : (A1, n1, ys) ∈ bs) (hn : n = xs.length) (hn1 : n1 = ys.length) (hc : n ≤ c) (hc1 : n1 ≤ c1) (hb : (xs == ys) = b) :
    Calls Tryd.prog 22 #[.slice A n c, .slice A1 n1 c1] w fun e u => e = .returned (.bool b) ∧ Hold w0 u ls bs := by
  have hl := (h.2.2 _ hA).2.1
  obtain ⟨K, hK⟩ := L.refBytes xs ys (by simp only at hl; omega)
  exact bytes_h h xs ys b K hA hB hn hn1 hc hc1 (by rw [← hb]; exact hK K (Nat.le_refl K))
theorem sameE_h (h : Hold w0 w ls bs) {A A1 : Option Addr} {c c1 n n1 : Nat} (xs ys : List S25) (hx : ∀ x ∈ xs, x.f1.length < 9223372036854775808) (b : Bool) (hA : (A, n, xs) ∈ ls) (hB : (A1, n1, ys) ∈ ls) (hn : n = xs.length) (hn1 : n1 = ys.length) (hc : n ≤ c) (hc1 : n1 ≤ c1) (hb : L.sameB xs ys = b) :
    Calls Tryd.prog 21 #[.slice A n c, .slice A1 n1 c1] w fun e u => e = .returned (.bool b) ∧ Hold w0 u ls bs := by
  subst hn hn1 hb
  have hl := (h.2.1 _ hA).2.1
  obtain ⟨K, hK⟩ := L.refSame xs ys (by simp only at hl; omega) hx
  exact (slotmeshref33_Same.calls K A c xs A1 c1 ys _ w (h.2.1 _ hA) hc (h.2.1 _ hB) hc1 (hK K (Nat.le_refl K))).mono fun e u ⟨he, hd⟩ => ⟨he, h.below hd.below⟩
theorem rcv1_h (h : Hold w0 w ls bs) (ht : Tabs w0) {A : Option Addr} {cap n : Nat} (zs : List S25) (p s : Int) {A1 : Option Addr} {c1 n1 : Nat} (ds : List Int) (pr : Value) (hA : (A, n, zs) ∈ ls) (hB : (A1, n1, ds) ∈ bs) (hn : n = zs.length) (hn1 : n1 = ds.length) (hlen : zs.length ≤ 1000000) (hg : goodR p s ds.length)
    (xs : List S25) (f : Bool) (e : Int) (k : Nat) (hr : addS zs (setS s) ds = (xs, f, e)) (hk : xs.length = k) :
    Calls Tryd.prog 14 #[.slice A n cap, .agg #[.int .i64 p, .int .i64 s, .slice A1 n1 c1, pr]] w fun e2 u => ∃ A' c', e2 = .returned (.tuple #[.slice A' k c', .bool f, .int .i64 e]) ∧ k ≤ c' ∧ Hold w0 u ((A', k, xs) :: ls) bs := by
  subst hn hn1 hk
  have hc := receive_good A cap zs p s A1 c1 ds pr w (h.2.1 _ hA) (h.2.2 _ hB) hlen (ht.keep h.1) hg
  rw [hr] at hc
  refine hc.mono ?_
  rintro e2 u ⟨v, rfl, hS, hb⟩
  obtain ⟨A', c', rfl⟩ := Kd.R_slice (Kd.S_R hS)
  obtain ⟨_, hl', hcc⟩ := Kd.R_reads' (Kd.S_R hS)
  exact ⟨A', c', rfl, hl', (h.below hb).addl hcc⟩
end Go.Proofs.YtknlbeojdmeljaaDoor.H
namespace Go.Proofs.YtknlbeojdmeljaaDoor.H
open Go.RowKit Go.Proofs.YtknlbeojdmeljaaDoorW.PrintWords Go.Proofs.YtknlbeojdmeljaaDoorW.PrintLast Go.Proofs.YtknlbeojdmeljaaDoorW.PrintMore Go.Proofs.YtknlbeojdmeljaaDoor.P
set_option linter.unusedVariables false
set_option linter.unusedSimpArgs false
theorem sumE_N {P : List Int} {s : Int} {m : Nat} (hs : 0 ≤ s ∧ s ≤ 1000000000) (hm : setS s = (m : Int)) : sumE P s = L.sumB P m := by
  rw [L.sumE_eq P s hs, hm, Int.toNat_natCast]
theorem row_len {B : List Int} {l : List S25} (h : L.TR B l) : ∀ x ∈ l, x.f1.length < 9223372036854775808 := by
  intro x hx
  have := (L.fine_spec (h.gr.fine x hx)).2.2
  omega
theorem same_self (l : List S25) : L.sameB l l = true := by unfold L.sameB; exact beq_self_eq_true _
def up16 : List Int := [0, 1, 2, 3, 4, 5, 6, 7, 8, 9, 10, 11, 12, 13, 14, 15]
theorem up16_good : L.Good up16 := by unfold L.Good up16; decide
theorem up16_all : ∀ i : Nat, i < 16 → (i : Int) ∈ up16 := by
  intro i hi
  unfold up16
  simp only [List.mem_cons, List.not_mem_nil, or_false]
  omega
theorem Hold.start2 (w : World) {A A1 : Option Addr} {n n1 : Nat} {P P1 : List Int} (h : Kd.C (Kd.int .u8) w A n P) (h1 : Kd.C (Kd.int .u8) w A1 n1 P1) : Hold w w [] [(A, n, P), (A1, n1, P1)] :=
  ⟨Below.refl _ _, (fun _ h => by cases h), (fun p hp => by rcases List.mem_cons.1 hp with rfl | hp; exact h; rw [List.mem_singleton.1 hp]; exact h1)⟩
end Go.Proofs.YtknlbeojdmeljaaDoor.H
namespace Go.Proofs.YtknlbeojdmeljaaDoor.H
open Go.RowKit Go.Proofs.YtknlbeojdmeljaaDoorW.PrintWords Go.Proofs.YtknlbeojdmeljaaDoorW.PrintLast Go.Proofs.YtknlbeojdmeljaaDoorW.PrintMore Go.Proofs.YtknlbeojdmeljaaDoor.P
set_option linter.unusedVariables false
set_option linter.unusedSimpArgs false
set_option maxRecDepth 100000 in
set_option maxHeartbeats 1000000 in
theorem another34_calls (A : Option Addr) (c n : Nat) (P : List Int) (hB : ∀ b ∈ P, L.isB b) (hn : n = P.length) (hc : n ≤ c) (A1 : Option Addr) (c1 n1 : Nat) (P1 : List Int) (hB1 : ∀ b ∈ P1, L.isB b) (hn1 : n1 = P1.length) (hc1 : n1 ≤ c1) (s : Int) (w : World) (hr : Kd.C (Kd.int .u8) w A n P) (hr1 : Kd.C (Kd.int .u8) w A1 n1 P1) (ht : Tabs w) :
    Calls Tryd.prog 9 #[.slice A n c, .slice A1 n1 c1, .int .i64 s] w fun e w' => e = .returned (.bool true) ∧ Below w.heap.size w w' := by
  have HT := Lib.hid ht
  have HN := Lib.hid hn
  have HN1 := Lib.hid hn1
  have H0 := Lib.hid (Hold.start2 w hr hr1)
  by_cases hs : L.seedB s = true
  · have HS := Lib.hid hs
    have hss : 0 ≤ s ∧ s ≤ 1000000000 := of_decide_eq_true hs
    by_cases hv : n = 256
    · by_cases hv1 : n1 = 256
      · subst hv hv1
        have v1 : P.length = 256 := hn.symm
        have v11 : P1.length = 256 := hn1.symm
        have pb : L.PB P := ⟨v1, hB⟩
        have pb1 : L.PB P1 := ⟨v11, hB1⟩
        obtain ⟨l, r1, r2, r3⟩ := L.rec0 pb up16 up16_good
        have h16 := L.plain_full pb up16_good up16_all r2 r3
        obtain ⟨m, m1, m2, m3⟩ := L.setN s hss
        have hE := sumE_N (P := P) hss m1
        have hE1 := sumE_N (P := P1) hss m1
        have hEl := sumE_len v1 s hss
        have hEl1 := sumE_len v11 s hss
        have hadd := L.another pb r3 h16 m2 m3 (d := sumE P1 s) (by rw [hE1]; exact L.sumTo_ge pb1 m 16 (Nat.le_refl _))
        rw [← m1, ← hE] at hadd
        rw [h16] at r1
        have HG := Lib.hid (show goodR 0 s (sumE P1 s).length from ⟨by omega, hss, by rw [hEl1]; rfl⟩)
        have RL := Lib.hid (row_len r3)
        have HEL := Lib.hid hEl
        have HEL1 := Lib.hid hEl1
        have R1 := Lib.hid r1
        have H16 := Lib.hid h16
        have HSS := Lib.hid hss
        obtain ⟨x, hx⟩ : ∃ x, x = sumE P s := ⟨_, rfl⟩
        obtain ⟨y, hy⟩ : ∃ y, y = sumE P1 s := ⟨_, rfl⟩
        have HX := Lib.hid hx
        have HY := Lib.hid hy
        rw [← hx, ← hy] at hadd
        rw [← hx] at HEL
        rw [← hy] at HEL1 HG
        by_cases hxy : y = x
        · rw [if_pos hxy] at hadd
          have HA := Lib.hid hadd
          have HXY := Lib.hid (show (x == y) = true by rw [hxy]; exact beq_self_eq_true _)
          clear ht hn hn1 hr hr1 hB hB1 pb pb1 r1 r2 r3 v1 v11 hadd m1 m2 m3 hE hE1 hEl hEl1 hss hs h16 hx hy hxy
          go_enter Tryd.func9, Tryd.ntmps9
          go_wp2_with fail
          refine (head_h H0.out HT.out).mono ?_
          rintro e u1 ⟨rfl, h1⟩
          have H1 := Lib.hid h1
          clear h1
          go_wp2_with fail
          refine (seed_h H1.out s true HS.out).mono ?_
          rintro e u2 ⟨rfl, h2⟩
          have H2 := Lib.hid h2
          clear h2
          go_wp2_with fail
          refine (rcv_h (H2.out.alloc _) HT.out P _ _ _ up16 rfl List.mem_cons_self hc (lit_C .i64 u2 3 up16 (by decide)) (by decide) up16_good l 16 true 16 R1.out H16.out).mono ?_
          rintro e u3 ⟨A3, c3, rfl, hc3, h3⟩
          have H3 := Lib.hid h3
          clear h3
          go_wp2_with fail
          refine (enc_h H3.out HT.out P 0 s List.mem_cons_self hc (by omega) HSS.out).mono ?_
          rw [← HX.out]
          rintro e u4 ⟨A4, c4, rfl, hc4, h4⟩
          have H4 := Lib.hid h4
          clear h4
          go_wp2_with fail
          obtain ⟨u4b, hu4⟩ : ∃ u, u = u4.alloc (Obj.cells #[Value.int IntKind.i64 0, Value.int IntKind.i64 s, Value.slice A4 16 c4, Value.slice none 0 0] 26) := ⟨_, rfl⟩
          have X4 := Lib.hid (show Box u4b u4.heap.size [Value.int IntKind.i64 0, Value.int IntKind.i64 s, Value.slice A4 16 c4, Value.slice none 0 0] by rw [hu4]; exact Box.new _ _ _)
          have H4b := Lib.hid (show Hold w u4b _ _ by rw [hu4]; exact H4.out.alloc _)
          have K4 := Lib.hid H4b.out.rebase
          have TB := Lib.hid (HT.out.keep H4b.out.1)
          rw [← hu4]
          clear hu4
          refine (enc_h K4.out TB.out P1 0 s (List.mem_cons_of_mem _ (List.mem_cons_of_mem _ List.mem_cons_self)) hc1 (by omega) HSS.out).mono ?_
          rw [← HY.out]
          rintro e u5 ⟨A5, c5, rfl, hc5, h5⟩
          have H5 := Lib.hid h5
          clear h5
          go_wp2_with fail
          obtain ⟨u5b, hu5⟩ : ∃ u, u = u5.alloc (Obj.cells #[Value.int IntKind.i64 0, Value.int IntKind.i64 s, Value.slice A5 16 c5, Value.slice none 0 0] 26) := ⟨_, rfl⟩
          have X5 := Lib.hid (show Box u5b u5.heap.size [Value.int IntKind.i64 0, Value.int IntKind.i64 s, Value.slice A5 16 c5, Value.slice none 0 0] by rw [hu5]; exact Box.new _ _ _)
          have X4b := Lib.hid (show Box u5b u4.heap.size [Value.int IntKind.i64 0, Value.int IntKind.i64 s, Value.slice A4 16 c4, Value.slice none 0 0] by rw [hu5]; exact X4.out.below (H5.out.alloc _).1)
          have H5b := Lib.hid (show Hold u4b u5b _ _ by rw [hu5]; exact H5.out.alloc _)
          have K5 := Lib.hid H5b.out.rebase
          have TB5 := Lib.hid (TB.out.keep H5b.out.1)
          rw [← hu5]
          clear hu5
          refine (rcv1_h K5.out TB5.out l 0 s y _ List.mem_cons_self List.mem_cons_self H16.out.symm HEL1.out.symm (by have := H16.out; omega) HG.out l false 0 16 HA.out H16.out).mono ?_
          rintro e u6 ⟨A6, c6, rfl, hc6, h6⟩
          have H6 := Lib.hid h6
          clear h6
          have xa := (X5.out.below H6.out.1).2 2 _ rfl
          have xb := (X4b.out.below H6.out.1).2 2 _ rfl
          go_wp2_with fail
          refine (bytesE_h H6.out x y true (List.mem_cons_of_mem _ List.mem_cons_self) List.mem_cons_self HEL.out.symm HEL1.out.symm hc4 hc5 HXY.out).mono ?_
          rintro e u7 ⟨rfl, h7⟩
          have H7 := Lib.hid h7
          clear h7 xa xb
          go_wp2_with fail
          refine (sameE_h H7.out l l RL.out true (List.mem_cons_of_mem _ List.mem_cons_self) List.mem_cons_self H16.out.symm H16.out.symm hc3 hc6 (same_self l)).mono ?_
          rintro e u8 ⟨rfl, h8⟩
          have H8 := Lib.hid h8
          clear h8
          go_wp2_with fail
          go_ret
          exact ⟨rfl, (H4b.out.onto (H5b.out.onto H8.out)).1⟩
        · rw [if_neg hxy] at hadd
          have HA := Lib.hid hadd
          have HXY := Lib.hid (show (x == y) = false by simpa using fun e => hxy e.symm)
          clear ht hn hn1 hr hr1 hB hB1 pb pb1 r1 r2 r3 v1 v11 hadd m1 m2 m3 hE hE1 hEl hEl1 hss hs h16 hx hy hxy
          go_enter Tryd.func9, Tryd.ntmps9
          go_wp2_with fail
          refine (head_h H0.out HT.out).mono ?_
          rintro e u1 ⟨rfl, h1⟩
          have H1 := Lib.hid h1
          clear h1
          go_wp2_with fail
          refine (seed_h H1.out s true HS.out).mono ?_
          rintro e u2 ⟨rfl, h2⟩
          have H2 := Lib.hid h2
          clear h2
          go_wp2_with fail
          refine (rcv_h (H2.out.alloc _) HT.out P _ _ _ up16 rfl List.mem_cons_self hc (lit_C .i64 u2 3 up16 (by decide)) (by decide) up16_good l 16 true 16 R1.out H16.out).mono ?_
          rintro e u3 ⟨A3, c3, rfl, hc3, h3⟩
          have H3 := Lib.hid h3
          clear h3
          go_wp2_with fail
          refine (enc_h H3.out HT.out P 0 s List.mem_cons_self hc (by omega) HSS.out).mono ?_
          rw [← HX.out]
          rintro e u4 ⟨A4, c4, rfl, hc4, h4⟩
          have H4 := Lib.hid h4
          clear h4
          go_wp2_with fail
          obtain ⟨u4b, hu4⟩ : ∃ u, u = u4.alloc (Obj.cells #[Value.int IntKind.i64 0, Value.int IntKind.i64 s, Value.slice A4 16 c4, Value.slice none 0 0] 26) := ⟨_, rfl⟩
          have X4 := Lib.hid (show Box u4b u4.heap.size [Value.int IntKind.i64 0, Value.int IntKind.i64 s, Value.slice A4 16 c4, Value.slice none 0 0] by rw [hu4]; exact Box.new _ _ _)
          have H4b := Lib.hid (show Hold w u4b _ _ by rw [hu4]; exact H4.out.alloc _)
          have K4 := Lib.hid H4b.out.rebase
          have TB := Lib.hid (HT.out.keep H4b.out.1)
          rw [← hu4]
          clear hu4
          refine (enc_h K4.out TB.out P1 0 s (List.mem_cons_of_mem _ (List.mem_cons_of_mem _ List.mem_cons_self)) hc1 (by omega) HSS.out).mono ?_
          rw [← HY.out]
          rintro e u5 ⟨A5, c5, rfl, hc5, h5⟩
          have H5 := Lib.hid h5
          clear h5
          go_wp2_with fail
          obtain ⟨u5b, hu5⟩ : ∃ u, u = u5.alloc (Obj.cells #[Value.int IntKind.i64 0, Value.int IntKind.i64 s, Value.slice A5 16 c5, Value.slice none 0 0] 26) := ⟨_, rfl⟩
          have X5 := Lib.hid (show Box u5b u5.heap.size [Value.int IntKind.i64 0, Value.int IntKind.i64 s, Value.slice A5 16 c5, Value.slice none 0 0] by rw [hu5]; exact Box.new _ _ _)
          have X4b := Lib.hid (show Box u5b u4.heap.size [Value.int IntKind.i64 0, Value.int IntKind.i64 s, Value.slice A4 16 c4, Value.slice none 0 0] by rw [hu5]; exact X4.out.below (H5.out.alloc _).1)
          have H5b := Lib.hid (show Hold u4b u5b _ _ by rw [hu5]; exact H5.out.alloc _)
          have K5 := Lib.hid H5b.out.rebase
          have TB5 := Lib.hid (TB.out.keep H5b.out.1)
          rw [← hu5]
          clear hu5
          refine (rcv1_h K5.out TB5.out l 0 s y _ List.mem_cons_self List.mem_cons_self H16.out.symm HEL1.out.symm (by have := H16.out; omega) HG.out [] false 12 0 HA.out rfl).mono ?_
          rintro e u6 ⟨A6, c6, rfl, hc6, h6⟩
          have H6 := Lib.hid h6
          clear h6
          have xa := (X5.out.below H6.out.1).2 2 _ rfl
          have xb := (X4b.out.below H6.out.1).2 2 _ rfl
          go_wp2_with fail
          refine (bytesE_h H6.out x y false (List.mem_cons_of_mem _ List.mem_cons_self) List.mem_cons_self HEL.out.symm HEL1.out.symm hc4 hc5 HXY.out).mono ?_
          rintro e u7 ⟨rfl, h7⟩
          have H7 := Lib.hid h7
          clear h7 xa xb
          go_wp2_with fail
          go_ret
          exact ⟨rfl, (H4b.out.onto (H5b.out.onto H7.out)).1⟩
      · have g1 : ((n1 : Int) != 256) = true := by simp; omega
        subst hv
        clear ht hn hn1 hr hr1 hB hB1 hs hss
        go_enter Tryd.func9, Tryd.ntmps9
        go_wp2_with fail
        refine (head_h H0.out HT.out).mono ?_
        rintro e u1 ⟨rfl, h1⟩
        have H1 := Lib.hid h1
        clear h1
        go_wp2_with fail
        refine (seed_h H1.out s true HS.out).mono ?_
        rintro e u2 ⟨rfl, h2⟩
        have H2 := Lib.hid h2
        clear h2
        go_wp2_with fail
        go_ret
        exact ⟨rfl, H2.out.1⟩
    · have g1 : ((n : Int) != 256) = true := by simp; omega
      clear ht hn hn1 hr hr1 hB hB1 hs hss
      go_enter Tryd.func9, Tryd.ntmps9
      go_wp2_with fail
      refine (head_h H0.out HT.out).mono ?_
      rintro e u1 ⟨rfl, h1⟩
      have H1 := Lib.hid h1
      clear h1
      go_wp2_with fail
      refine (seed_h H1.out s true HS.out).mono ?_
      rintro e u2 ⟨rfl, h2⟩
      have H2 := Lib.hid h2
      clear h2
      go_wp2_with fail
      go_ret
      exact ⟨rfl, H2.out.1⟩
  · have HS := Lib.hid (show L.seedB s = false by simpa using hs)
    clear ht hn hn1 hr hr1 hB hB1 hs
    go_enter Tryd.func9, Tryd.ntmps9
    go_wp2_with fail
    refine (head_h H0.out HT.out).mono ?_
    rintro e u1 ⟨rfl, h1⟩
    have H1 := Lib.hid h1
    clear h1
    go_wp2_with fail
    refine (seed_h H1.out s false HS.out).mono ?_
    rintro e u2 ⟨rfl, h2⟩
    have H2 := Lib.hid h2
    clear h2
    go_wp2_with fail
    go_ret
    exact ⟨rfl, H2.out.1⟩
end Go.Proofs.YtknlbeojdmeljaaDoor.H
