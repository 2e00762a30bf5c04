import Derived.Test.YtknlbeojdmeljaaL3
namespace Go.Proofs.Ytknlbeojdmeljaa.L
open Go.RowKit Go.Proofs.YtknlbeojdmeljaaW.PrintWords Go.Proofs.YtknlbeojdmeljaaW.PrintLast Go.Proofs.YtknlbeojdmeljaaW.PrintMore Go.Proofs.Ytknlbeojdmeljaa.P Go.Proofs.Ytknlbeojdmeljaa.H
set_option linter.unusedVariables false
set_option linter.unusedSimpArgs false

/-! ### bytes -/
def isB (a : Int) : Prop := 0 ≤ a ∧ a < 256
theorem xorB_nat (a b : Nat) (ha : a < 256) (hb : b < 256) : xorB (a : Int) (b : Int) = ((a ^^^ b : Nat) : Int) := by
  have hx : a ^^^ b < 2 ^ 8 := Nat.xor_lt_two_pow (by omega) (by omega)
  have h1 : (BitVec.ofInt 8 (a : Int)).toNat = a := by
    rw [BitVec.ofInt_natCast, BitVec.toNat_ofNat]; exact Nat.mod_eq_of_lt (by omega)
  have h2 : (BitVec.ofInt 8 (b : Int)).toNat = b := by
    rw [BitVec.ofInt_natCast, BitVec.toNat_ofNat]; exact Nat.mod_eq_of_lt (by omega)
  show IntKind.u8.wrap ((BitVec.ofInt 8 (a : Int) ^^^ BitVec.ofInt 8 (b : Int)).toNat : Int) = _
  rw [BitVec.toNat_xor, h1, h2]
  show (((a ^^^ b : Nat) : Int) % 256) = _
  omega
theorem isB_nat {a : Int} (h : isB a) : ∃ n : Nat, a = (n : Int) ∧ n < 256 := by
  obtain ⟨n, rfl⟩ := Int.eq_ofNat_of_zero_le h.1
  exact ⟨n, rfl, by have := h.2; omega⟩
theorem xorB_isB {a b : Int} (ha : isB a) (hb : isB b) : isB (xorB a b) := by
  obtain ⟨m, rfl, hm⟩ := isB_nat ha
  obtain ⟨n, rfl, hn⟩ := isB_nat hb
  rw [xorB_nat m n hm hn]
  have hx : m ^^^ n < 2 ^ 8 := Nat.xor_lt_two_pow (by omega) (by omega)
  exact ⟨by omega, by omega⟩
theorem xorB_comm {a b : Int} (ha : isB a) (hb : isB b) : xorB a b = xorB b a := by
  obtain ⟨m, rfl, hm⟩ := isB_nat ha
  obtain ⟨n, rfl, hn⟩ := isB_nat hb
  rw [xorB_nat m n hm hn, xorB_nat n m hn hm, Nat.xor_comm]
theorem xorB_assoc {a b c : Int} (ha : isB a) (hb : isB b) (hc : isB c) : xorB (xorB a b) c = xorB a (xorB b c) := by
  obtain ⟨m, rfl, hm⟩ := isB_nat ha
  obtain ⟨n, rfl, hn⟩ := isB_nat hb
  obtain ⟨k, rfl, hk⟩ := isB_nat hc
  have h1 : m ^^^ n < 2 ^ 8 := Nat.xor_lt_two_pow (by omega) (by omega)
  have h2 : n ^^^ k < 2 ^ 8 := Nat.xor_lt_two_pow (by omega) (by omega)
  rw [xorB_nat m n hm hn, xorB_nat n k hn hk, xorB_nat _ k (by omega) hk, xorB_nat m _ hm (by omega), Nat.xor_assoc]
theorem xorB_self {a : Int} (ha : isB a) : xorB a a = 0 := by
  obtain ⟨m, rfl, hm⟩ := isB_nat ha
  rw [xorB_nat m m hm hm, Nat.xor_self]
  rfl
theorem xorB_zero {a : Int} (ha : isB a) : xorB a 0 = a := by
  obtain ⟨m, rfl, hm⟩ := isB_nat ha
  have := xorB_nat m 0 hm (by omega)
  rw [Nat.xor_zero] at this
  exact this

/-! ### equations as vectors -/
structure GE (x : Nat × List Int) : Prop where
  m : x.1 < 65536
  len : x.2.length = 16
  rng : ∀ b ∈ x.2, isB b
def addE (x y : Nat × List Int) : Nat × List Int := (x.1 ^^^ y.1, xorD x.2 y.2)
def zeroE : Nat × List Int := (0, z16)
theorem zeroE_ge : GE zeroE := ⟨by decide, rfl, by intro b hb; have : b = 0 := List.eq_of_mem_replicate hb; subst this; exact ⟨by omega, by omega⟩⟩
theorem xorD_len {a b : List Int} (ha : a.length = 16) (hb : b.length = 16) : (xorD a b).length = 16 := by simp [xorD, List.length_zipWith, ha, hb]
theorem GE.at_ {x : Nat × List Int} (h : GE x) (i : Nat) (hi : i < x.2.length) : isB x.2[i] := h.rng _ (List.getElem_mem hi)
theorem GE.add {x y : Nat × List Int} (hx : GE x) (hy : GE y) : GE (addE x y) := by
  refine ⟨?_, xorD_len hx.len hy.len, ?_⟩
  · have := Nat.xor_lt_two_pow (n := 16) (x := x.1) (y := y.1) (by have := hx.m; omega) (by have := hy.m; omega)
    simpa [addE] using this
  · intro b hb
    obtain ⟨i, hi, rfl⟩ := List.getElem_of_mem hb
    simp only [addE, xorD, List.getElem_zipWith]
    have h1 := hx.len
    have h2 := hy.len
    have h3 : i < 16 := by simp only [addE] at hi; rw [xorD_len h1 h2] at hi; exact hi
    exact xorB_isB (hx.at_ i (by omega)) (hy.at_ i (by omega))
theorem pair_ext {x y : Nat × List Int} (h1 : x.1 = y.1) (h2 : x.2 = y.2) : x = y := Prod.ext h1 h2
theorem addE_comm {x y : Nat × List Int} (hx : GE x) (hy : GE y) : addE x y = addE y x := by
  refine pair_ext (Nat.xor_comm _ _) ?_
  have h1 := hx.len
  have h2 := hy.len
  refine List.ext_getElem (by simp [addE, xorD, List.length_zipWith, h1, h2]) (fun i hi hj => ?_)
  simp only [addE] at hi
  rw [xorD_len h1 h2] at hi
  simp only [addE, xorD, List.getElem_zipWith]
  exact xorB_comm (hx.at_ i (by omega)) (hy.at_ i (by omega))
theorem addE_assoc {x y z : Nat × List Int} (hx : GE x) (hy : GE y) (hz : GE z) : addE (addE x y) z = addE x (addE y z) := by
  refine pair_ext (Nat.xor_assoc _ _ _) ?_
  have h1 := hx.len
  have h2 := hy.len
  have h3 := hz.len
  refine List.ext_getElem (by simp [addE, xorD, List.length_zipWith, h1, h2, h3]) (fun i hi hj => ?_)
  simp only [addE] at hi
  rw [xorD_len (xorD_len h1 h2) h3] at hi
  simp only [addE, xorD, List.getElem_zipWith]
  exact xorB_assoc (hx.at_ i (by omega)) (hy.at_ i (by omega)) (hz.at_ i (by omega))
theorem addE_self {x : Nat × List Int} (hx : GE x) : addE x x = zeroE := by
  refine pair_ext (Nat.xor_self _) ?_
  have h1 := hx.len
  refine List.ext_getElem (by simp [addE, xorD, List.length_zipWith, h1, zeroE, z16]) (fun i hi hj => ?_)
  simp only [addE] at hi
  rw [xorD_len h1 h1] at hi
  simp only [addE, xorD, List.getElem_zipWith, zeroE, z16, List.getElem_replicate]
  exact xorB_self (hx.at_ i (by omega))
theorem addE_zero {x : Nat × List Int} (hx : GE x) : addE x zeroE = x := by
  refine pair_ext (Nat.xor_zero _) ?_
  have h1 := hx.len
  refine List.ext_getElem (by simp [addE, xorD, List.length_zipWith, h1, zeroE, z16]) (fun i hi hj => ?_)
  simp only [addE] at hi
  rw [xorD_len h1 rfl] at hi
  simp only [addE, xorD, List.getElem_zipWith, zeroE, z16, List.getElem_replicate]
  exact xorB_zero (hx.at_ i (by omega))
theorem zero_addE {x : Nat × List Int} (hx : GE x) : addE zeroE x = x := (addE_comm zeroE_ge hx).trans (addE_zero hx)
/-- (a+b)+(c+d) = (a+c)+(b+d) -/
theorem addE_four {a b c d : Nat × List Int} (ha : GE a) (hb : GE b) (hc : GE c) (hd : GE d) : addE (addE a b) (addE c d) = addE (addE a c) (addE b d) := by
  rw [addE_assoc ha hb (hc.add hd), ← addE_assoc hb hc hd, addE_comm hb hc, addE_assoc hc hb hd, ← addE_assoc ha hc (hb.add hd)]
theorem addE_cancel {x y : Nat × List Int} (hx : GE x) (hy : GE y) : addE (addE x y) y = x := by
  rw [addE_assoc hx hy hy, addE_self hy, addE_zero hx]

def rowv (r : S25) : Nat × List Int := (r.f0.toNat, r.f1)
/-- rows whose bytes are bytes -/
structure GR (l : List S25) : Prop where
  fine : ∀ x ∈ l, fineB x.f0 x.f1 = true
  rng : ∀ x ∈ l, ∀ b ∈ x.f1, isB b
theorem GR.row {l : List S25} (h : GR l) {r : S25} (hr : r ∈ l) : GE (rowv r) := by
  have := fine_spec (h.fine r hr)
  exact ⟨by show r.f0.toNat < 65536; omega, this.2.2, h.rng r hr⟩
theorem GR.lead {l : List S25} (h : GR l) {r : S25} (hr : r ∈ l) : ∃ j, j < 16 ∧ H.lead r.f0.toNat = 2 ^ j ∧ r.f0.toNat.testBit j = true := by
  have := fine_spec (h.fine r hr)
  obtain ⟨j, h1, h2, h3, h4⟩ := lead_spec r.f0.toNat (by omega) (by omega)
  exact ⟨j, h1, h2, top_bit h3 h4⟩
theorem GR.tail {l : List S25} {r : S25} (h : GR (r :: l)) : GR l := ⟨fun x hx => h.fine x (by simp [hx]), fun x hx => h.rng x (by simp [hx])⟩
theorem stepS_eq (x : Nat × List Int) (r : S25) {j : Nat} (hj : H.lead r.f0.toNat = 2 ^ j) : stepS x r = if x.1.testBit j = true then addE x (rowv r) else x := by
  unfold stepS
  rw [hj, and_two_pow]
  by_cases h : x.1.testBit j = true
  · rw [if_pos h, if_pos h, if_pos (by have := Nat.two_pow_pos j; omega)]
    rfl
  · rw [if_neg h, if_neg h, if_neg (by simp)]
theorem stepS_ge {x : Nat × List Int} {r : S25} (hx : GE x) (hr : GE (rowv r)) {j : Nat} (hj : H.lead r.f0.toNat = 2 ^ j) : GE (stepS x r) := by
  rw [stepS_eq x r hj]
  split
  · exact hx.add hr
  · exact hx
theorem stepS_lin {x y : Nat × List Int} {r : S25} (hx : GE x) (hy : GE y) (hr : GE (rowv r)) {j : Nat} (hj : H.lead r.f0.toNat = 2 ^ j) : stepS (addE x y) r = addE (stepS x r) (stepS y r) := by
  rw [stepS_eq _ r hj, stepS_eq x r hj, stepS_eq y r hj]
  have hb : (addE x y).1.testBit j = (x.1.testBit j ^^ y.1.testBit j) := Nat.testBit_xor _ _ _
  cases h1 : x.1.testBit j <;> cases h2 : y.1.testBit j
  · rw [if_neg (by rw [hb, h1, h2]; simp), if_neg (by simp), if_neg (by simp)]
  · rw [if_pos (by rw [hb, h1, h2]; simp), if_neg (by simp), if_pos (by simp)]
    exact addE_assoc hx hy hr
  · rw [if_pos (by rw [hb, h1, h2]; simp), if_pos (by simp), if_neg (by simp)]
    rw [addE_assoc hx hy hr, addE_comm hy hr, ← addE_assoc hx hr hy]
  · rw [if_neg (by rw [hb, h1, h2]; simp), if_pos (by simp), if_pos (by simp)]
    rw [addE_four hx hr hy hr, addE_self hr, addE_zero (hx.add hy)]
theorem redS_ge {l : List S25} (hl : GR l) : ∀ {x : Nat × List Int}, GE x → GE (redS l x) := by
  induction l with
  | nil => intro x hx; exact hx
  | cons r l ih =>
    intro x hx
    obtain ⟨j, _, hj, _⟩ := hl.lead (List.mem_cons_self)
    exact ih hl.tail (stepS_ge hx (hl.row List.mem_cons_self) hj)
theorem redS_lin {l : List S25} (hl : GR l) : ∀ {x y : Nat × List Int}, GE x → GE y → redS l (addE x y) = addE (redS l x) (redS l y) := by
  induction l with
  | nil => intro x y hx hy; rfl
  | cons r l ih =>
    intro x y hx hy
    obtain ⟨j, _, hj, _⟩ := hl.lead (List.mem_cons_self)
    have hr := hl.row (r := r) List.mem_cons_self
    show redS l (stepS (addE x y) r) = addE (redS l (stepS x r)) (redS l (stepS y r))
    rw [stepS_lin hx hy hr hj]
    exact ih hl.tail (stepS_ge hx hr hj) (stepS_ge hy hr hj)
end Go.Proofs.Ytknlbeojdmeljaa.L
