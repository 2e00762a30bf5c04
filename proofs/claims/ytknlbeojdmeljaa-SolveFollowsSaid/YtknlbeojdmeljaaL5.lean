import Derived.Test.YtknlbeojdmeljaaL4
import Derived.Test.YtknlbeojdmeljaaP11
namespace Go.Proofs.Ytknlbeojdmeljaa.L
open Go.RowKit Go.Proofs.YtknlbeojdmeljaaW.PrintWords Go.Proofs.YtknlbeojdmeljaaW.PrintLast Go.Proofs.YtknlbeojdmeljaaW.PrintMore Go.Proofs.Ytknlbeojdmeljaa.P Go.Proofs.Ytknlbeojdmeljaa.H
set_option linter.unusedVariables false
set_option linter.unusedSimpArgs false

theorem sumS_eq {l : List S25} (hv : validS l = true) (m : Nat) (hm : m < 65536) : sumS l (m : Int) = if (redS l (m, z16)).1 ≠ 0 then ([], false) else ((redS l (m, z16)).2, true) := by
  unfold sumS; rw [if_neg (by rw [hv]; simp; omega)]; rfl
theorem mask_ge (m : Nat) (hm : m < 65536) : GE (m, z16) := ⟨hm, zeroE_ge.len, zeroE_ge.rng⟩
theorem z16_z16 : xorD z16 z16 = z16 := congrArg Prod.snd (addE_self zeroE_ge)
theorem mask_add (a b : Nat) : addE (a, z16) (b, z16) = (a ^^^ b, z16) := pair_ext rfl z16_z16
theorem u16_xor (a b : Nat) (ha : a < 65536) (hb : b < 65536) : Go.bits .xor .u16 (a : Int) (b : Int) = ((a ^^^ b : Nat) : Int) := by
  have hx : a ^^^ b < 2 ^ 16 := Nat.xor_lt_two_pow (by omega) (by omega)
  have h1 : (BitVec.ofInt 16 (a : Int)).toNat = a := by
    rw [BitVec.ofInt_natCast, BitVec.toNat_ofNat]; exact Nat.mod_eq_of_lt (by omega)
  have h2 : (BitVec.ofInt 16 (b : Int)).toNat = b := by
    rw [BitVec.ofInt_natCast, BitVec.toNat_ofNat]; exact Nat.mod_eq_of_lt (by omega)
  show IntKind.u16.wrap ((BitVec.ofInt 16 (a : Int) ^^^ BitVec.ofInt 16 (b : Int)).toNat : Int) = _
  rw [BitVec.toNat_xor, h1, h2]
  show (((a ^^^ b : Nat) : Int) % 65536) = _
  omega
theorem wrap_small (a : Nat) (h : a < 65536) : wrap64 (a : Int) = (a : Int) := by unfold wrap64; omega
theorem head_f : slotmeshlaw33_head.f = some true := rfl
/-- the guard of the laws -/
theorem guard_ev {l : List S25} (hl : l.length < 9223372036854775808) {α : Type} {g : Nat → Bool → Option α} {r : α} (hno : Ev (fun k => g k true) r) (hyes : fewB l = true → validS l = true → Ev (fun k => g k false) r) :
    Ev (fun k => (slotmeshref33_Few.f k l).bind fun t => if t = true then ((slotmeshref33_Valid.f k l).bind fun u => g k (!u)) else g k true) r := by
  refine Ev.bind (g := fun k t => if t = true then ((slotmeshref33_Valid.f k l).bind fun u => g k (!u)) else g k true) (refFew l hl) ?_
  cases hf : fewB l
  · exact hno
  · show Ev (fun k => (slotmeshref33_Valid.f k l).bind fun u => g k (!u)) r
    refine Ev.bind (g := fun k u => g k (!u)) (refValid' l hl) ?_
    cases hv : validS l
    · exact hno
    · exact hyes hf hv
theorem GR.of_valid {l : List S25} (hv : validS l = true) (hr : ∀ x ∈ l, ∀ b ∈ x.f1, isB b) : GR l := ⟨((validS_iff l).1 hv).fine, hr⟩

theorem sums_ev (l : List S25) (hl : l.length < 9223372036854775808) (hr : ∀ x ∈ l, ∀ b ∈ x.f1, isB b) (a b : Int) (ha : 0 ≤ a ∧ a < 65536) (hb : 0 ≤ b ∧ b < 65536) :
    Ev (fun k => slotmeshlaw33_SolveSums.f k l a b) true := by
  obtain ⟨m, rfl⟩ := Int.eq_ofNat_of_zero_le ha.1
  obtain ⟨n, rfl⟩ := Int.eq_ofNat_of_zero_le hb.1
  have hm : m < 65536 := by omega
  have hn : n < 65536 := by omega
  have hmn : m ^^^ n < 65536 := Nat.xor_lt_two_pow (n := 16) (by omega) (by omega)
  show Ev (fun k => (slotmeshref33_Few.f k l).bind fun t291 => (if t291 = true then ((slotmeshref33_Valid.f k l).bind fun t292 => (slotmeshlaw33_SolveSums.j0 k l (m : Int) (n : Int) true (!t292))) else (slotmeshlaw33_SolveSums.j0 k l (m : Int) (n : Int) true true))) true
  refine guard_ev hl (g := fun k t => slotmeshlaw33_SolveSums.j0 k l (m : Int) (n : Int) true t) (Ev.one (fun k => by rw [slotmeshlaw33_SolveSums.j0, if_pos rfl])) (fun hf hv => ?_)
  have hgr := GR.of_valid hv hr
  have hlin := redS_lin hgr (mask_ge m hm) (mask_ge n hn)
  rw [mask_add] at hlin
  have hga := redS_ge hgr (mask_ge m hm)
  have hgb := redS_ge hgr (mask_ge n hn)
  have hsm := sumS_eq hv m hm
  have hsn := sumS_eq hv n hn
  have hsx := sumS_eq hv (m ^^^ n) hmn
  rw [hlin] at hsx
  have hx1 : ∀ k, slotmeshlaw33_SolveSums.j0 (k + 1) l (m : Int) (n : Int) true false = if (sumS l (m : Int)).2 = true then slotmeshlaw33_SolveSums.j1 k true (sumS l (m : Int)).1 (sumS l (m : Int)).2 (sumS l (n : Int)).1 (sumS l (n : Int)).2 (sumS l ((m ^^^ n : Nat) : Int)).1 (sumS l ((m ^^^ n : Nat) : Int)).2 (!(sumS l (n : Int)).2) else slotmeshlaw33_SolveSums.j1 k true (sumS l (m : Int)).1 (sumS l (m : Int)).2 (sumS l (n : Int)).1 (sumS l (n : Int)).2 (sumS l ((m ^^^ n : Nat) : Int)).1 (sumS l ((m ^^^ n : Nat) : Int)).2 true := by
    intro k
    rw [slotmeshlaw33_SolveSums.j0, if_neg (by simp), wrap_small m hm, wrap_small n hn, u16_xor m n hm hn, wrap_small _ hmn]
    rfl
  generalize hA : redS l (m, z16) = A at hga hsm hsx
  generalize hB : redS l (n, z16) = B at hgb hsn hsx
  obtain ⟨a1, ad⟩ := A
  obtain ⟨b1, bd⟩ := B
  simp only at hsm hsn
  have hal := hga.len
  have hbl := hgb.len
  simp only at hal hbl
  by_cases h1 : a1 = 0
  · rw [if_neg (fun h => h h1)] at hsm
    by_cases h2 : b1 = 0
    · rw [if_neg (fun h => h h2)] at hsn
      have h3 : (addE (a1, ad) (b1, bd)).1 = 0 := by simp [addE, h1, h2]
      rw [if_neg (fun h => h h3)] at hsx
      have hx := refXor ad bd hal hbl
      have hby := refBytes (xorD ad bd) (xorD ad bd) (by rw [xorD_len hal hbl]; omega)
      refine (Ev.bind (g := fun k t => (slotmeshref33_Bytes.f k (xorD ad bd) t).bind fun t308 => some t308) hx (Ev.bind (g := fun _ t => some t) hby ⟨0, fun _ _ => rfl⟩)).succ (s := true) (g := fun k => slotmeshlaw33_SolveSums.j1 k true ad true bd true (xorD ad bd) true false) (fun k hk => ?_) |>.succ (fun k hk => ?_)
      · rw [slotmeshlaw33_SolveSums.j1, if_neg (by simp), if_pos rfl, if_pos rfl, if_pos (by omega), if_pos (by omega)]
        rw [hk]
        simp
      · rw [hx1, hsm, hsn, hsx]
        exact hk
    · rw [if_pos h2] at hsn
      have h3 : (addE (a1, ad) (b1, bd)).1 ≠ 0 := by simp [addE, h1, h2]
      rw [if_pos h3] at hsx
      refine (Ev.one (f := fun k => slotmeshlaw33_SolveSums.j1 k true ad true [] false [] false true) (r := true) (fun k => ?_)).succ (fun k hk => ?_)
      · rw [slotmeshlaw33_SolveSums.j1, if_pos rfl, if_pos rfl, if_neg (by simp)]
      · rw [hx1, hsm, hsn, hsx]
        exact hk
  · rw [if_pos h1] at hsm
    by_cases h2 : b1 = 0
    · rw [if_neg (fun h => h h2)] at hsn
      have h3 : (addE (a1, ad) (b1, bd)).1 ≠ 0 := by simp [addE, h1, h2]
      rw [if_pos h3] at hsx
      refine (Ev.one (f := fun k => slotmeshlaw33_SolveSums.j1 k true [] false bd true [] false true) (r := true) (fun k => ?_)).succ (fun k hk => ?_)
      · rw [slotmeshlaw33_SolveSums.j1, if_pos rfl, if_pos rfl, if_neg (by simp)]
      · rw [hx1, hsm, hsn, hsx]
        exact hk
    · rw [if_pos h2] at hsn
      refine (Ev.one (f := fun k => slotmeshlaw33_SolveSums.j1 k true [] false [] false (sumS l ((m ^^^ n : Nat) : Int)).1 (sumS l ((m ^^^ n : Nat) : Int)).2 true) (r := true) (fun k => ?_)).succ (fun k hk => ?_)
      · rw [slotmeshlaw33_SolveSums.j1, if_pos rfl, if_pos rfl]
        split <;> rfl
      · rw [hx1, hsm, hsn]
        exact hk
end Go.Proofs.Ytknlbeojdmeljaa.L
