import Derived.Test.YtknlbeojdmeljaaH2
import Derived.Test.YtknlbeojdmeljaaWShare
import Derived.Test.YtknlbeojdmeljaaWMore
import Derived.RangeFuncFrom
import Derived.RangeFuncWrites
namespace Go.Proofs.Ytknlbeojdmeljaa.H
open Go.RowKit Go.Proofs.YtknlbeojdmeljaaW.PrintWords Go.Proofs.YtknlbeojdmeljaaW.PrintLast Go.Proofs.Ytknlbeojdmeljaa.P
set_option linter.unusedVariables false
set_option linter.unusedSimpArgs false
attribute [local go_sem] Oper.semAt_some

theorem grown_of_below {w w' : World} (h : Below w.heap.size w w') : w.grownBy w' none := ⟨h.os, h.tape, h.output, h.size, fun k hk _ => h.block k hk⟩
theorem abides_below {β : Type} {B : Nat} {J : β → World → Prop} (h : AbidesFrom B J) {s : β} {w w' : World} (hs : J s w) (hb : Below w.heap.size w w') : J s w' :=
  h s w w' none hs (grown_of_below hb) (fun r e => by cases e)

theorem wide_depth {n : Nat} : Fence.wide.depth.isSome = true → 1 ≤ n := fun h => by simp [Fence.wide] at h

/-- what the iterator hands to its round -/
def encE (x : S25) : Array Value := #[.agg (.int .i64 x.f0 :: bys (pad16 x.f1)).toArray, .bool (fineB x.f0 x.f1)]

set_option maxRecDepth 100000 in
set_option maxHeartbeats 2000000 in
theorem iter_in {α : Type} (val : α → S25) (n : Nat) (l Bs n₀ : Nat) (A : Option Addr) (cap : Nat) (zs : List α) (J Jx : List α → World → Prop) (W : World) (hn₀ : n₀ ≤ W.heap.size)
    (hJ : AbidesFrom W.heap.size J)
    (hY : ∀ pre x W, J pre W → pre.length < zs.length → YieldAt Fence.wide (n - 1) Try.prog l (encE (val x)) W fun e W' =>
      (e = .returned (.bool true) ∧ J (pre ++ [x]) W' ∧ Below n₀ W W') ∨ (e = .returned (.bool false) ∧ Jx (pre ++ [x]) W'))
    (hBs : W.cell? ⟨Bs, 0, none⟩ = some (.slice A zs.length cap)) (hr : ∀ W', Below n₀ W W' → Kd.C k25 W' A zs.length (zs.map val)) (h0 : J [] W) :
    CallsIn Fence.wide n Try.prog 38 #[.func (.yield l) #[] #[], .pointer (some ⟨Bs, 0, none⟩)] W fun e W' => (∃ v, e = .returned v) ∧
      ((∃ ys, ys = zs ∧ J ys W') ∨ (∃ pre, pre <+: zs ∧ Jx pre W')) := by
  have hro : Fence.wide.round = none := rfl
  have HY := Lib.hid hY
  have HR := Lib.hid hr
  have HJ := Lib.hid hJ
  have hm : zs.length ≤ 9223372036854775807 := by have := (hr W (Below.refl _ _)).2.1; exact this
  clear hY hr hJ
  refine callsIn_of_wp Try.func38 rfl trivial ?_ hro
  simp only [Try.ntmps38, List.size_toArray, List.length_cons, List.length_nil, Nat.reduceAdd, Nat.reduceSub, Array.replicate_succ, Array.replicate_zero, List.push_toArray, List.append_toArray, List.nil_append, List.cons_append]
  gi_wp2
  gi_loopw [7] (fun i wr => ∃ k : Nat, k ≤ zs.length ∧ i = .int .i64 k ∧ J (zs.take k) wr ∧ Below n₀ W wr)
    (fun i _ => zs.length - (intOf i).toNat)
  case atStart => exact ⟨0, Nat.zero_le _, rfl, h0, Below.refl _ _⟩
  case round =>
    obtain ⟨k, hk, rfl, hJs, hnx⟩ := hrel
    by_cases hlt : k < zs.length
    · obtain ⟨x, hx⟩ : ∃ x, x = zs[k] := ⟨_, rfl⟩
      have hrd : rd_T25 (zs.map val) (k : Int) = val x := by rw [hx]; simp [rd_T25, hlt]
      obtain ⟨ad, A1, c1, e, hc0, hc1, hle, hC1⟩ := at_T25 (HR.out wr hnx) (k : Int) (by omega) (by omega)
      rw [hrd] at hc0 hc1 hle hC1
      rw [Int.toNat_natCast] at hc0 hc1
      have htk : zs.take (k + 1) = zs.take k ++ [x] := by rw [hx]; exact List.take_succ_eq_append_getElem hlt
      have HTK := Lib.hid htk
      have hlen : (zs.take k).length < zs.length := by rw [List.length_take]; omega
      have HLE := Lib.hid hlen
      have hBel : Below wr.heap.size wr (wr.alloc (.cells #[.int .i64 (val x).f0, .slice A1 (val x).f1.length c1] 25)) := (Below.refl _ _).alloc (Nat.le_refl _) _
      have HC1 := Lib.hid (Kd.C_below hC1 hBel)
      have HBel := Lib.hid hBel
      have hnw : n₀ ≤ wr.heap.size := by have := hnx.size; omega
      have HJs := Lib.hid hJs
      have hJa : AbidesFrom wr.heap.size J := fun s A B row hs hg hr => HJ.out s A B row hs hg (fun r e => by
        obtain ⟨h1, h2⟩ := hr r e
        exact ⟨by have := hnx.size; omega, h2⟩)
      have HJa := Lib.hid hJa
      clear hx hrd htk hlen hBel hC1 hle hJs hJa
      subst e
      gi_wp2_with (refine ⟨trivial, wide_depth, ?_⟩; refine (callsIn_wide.2 (formed_calls _ _ _ _ _ HC1.out)).mono ?_; rintro e w2 ⟨rfl, hb⟩; have hB2 := HBel.out.trans (hb.mono (by simp)); obtain ⟨fn, tmps, assign, body, hy, hR⟩ := HY.out _ x w2 (abides_below HJa.out HJs.out hB2) HLE.out; simp only [encE] at hy; have HB2 := Lib.hid hB2; have HRR := Lib.hid hR; clear hb hB2 hR)
      refine ⟨wide_depth, HRR.out.mono ?_⟩
      rintro e W3 (⟨rfl, hJ3, hk3⟩ | ⟨rfl, hJx3⟩)
      · gi_wp2
        go_roundw
        case rel => exact ⟨k + 1, by omega, by go_num, by rw [HTK.out]; exact hJ3, hnx.trans ((HB2.out.mono hnw).trans hk3)⟩
        case measure => simp [intOf]; omega
      · gi_wp2
        refine bodyPost_ret (results_none rfl _ _ _) rfl ?_
        exact ⟨⟨_, rfl⟩, .inr ⟨_, by rw [← HTK.out]; exact List.take_prefix _ _, hJx3⟩⟩
    · obtain rfl : k = zs.length := by omega
      rw [List.take_length] at hJs
      gi_wp2
      go_end0
      exact ⟨⟨_, rfl⟩, .inl ⟨_, rfl, hJs⟩⟩
end Go.Proofs.Ytknlbeojdmeljaa.H
namespace Go.Proofs.Ytknlbeojdmeljaa.H
open Go.RowKit Go.Proofs.YtknlbeojdmeljaaW.PrintWords Go.Proofs.YtknlbeojdmeljaaW.PrintLast Go.Proofs.Ytknlbeojdmeljaa.P
set_option linter.unusedVariables false
set_option linter.unusedSimpArgs false

/-- equations(l): the rows in their order -/
theorem iter_stops {α : Type} (val : α → S25) (n : Nat) (Bs n₀ : Nat) (A : Option Addr) (cap : Nat) (zs : List α) (w : World) (hlt : Bs < w.heap.size) (hn₀ : n₀ ≤ w.heap.size)
    (hBs : w.cell? ⟨Bs, 0, none⟩ = some (.slice A zs.length cap)) (hr : ∀ W', Below n₀ w W' → Kd.C k25 W' A zs.length (zs.map val)) :
    SeqStopsK Fence.wide n Try.prog 38 #[.pointer (some ⟨Bs, 0, none⟩)] (fun x => encE (val x)) (Below n₀) (fun ys => ys = zs) (fun pre => pre <+: zs) zs.length w := fun l J Jx W hW hJ _ hY h0 =>
  iter_in val n l Bs n₀ A cap zs J Jx W (Nat.le_trans hn₀ hW.size) hJ hY ((hW.cell (p := ⟨Bs, 0, none⟩) hlt).trans hBs) (fun W' h => hr W' ((hW.mono hn₀).trans h)) h0

set_option maxHeartbeats 400000 in
theorem equations_calls (A : Option Addr) (n c : Nat) (w : World) :
    Calls Try.prog 30 #[.slice A n c] w fun e w' => e = .returned (.func (.func 38) #[] #[.pointer (some ⟨w.heap.size, 0, none⟩)]) ∧ w.alloc (.cells #[.slice A n c] 22) = w' := by
  have hmf : ∀ (fn : Fn) (first cap : Array Value) (w : World), (Instr.makeFunc fn first cap).run Try.prog w = .ok (.func fn first cap) w := fun _ _ _ _ => rfl
  go_enter Try.func30, Try.ntmps30
  go_wp2
  go_ret
  exact ⟨rfl, rfl⟩

theorem i64_and_nat (a b : Nat) (ha : a < 9223372036854775808) (hb : b < 9223372036854775808) : Go.bits .and .i64 (a : Int) (b : Int) = ((a &&& b : Nat) : Int) := by
  have hx : a &&& b < 2 ^ 63 := Nat.and_lt_two_pow _ (by omega)
  have h1 : (BitVec.ofInt 64 (a : Int)).toNat = a := by
    rw [BitVec.ofInt_natCast, BitVec.toNat_ofNat]; exact Nat.mod_eq_of_lt (by omega)
  have h2 : (BitVec.ofInt 64 (b : Int)).toNat = b := by
    rw [BitVec.ofInt_natCast, BitVec.toNat_ofNat]; exact Nat.mod_eq_of_lt (by omega)
  show IntKind.i64.wrap ((BitVec.ofInt 64 (a : Int) &&& BitVec.ofInt 64 (b : Int)).toNat : Int) = _
  rw [BitVec.toNat_and, h1, h2, IntKind.wrap_i64]
  omega
theorem i64_or_nat (a b : Nat) (ha : a < 9223372036854775808) (hb : b < 9223372036854775808) : Go.bits .or .i64 (a : Int) (b : Int) = ((a ||| b : Nat) : Int) := by
  have hx : a ||| b < 2 ^ 63 := Nat.or_lt_two_pow (by omega) (by omega)
  have h1 : (BitVec.ofInt 64 (a : Int)).toNat = a := by
    rw [BitVec.ofInt_natCast, BitVec.toNat_ofNat]; exact Nat.mod_eq_of_lt (by omega)
  have h2 : (BitVec.ofInt 64 (b : Int)).toNat = b := by
    rw [BitVec.ofInt_natCast, BitVec.toNat_ofNat]; exact Nat.mod_eq_of_lt (by omega)
  show IntKind.i64.wrap ((BitVec.ofInt 64 (a : Int) ||| BitVec.ofInt 64 (b : Int)).toNat : Int) = _
  rw [BitVec.toNat_or, h1, h2, IntKind.wrap_i64]
  omega
theorem i64_xor_nat (a b : Nat) (ha : a < 9223372036854775808) (hb : b < 9223372036854775808) : Go.bits .xor .i64 (a : Int) (b : Int) = ((a ^^^ b : Nat) : Int) := by
  have hx : a ^^^ b < 2 ^ 63 := Nat.xor_lt_two_pow (by omega) (by omega)
  have h1 : (BitVec.ofInt 64 (a : Int)).toNat = a := by
    rw [BitVec.ofInt_natCast, BitVec.toNat_ofNat]; exact Nat.mod_eq_of_lt (by omega)
  have h2 : (BitVec.ofInt 64 (b : Int)).toNat = b := by
    rw [BitVec.ofInt_natCast, BitVec.toNat_ofNat]; exact Nat.mod_eq_of_lt (by omega)
  show IntKind.i64.wrap ((BitVec.ofInt 64 (a : Int) ^^^ BitVec.ofInt 64 (b : Int)).toNat : Int) = _
  rw [BitVec.toNat_xor, h1, h2, IntKind.wrap_i64]
  omega
theorem lead_lt (m : Nat) (hm : m < 65536) : lead m < 65536 := by
  have h := bitLen16 m hm
  have h2 : 2 ^ Lib.bitLen m ≤ 2 ^ 16 := Nat.pow_le_pow_right (by omega) h
  unfold lead
  omega

/-- a well-formed row -/
abbrev FRow := { x : S25 // fineB x.f0 x.f1 = true }
theorem FRow.spec (x : FRow) : 1 ≤ x.1.f0 ∧ x.1.f0 < 65536 ∧ x.1.f1.length = 16 := by
  have := x.2
  simp only [fineB, Bool.and_eq_true, decide_eq_true_eq] at this
  exact this
def FRow.m (x : FRow) : Nat := x.1.f0.toNat
theorem FRow.m_lt (x : FRow) : x.m < 65536 := by have := x.spec; unfold FRow.m; omega
theorem FRow.m_eq (x : FRow) : x.1.f0 = (x.m : Int) := by have := x.spec; unfold FRow.m; omega

/-- one step of the reduction -/
def step1 (x : Nat × List Int) (r : FRow) : Nat × List Int := if x.1 &&& lead r.m ≠ 0 then (x.1 ^^^ r.m, xorD x.2 r.1.f1) else x
def redE (l : List FRow) (x : Nat × List Int) : Nat × List Int := l.foldl step1 x
theorem redE_snoc (l : List FRow) (r : FRow) (x : Nat × List Int) : redE (l ++ [r]) x = step1 (redE l x) r := by simp [redE]
theorem step1_ok (x : Nat × List Int) (r : FRow) (h : x.1 < 65536 ∧ x.2.length = 16) : (step1 x r).1 < 65536 ∧ (step1 x r).2.length = 16 := by
  unfold step1
  split
  · refine ⟨Nat.xor_lt_two_pow (n := 16) h.1 r.m_lt, ?_⟩
    have := r.spec
    simp [xorD, h.2, this.2.2]
  · exact h
theorem redE_ok (l : List FRow) : ∀ (x : Nat × List Int), x.1 < 65536 ∧ x.2.length = 16 → (redE l x).1 < 65536 ∧ (redE l x).2.length = 16 := by
  induction l with
  | nil => exact fun x h => h
  | cons r l ih => exact fun x h => ih (step1 x r) (step1_ok x r h)

theorem keep_block {A B : World} {row : Option Nat} {b k : Nat} {C : Array Value} {t : TypeId} {fr : Nat × Nat} (h : A.heap[k]? = some (.cells C t fr)) (hg : A.grownBy B row)
    (hr : ∀ r, row = some r → b ≤ r ∧ ∃ o : Obj, A.heap[r]? = some o ∧ o.isCells = false) : B.heap[k]? = some (.cells C t fr) := by
  rw [hg.block k (Array.getElem?_eq_some_iff.1 h).1 (fun e => by
    obtain ⟨_, o, ho, hc⟩ := hr k e.symm
    rw [h] at ho
    cases ho
    cases hc)]
  exact h
/-- a store into cells keeps what is no cells -/
theorem keeps_of_cells {w w1 : World} {g : Nat} {C : Array Value} {t : TypeId} {fr : Nat × Nat} (hb : w.heap[g]? = some (.cells C t fr)) (hk : ∀ k, k ≠ g → w1.heap[k]? = w.heap[k]?) (hs : w1.heap.size = w.heap.size) (B : Nat) : KeepsFrom B w w1 :=
  ⟨by omega, fun k o _ ho hc => by
    by_cases e : k = g
    · subst e; rw [hb] at ho; cases ho; cases hc
    · rw [hk k e]; exact ho⟩
theorem keeps_of_below {w w1 : World} (h : Below w.heap.size w w1) (B : Nat) : KeepsFrom B w w1 :=
  ⟨h.size, fun k o _ ho _ => by rw [h.block k (Array.getElem?_eq_some_iff.1 ho).1]; exact ho⟩
end Go.Proofs.Ytknlbeojdmeljaa.H
