import Derived.Test.YtknlbeojdmeljaaShelf
import Derived.Test.YtknlbeojdmeljaaProg
import Derived.WalkKit
import Derived.KernelRfl
import Derived.Outline
import Derived.Laws.Rows
import Derived.Deep.MidRow
import Derived.RangeFuncNested
import Derived.RangeFuncBound
import Derived.RangeFuncCalls
import Derived.RangeFuncLeaves
import Derived.Shelf.Abstract
import Derived.Shelf.RegionOpen
import Derived.OwnWalkIn
import Derived.TacticsInMore
import Derived.LoopNIn
import Derived.LoopIn
import Derived.Deep.QuietTactic
import Derived.BigQuiet
import Derived.Lib.Hide
import Derived.Test.YtknlbeojdmeljaaP0
import Derived.Laws.CopyOwn
import Derived.Laws.MakeOwn
import Derived.Deep.RegionHeld3
/-! General laws: a whole row (array, struct) is stored into its own block; and what is told of a world by its blocks. -/
namespace Go.Proofs.Ytknlbeojdmeljaa.H
open Go.RowKit Go.Proofs.YtknlbeojdmeljaaW.PrintWords
set_option linter.unusedVariables false
set_option linter.unusedSimpArgs false

theorem below_setCells {B : Nat} {a : World} (b : Nat) : ∀ (vs : List Value) (o : Nat) (w : World), Below B a w → B ≤ b → Below B a (w.setCells b o vs)
  | [], _, _, h, _ => h
  | v :: r, o, w, h, hb => below_setCells b r (o + 1) _ (h.setCell (p := ⟨b, o, none⟩) hb v) hb

theorem size_setCells (b : Nat) : ∀ (vs : List Value) (o : Nat) (w : World), (w.setCells b o vs).heap.size = w.heap.size
  | [], _, _ => rfl
  | v :: r, o, w => by rw [World.setCells, size_setCells b r, World.size_setCell]

theorem heap_setCells_other (b k : Nat) (hk : k ≠ b) : ∀ (vs : List Value) (o : Nat) (w : World), (w.setCells b o vs).heap[k]? = w.heap[k]?
  | [], _, _ => rfl
  | v :: r, o, w => by rw [World.setCells, heap_setCells_other b k hk r]; exact Below.heap_setCell w ⟨b, o, none⟩ v k hk

/-- the block's cells after the store, whole -/
theorem heap_setCells_at (b : Nat) (t : TypeId) : ∀ (vs : List Value) (o : Nat) (w : World) (C : Array Value), w.heap[b]? = some (.cells C t (0, 0)) → o + vs.length ≤ C.size →
    (w.setCells b o vs).heap[b]? = some (.cells (C.toList.take o ++ vs ++ C.toList.drop (o + vs.length)).toArray t (0, 0))
  | [], o, w, C, h, hl => by
    rw [World.setCells, h]
    simp
  | v :: r, o, w, C, h, hl => by
    have h1 := heap_setCell_same w b o C t v h
    simp only [List.length_cons] at hl
    rw [World.setCells, heap_setCells_at b t r (o + 1) _ _ h1 (by simp; omega)]
    congr 3
    simp only [Array.toList_setIfInBounds, List.length_cons]
    rw [List.take_set, List.drop_set_of_lt (by omega)]
    rw [show o + 1 + r.length = o + (r.length + 1) by omega]
    congr 1
    have hlen : o < C.toList.length := by simp; omega
    rw [List.take_add_one, List.getElem?_eq_getElem hlen]
    simp only [Option.toList_some]
    have hmin : min o C.toList.length = o := Nat.min_eq_left (Nat.le_of_lt hlen)
    simp only [List.set_append, List.length_take, hmin, Nat.lt_irrefl, if_false, Nat.sub_self, List.set_cons_zero, List.append_assoc, List.singleton_append]

theorem blk_new {w : World} {o : Obj} {n : Nat} (h : n = w.heap.size) : (w.alloc o).heap[n]? = some o := by subst h; exact heap_alloc_new _ _

/-- A whole row is stored into its block: the world behind it is told by its blocks. -/
theorem setCells_row {w : World} {g : Nat} {C : Array Value} {t : TypeId} (hb : w.heap[g]? = some (.cells C t (0, 0))) (vs : List Value) (hs : C.size = vs.length) :
    (w.setCells g 0 vs).heap[g]? = some (.cells vs.toArray t (0, 0)) := by
  rw [heap_setCells_at g t vs 0 w C hb (by omega)]
  simp [List.drop_eq_nil_of_le (show C.toList.length ≤ vs.length by simp; omega)]

theorem there_of_row {w : World} {g : Nat} {C : Array Value} {t : TypeId} (hb : w.heap[g]? = some (.cells C t (0, 0))) (o n : Nat) (h : o + n ≤ C.size) : w.there g o n := fun j hj => by
  refine ⟨?_, frozen_of_row w g _ C t hb⟩
  rw [cell_of_row w g _ C t (0, 0) hb]
  simp; omega

theorem rangeAt_of_row {w : World} {g : Nat} {C : Array Value} {t : TypeId} (hb : w.heap[g]? = some (.cells C t (0, 0))) (o : Nat) (cs : List Value) (h : ∀ j, j < cs.length → C[o + j]? = cs[j]?) : w.rangeAt g o cs := fun j v hv => by
  have hj : j < cs.length := (List.getElem?_eq_some_iff.1 hv).1
  rw [cell_of_row w g _ C t (0, 0) hb, h j hj, hv]

section
variable {P : Program} {ops : Array Oper} {rest : List Oper} {op : Oper} {a : Act} {w : World} {Q : Exit → Act → World → Prop}
theorem wpList_store_row (hgd : op.guard = none) (ty : TypeId) (x y : Operand) (ho : op.op = .store ty x y)
    (g : Nat) (cells : List Value) (C : Array Value) (t : TypeId) (hx : a.eval x = .pointer (some ⟨g, 0, none⟩)) (hy : a.eval y = .agg cells.toArray)
    (hb : w.heap[g]? = some (.cells C t (0, 0))) (hs : C.size = cells.length) (hi : (P.info? ty).map (·.size) = some cells.length) (h1 : ∀ v ∈ cells, v.oneCell' = true)
    (h : ∀ w1 : World, w1.heap[g]? = some (.cells cells.toArray t (0, 0)) → (∀ k, k ≠ g → w1.heap[k]? = w.heap[k]?) → w1.heap.size = w.heap.size → (∀ (B : Nat) (w0 : World), B ≤ g → Below B w0 w → Below B w0 w1) → wpList P ops Q rest (a.put op.dst undef) w1) : wpList P ops Q (op :: rest) a w := by
  refine wpList_store_mid hgd ty x y ho g 0 cells.toArray hx hy (there_of_row hb 0 _ (by simp [hs])) (by simpa using hi) (all_oneCell_toArray h1) ?_
  exact h _ (setCells_row hb cells hs) (fun k hk => heap_setCells_other g k hk _ _ _) (size_setCells _ _ _ _) (fun B w0 hB h0 => below_setCells _ _ _ _ h0 hB)
end

theorem bys_one (d : List Int) : ∀ v ∈ d.map (Value.int .u8), v.oneCell' = true := by
  intro v hv
  obtain ⟨x, _, rfl⟩ := List.mem_map.1 hv
  rfl
theorem eq_one (m : Int) (d : List Int) : ∀ v ∈ Value.int .i64 m :: d.map (Value.int .u8), v.oneCell' = true := by
  intro v hv
  rcases List.mem_cons.1 hv with rfl | hv
  · rfl
  · exact bys_one d v hv
theorem size53 : (Try.prog.info? 53).map (·.size) = some 17 := by kernel_rfl
theorem size51 : (Try.prog.info? 51).map (·.size) = some 16 := by kernel_rfl
end Go.Proofs.Ytknlbeojdmeljaa.H
namespace Go.Proofs.Ytknlbeojdmeljaa.H
open Go.RowKit Go.Proofs.YtknlbeojdmeljaaW.PrintWords Go.Proofs.Ytknlbeojdmeljaa.P
set_option linter.unusedVariables false
set_option linter.unusedSimpArgs false

/-- the leading bit of a mask -/
def lead (m : Nat) : Nat := 2 ^ Lib.bitLen m / 2

theorem bitLen16 (m : Nat) (hm : m < 65536) : Lib.bitLen m ≤ 16 := Lib.bitLen_le m 16 (by omega) (by omega)

theorem lead_arith (m : Nat) (hm : m < 65536) : wrap64 (2 ^ min (Lib.bitLen m) 64) / 2 = (lead m : Int) := by
  have h := bitLen16 m hm
  have h2 : 2 ^ Lib.bitLen m ≤ 2 ^ 16 := Nat.pow_le_pow_right (by omega) h
  have e : min (Lib.bitLen m) 64 = Lib.bitLen m := by omega
  rw [e]
  have e2 : ((2 : Int) ^ Lib.bitLen m) = ((2 ^ Lib.bitLen m : Nat) : Int) := by simp
  rw [e2]
  unfold lead
  generalize 2 ^ Lib.bitLen m = x at *
  unfold wrap64
  omega

set_option maxHeartbeats 400000 in
theorem leading_calls (m : Nat) (hm : m < 65536) (D : List Value) (w : World) :
    Calls Try.prog 32 #[.agg (.int .i64 (m : Int) :: D).toArray] w fun e w' => e = .returned (.int .i64 (lead m : Int)) ∧ Below w.heap.size w w' := by
  have H := Lib.hid (lead_arith m hm)
  go_enter Try.func32, Try.ntmps32
  go_wp2_with (first | (go_at_call 39; refine (Try.bits_Len _ _ (by omega) (by omega)).mono ?_; rintro e w' ⟨rfl, rfl⟩))
  go_ret
  exact ⟨by rw [H.out]; rfl, (Below.refl _ _).alloc (Nat.le_refl _) _⟩

def bys (d : List Int) : List Value := d.map (Value.int .u8)
theorem bys_len (d : List Int) : (bys d).length = d.length := by simp [bys]
theorem bys_at (d : List Int) (k : Nat) (h : k < d.length) : (bys d).toArray[k]? = some (.int .u8 (d.getD k 0)) := by
  simp [bys, h]

def xorB (a b : Int) : Int := Go.bits .xor .u8 a b
def xorD (a b : List Int) : List Int := List.zipWith xorB a b
/-- after k bytes -/
def mixd (a b : List Int) (k : Nat) : List Int := xorD (a.take k) (b.take k) ++ a.drop k
theorem mixd_zero (a b : List Int) : mixd a b 0 = a := by simp [mixd, xorD]
theorem mixd_len (a b : List Int) (k : Nat) (ha : a.length = 16) (hb : b.length = 16) : (mixd a b k).length = 16 := by
  simp [mixd, xorD, ha, hb]; omega
theorem mixd_all (a b : List Int) (ha : a.length = 16) (hb : b.length = 16) : mixd a b 16 = xorD a b := by
  simp [mixd, List.take_of_length_le (show a.length ≤ 16 by omega), List.take_of_length_le (show b.length ≤ 16 by omega), List.drop_eq_nil_of_le (show a.length ≤ 16 by omega)]
theorem mixd_at (a b : List Int) (k : Nat) (ha : a.length = 16) (hb : b.length = 16) (hk : k < 16) : (mixd a b k).getD k 0 = a.getD k 0 := by
  have h1 : (xorD (a.take k) (b.take k)).length = k := by simp [xorD, ha, hb]; omega
  simp [mixd, List.getElem?_append, h1]
theorem mixd_set (a b : List Int) (k : Nat) (ha : a.length = 16) (hb : b.length = 16) (hk : k < 16) :
    (mixd a b k).set k (xorB (a.getD k 0) (b.getD k 0)) = mixd a b (k + 1) := by
  have h1 : (xorD (a.take k) (b.take k)).length = k := by simp [xorD, ha, hb]; omega
  unfold mixd
  rw [List.set_append]
  rw [if_neg (by omega), h1, Nat.sub_self]
  have ea : a.take (k + 1) = a.take k ++ [a.getD k 0] := by rw [List.take_add_one]; simp [show k < a.length by omega]
  have eb : b.take (k + 1) = b.take k ++ [b.getD k 0] := by rw [List.take_add_one]; simp [show k < b.length by omega]
  have ed : a.drop k = a.getD k 0 :: a.drop (k + 1) := by rw [List.drop_eq_getElem_cons (by omega)]; simp [show k < a.length by omega]
  rw [ed, ea, eb]
  unfold xorD
  rw [List.zipWith_append (by simp [ha, hb])]
  simp

set_option maxRecDepth 100000 in
set_option maxHeartbeats 1000000 in
/-- b.plus(c) -/
theorem plus_calls (a b : List Int) (ha : a.length = 16) (hb : b.length = 16) (w : World) :
    Calls Try.prog 33 #[.agg (bys a).toArray, .agg (bys b).toArray] w fun e w' => e = .returned (.agg (bys (xorD a b)).toArray) ∧ Below w.heap.size w w' := by
  go_enter Try.func33, Try.ntmps33
  go_wp2
  go_loopw [5, 6] (fun _ i wr => ∃ k : Nat, k ≤ 16 ∧ i = .int .i64 k ∧ wr.heap[w.heap.size]? = some (.cells (bys (mixd a b k)).toArray 51 (0, 0)) ∧ wr.heap[w.heap.size + 1]? = some (.cells (bys b).toArray 51 (0, 0)) ∧ (∃ c, wr.heap[w.heap.size + 1 + 1]? = some (.cells c 51 (0, 0)) ∧ c.size = 16) ∧ Below w.heap.size w wr)
    (fun _ i _ => 16 - (intOf i).toNat)
  case atStart =>
    refine ⟨0, by omega, rfl, ?_, ?_, ⟨_, blk_new (by simp), by rfl⟩, ((Below.refl _ _).alloc (Nat.le_refl _) _).alloc (by simp) _ |>.alloc (by simp; omega) _⟩
    · rw [mixd_zero]
      rw [Below.heap_alloc _ _ _ (by simp; omega), Below.heap_alloc _ _ _ (by simp)]
      exact blk_new (by simp)
    · rw [Below.heap_alloc _ _ _ (by simp)]
      exact blk_new (by simp)
  case round =>
    obtain ⟨k, hk, rfl, h1, h2, h3, hB⟩ := hrel
    by_cases hlt : k < 16
    · have c1 : wr.cell? ⟨w.heap.size, k, none⟩ = some (.int .u8 (a.getD k 0)) := by
        rw [cell_of_row wr _ k _ 51 (0, 0) h1, bys_at _ _ (by rw [mixd_len a b k ha hb]; exact hlt), mixd_at a b k ha hb hlt]
      have c2 : wr.cell? ⟨w.heap.size + 1, k, none⟩ = some (.int .u8 (b.getD k 0)) := by
        rw [cell_of_row wr _ k _ 51 (0, 0) h2, bys_at _ _ (by omega)]
      have f1 : wr.frozen? ⟨w.heap.size, k, none⟩ = false := frozen_of_row wr _ k _ 51 h1
      have h4 : (wr.setCell ⟨w.heap.size, k, none⟩ (.int .u8 (xorB (a.getD k 0) (b.getD k 0)))).heap[w.heap.size]? = some (.cells (bys (mixd a b (k + 1))).toArray 51 (0, 0)) := by
        rw [heap_setCell_same wr _ k _ 51 _ h1, ← mixd_set a b k ha hb hlt]
        simp [bys]
      have h5 : (wr.setCell ⟨w.heap.size, k, none⟩ (.int .u8 (xorB (a.getD k 0) (b.getD k 0)))).heap[w.heap.size + 1]? = some (.cells (bys b).toArray 51 (0, 0)) := by
        rw [Below.heap_setCell wr _ _ _ (by simp)]; exact h2
      have h6 : (∃ c, (wr.setCell ⟨w.heap.size, k, none⟩ (.int .u8 (xorB (a.getD k 0) (b.getD k 0)))).heap[w.heap.size + 1 + 1]? = some (.cells c 51 (0, 0)) ∧ c.size = 16) := by
        obtain ⟨c, hc, hs⟩ := h3
        exact ⟨c, by rw [Below.heap_setCell wr _ _ _ (by simp; omega)]; exact hc, hs⟩
      have h7 := hB.setCell (p := ⟨w.heap.size, k, none⟩) (Nat.le_refl _) (.int .u8 (xorB (a.getD k 0) (b.getD k 0)))
      obtain ⟨x, hx⟩ : ∃ x, x = a.getD k 0 := ⟨_, rfl⟩
      obtain ⟨y, hy⟩ : ∃ y, y = b.getD k 0 := ⟨_, rfl⟩
      rw [← hx] at c1 h4 h5 h6 h7
      rw [← hy] at c2 h4 h5 h6 h7
      clear h1 h2 h3 hx hy hB
      have H4 := Lib.hid h4; clear h4
      have H5 := Lib.hid h5; clear h5
      have H6 := Lib.hid h6; clear h6
      have H7 := Lib.hid h7; clear h7
      go_wp2
      go_region
      all_goals go_wp2
      all_goals go_roundw
      case rel => exact ⟨k + 1, by omega, by go_num, H4.out, H5.out, H6.out, H7.out.drew⟩
      case measure => simp [intOf]; omega
    · obtain rfl : k = 16 := by omega
      obtain ⟨c, h3, hc⟩ := h3
      rw [mixd_all a b ha hb] at h1
      have hl : (xorD a b).length = 16 := by simp [xorD, ha, hb]
      go_wp2_with (first
        | (refine wpList_load_row rfl 51 _ rfl w.heap.size rfl 51 _ (0, 0) _ h1 Try.underlying51 rfl (by rw [size51]; simp [bys, hl]) ?_)
        | (refine wpList_store_row rfl 51 _ _ rfl (w.heap.size + 1 + 1) (bys (xorD a b)) c 51 rfl rfl h3 (by rw [bys_len, hl]; exact hc) (by rw [size51, bys_len, hl]) (bys_one _) ?_; intro w1 g1 g2 g3 g4))
      refine bodyPost_ret (results_cell_row rfl _ _ (w.heap.size + 1 + 1) 51 (bys (xorD a b)).toArray (0, 0) _ rfl g1 Try.underlying51 rfl (by rw [size51]; simp [bys, hl])) rfl ?_
      exact ⟨rfl, g4 _ _ (by omega) hB⟩

end Go.Proofs.Ytknlbeojdmeljaa.H
namespace Go.Proofs.Ytknlbeojdmeljaa.H
open Go.RowKit Go.Proofs.YtknlbeojdmeljaaW.PrintWords Go.Proofs.Ytknlbeojdmeljaa.P
set_option linter.unusedVariables false
set_option linter.unusedSimpArgs false

theorem elem5 : (Try.prog.info? 5).map (·.size) = some 1 := by kernel_rfl

/-- the blocks below the new row, behind the copy -/
theorem row_aux (m : Int) (D : List Value) (w w' : World)
    (hb : Below (w.heap.size + 1 + 1) (((w.alloc (.cells (.int .i64 m :: D).toArray 53)).alloc (.cells #[.int .i64 0, .slice none 0 0] 25)).alloc (.cells (Array.replicate 16 (.int .u8 0)) 5)) w') :
    w'.cell? ⟨w.heap.size, 0, none⟩ = some (.int .i64 m) ∧ w'.cell? ⟨w.heap.size + 1, 0, none⟩ = some (.int .i64 0) ∧ w'.cell? ⟨w.heap.size + 1, 1, none⟩ = some (.slice none 0 0) ∧
      w'.frozen? ⟨w.heap.size + 1, 0, none⟩ = false ∧ w'.frozen? ⟨w.heap.size + 1, 1, none⟩ = false ∧ w.heap.size + 1 + 1 + 1 ≤ w'.heap.size := by
  have g0 : w'.heap[w.heap.size]? = some (.cells (.int .i64 m :: D).toArray 53 (0, 0)) := by
    rw [hb.block _ (by omega), Below.heap_alloc _ _ _ (by simp; omega), Below.heap_alloc _ _ _ (by simp)]; exact blk_new (by simp)
  have g1 : w'.heap[w.heap.size + 1]? = some (.cells #[.int .i64 0, .slice none 0 0] 25 (0, 0)) := by
    rw [hb.block _ (by omega), Below.heap_alloc _ _ _ (by simp)]; exact blk_new (by simp)
  have h3 := hb.size
  simp at h3
  exact ⟨(cell_of_row w' _ 0 _ 53 (0, 0) g0).trans (by simp), (cell_of_row w' _ 0 _ 25 (0, 0) g1).trans rfl, (cell_of_row w' _ 1 _ 25 (0, 0) g1).trans rfl, frozen_of_row w' _ 0 _ 25 g1, frozen_of_row w' _ 1 _ 25 g1, by omega⟩

set_option maxRecDepth 100000 in
set_option maxHeartbeats 1000000 in
/-- e.row() -/
theorem row_calls (m : Int) (d : List Int) (hd : d.length = 16) (w : World) :
    Calls Try.prog 31 #[.agg (.int .i64 m :: bys d).toArray] w fun e w' => ∃ g, w.heap.size ≤ g ∧ e = .returned (.agg #[.int .i64 m, .slice (some ⟨g, 0, none⟩) 16 16]) ∧ w'.heap[g]? = some (.cells (bys d).toArray 5 (0, 0)) ∧ Below w.heap.size w w' := by
  have hmk : ∀ w : World, (Instr.makeSlice 23 (.int .i64 16) (.int .i64 16)).run Try.prog w = .ok (.slice (some ⟨w.heap.size, 0, none⟩) 16 16) (w.alloc (.cells (Array.replicate 16 (.int .u8 0)) 5)) := fun w => by
    kernel_rfl
  obtain ⟨D, hD⟩ : ∃ D, D = bys d := ⟨_, rfl⟩
  have hDl : D.length = 16 := by rw [hD, bys_len, hd]
  have hD1 : ∀ v ∈ D, v.oneCell' = true := by rw [hD]; exact bys_one d
  rw [← hD]
  have HD := Lib.hid hDl
  clear hDl
  have HDe := Lib.hid hD
  clear hD
  go_enter Try.func31, Try.ntmps31
  go_wp2_with (first
    | (refine wpList_copy_splice rfl (.tmp 5) (.tmp 7) 23 23 rfl 5 Try.underlying23 elem5 _ _ 16 16 16 16 rfl rfl (w.heap.size + 1 + 1) 0 (List.replicate 16 (.int .u8 0)) 5 ?hg D ?hn ?hpos ?hfit hD1 (w.heap.size + 1 + 1) _ (Below.refl _ _) (Nat.le_refl _) ?_; rotate_right; intro w' hg' hb'; obtain ⟨k0, k1, k2, k3, k4, k5⟩ := row_aux m D w w' hb'; have Hb := Lib.hid hb'; clear hb'))
  case hg => exact blk_new (by simp)
  case hn => rw [HD.out]; rfl
  case hfit => rw [HD.out]; simp
  case hpos =>
    intro _ j v hv
    simpa [Nat.add_comm 1 j] using hv
  have hsz := k5
  refine bodyPost_ret (v := .agg #[.int .i64 m, .slice (some ⟨w.heap.size + 1 + 1, 0, none⟩) 16 16]) (by simp [results, Try.results31, go_sem, k1, k2, k3, k4]) rfl ?_
  refine ⟨w.heap.size + 1 + 1, by omega, rfl, ?_, ?_⟩
  · rw [Below.heap_setCell _ _ _ _ (by simp), Below.heap_setCell _ _ _ _ (by simp), hg'.out]
    simp [splice, HD.out]
  · exact ((((((Below.refl _ w).alloc (Nat.le_refl _) _).alloc (by simp) _).alloc (by simp; omega) _).trans (Hb.out.mono (by omega))).setCell (by simp) _).setCell (by simp) _
end Go.Proofs.Ytknlbeojdmeljaa.H
