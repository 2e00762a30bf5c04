-- cut by shake.py (own program) out of this session's texts
import Derived.Test.YtknlbeojdmeljaaDoorProg
import Derived.Below
import Derived.Deep.Draws
import Derived.Deep.AppendLies
import Derived.Maps.AppendAt
import Derived.OwnWalk
import Derived.Laws.BytesArg
import Derived.Laws.MakeOwn
import Derived.Laws.OwnMore
import Derived.Deep.OwnRows
import Derived.Tactics
import Derived.Lib.ConvBytes
import Derived.Laws.Slices
import Derived.WalkKit
import Derived.KernelRfl
import Derived.RowKit3
import Derived.Deep.LoopGhost
import Derived.Deep.QuietTactic
import Derived.BigQuiet
import Derived.WideLaws
import Derived.Deep.DeepCutAuto
import Derived.Deep.CutBlock
import Derived.Deep.RegionHeld3
import Derived.Laws.Rows
import Derived.Lib.AppendStr
import Derived.ArgAppend
import Derived.Laws.IdiomCopy
import Derived.OrdersHeld
import Derived.Laws.BitsLemmas
import Derived.RowKit
import Derived.Test.YtknlbeojdmeljaaDoorWWords
import Derived.Test.YtknlbeojdmeljaaDoorWLast
import Derived.Test.YtknlbeojdmeljaaDoorWTab
import Derived.Test.YtknlbeojdmeljaaDoorWQPut
import Derived.Test.YtknlbeojdmeljaaDoorWApart
import Derived.Test.YtknlbeojdmeljaaDoorWArr
import Derived.Test.YtknlbeojdmeljaaDoorWZeros
import Derived.Test.YtknlbeojdmeljaaDoorWFoot
import Derived.Test.YtknlbeojdmeljaaDoorWKept
import Derived.Test.YtknlbeojdmeljaaDoorWShare
import Derived.Test.YtknlbeojdmeljaaDoorWN
import Derived.Test.YtknlbeojdmeljaaDoorWEqStruct
import Derived.Test.YtknlbeojdmeljaaDoorWGuard
import Derived.Test.YtknlbeojdmeljaaDoorWNEv
import Derived.Test.YtknlbeojdmeljaaDoorWMore
import Derived.Test.YtknlbeojdmeljaaDoorShelf
import Derived.Deep.MidRow
import Derived.RangeFuncNested
import Derived.RangeFuncBound
import Derived.RangeFuncCalls
import Derived.RangeFuncLeaves
import Derived.Shelf.Abstract
import Derived.Shelf.RegionOpen
import Derived.OwnWalkIn
import Derived.TacticsInMore
import Derived.LoopNIn
import Derived.LoopIn
import Derived.Lib.Hide
import Derived.Laws.CopyOwn
import Derived.OrdersIn
import Derived.RangeFuncFrom
import Derived.RangeFuncWrites
import Derived.Shelf.Spec.TrailingZeros
import Derived.Laws.Bits64b
import Derived.Test.YtknlbeojdmeljaaDoorRows
import Derived.Lib.LaidTab
import Derived.ProofKit
import Derived.LaidMore
import Derived.OpenShut
import Derived.Stop.Joined
import Derived.LaidSub
import Derived.MakeChecks
import Derived.Lib.ItoaNum
import Derived.ShutString
import Derived.ChangeOld
import Derived.SizedLaws
import Derived.Deep.SlicePairs
import Derived.Test.YtknlbeojdmeljaaDoorCards
import Derived.Test.YtknlbeojdmeljaaDoorTie
import Derived.SevenTiedAt
namespace Go.Proofs.YtknlbeojdmeljaaDoor

/-! short forms of the steps through a region that draws its order -/
section
open Go.RowKit Go.Proofs.YtknlbeojdmeljaaDoorW.PrintWords Go.Proofs.YtknlbeojdmeljaaDoorW.PrintLast Go.Proofs.YtknlbeojdmeljaaDoorW.PrintMore
def bl (n m : Nat) : Array Bool := ((List.range n).map fun i => m.testBit i).toArray
theorem pU {P : Program} {md : Region.Mode} {ops : Array Oper} {Q : Exit → Act → World → Prop} {S : World → Prop} {ds : List Nat} {fuel : Nat} {l : Array Bool} {a : Act} {w : World} (i N : Nat) {oi : Oper} {v : Value} {a' : Act} (l' : Array Bool) (hc : anyB md ops l l' i = true)
    (hi : ops[i]? = some oi := by rfl) (hN : oi.dst = some N := by rfl) (hQ : ∀ c a w, Q (.panic c) (a.put oi.dst v) w → Q (.panic c) a w := by exact fun _ _ _ h => h) (hw : Region.wanted oi (yielded ops a.tmps) = true := by rfl)
    (hy : ∀ w', (execOp a.eval oi).run P w' = .ok (.value v) w' := by intro w'; go_simp; with_reducible rfl)
    (ha : a.put (some N) v = a' := by (simp only [Act.put, List.setIfInBounds_toArray, List.set_cons_zero, List.set_cons_succ, i64_w, i32_w]; rfl)) (h : wpAnyLast P md ops Q S ds fuel l' a' w) : wpAnyLast P md ops Q S ds (fuel + 1) l a w :=
  pure_ l' hi hN hc hQ (Or.inl ⟨hw, hy⟩) ha h
theorem pV {P : Program} {md : Region.Mode} {ops : Array Oper} {Q : Exit → Act → World → Prop} {S : World → Prop} {ds : List Nat} {fuel : Nat} {l : Array Bool} {a : Act} {w : World} (i N : Nat) {oi : Oper} {a' : Act} (l' : Array Bool) (hc : anyB md ops l l' i = true)
    (hi : ops[i]? = some oi := by rfl) (hN : oi.dst = some N := by rfl) (hQ : ∀ c a w, Q (.panic c) (a.put oi.dst undef) w → Q (.panic c) a w := by exact fun _ _ _ h => h) (hw : Region.wanted oi (yielded ops a.tmps) = false := by rfl)
    (ha : a.put (some N) undef = a' := by (simp only [Act.put, List.setIfInBounds_toArray, List.set_cons_zero, List.set_cons_succ, i64_w, i32_w]; rfl)) (h : wpAnyLast P md ops Q S ds fuel l' a' w) : wpAnyLast P md ops Q S ds (fuel + 1) l a w :=
  pure_ l' hi hN hc hQ (Or.inr ⟨hw, rfl⟩) ha h
theorem tU {P : Program} {md : Region.Mode} {ops : Array Oper} {Q : Exit → Act → World → Prop} {S : World → Prop} {ds : List Nat} {fuel : Nat} {l : Array Bool} {a : Act} {w : World} (i N : Nat) {oi : Oper} {v : Value} {a' : Act} (l' : Array Bool) (hc : takeB md ops ds l l' i = true) (hS : S w)
    (hi : ops[i]? = some oi := by rfl) (hN : oi.dst = some N := by rfl) (hQ : ∀ c a w, Q (.panic c) (a.put oi.dst v) w → Q (.panic c) a w := by exact fun _ _ _ h => h) (hw : Region.wanted oi (yielded ops a.tmps) = true := by rfl)
    (hy : ∀ w', S w' → (execOp a.eval oi).run P w' = .ok (.value v) w')
    (ha : a.put (some N) v = a' := by (simp only [Act.put, List.setIfInBounds_toArray, List.set_cons_zero, List.set_cons_succ, i64_w, i32_w]; rfl)) (h : wpAnyLast P md ops Q S ds fuel l' a' w) : wpAnyLast P md ops Q S ds (fuel + 1) l a w :=
  take_ l' hi hN hc hQ (Or.inl ⟨hw, hy⟩) hS ha h
theorem rU {P : Program} {md : Region.Mode} {ops : Array Oper} {Q : Exit → Act → World → Prop} {S : World → Prop} {ds : List Nat} {fuel : Nat} {l : Array Bool} {a : Act} {w : World} (i N : Nat) {oi : Oper} {v : Value} {a' : Act} (l' : Array Bool) (hi : ops[i]? = some oi) (hc : takeB md ops ds l l' i = true) (hy : YieldsIf P ops S oi v a) (hS : S w)
    (hN : oi.dst = some N := by rfl) (hQ : ∀ c a w, Q (.panic c) (a.put oi.dst v) w → Q (.panic c) a w := by exact fun _ _ _ h => h)
    (ha : a.put (some N) v = a' := by (simp only [Act.put, List.setIfInBounds_toArray, List.set_cons_zero, List.set_cons_succ, i64_w, i32_w]; rfl)) (h : wpAnyLast P md ops Q S ds fuel l' a' w) : wpAnyLast P md ops Q S ds (fuel + 1) l a w :=
  take_ l' hi hN hc hQ hy hS ha h
theorem nU {P : Program} {md : Region.Mode} {ops : Array Oper} {Q : Exit → Act → World → Prop} {S : World → Prop} {ds : List Nat} {fuel : Nat} {l : Array Bool} {a : Act} {w : World} (N : Nat) {v : Value} {a' : Act}
    (ha : Act.put a (some N) v = a' := by (simp only [Act.put, List.setIfInBounds_toArray, List.set_cons_zero, List.set_cons_succ, i64_w, i32_w]; rfl)) (h : wpAnyLast P md ops Q S ds fuel l a' w) : wpAnyLast P md ops Q S ds fuel l (a.put (some N) v) w :=
  norm_ ha h
end
end Go.Proofs.YtknlbeojdmeljaaDoor
namespace Go.Proofs.YtknlbeojdmeljaaDoor.P
open Go.RowKit Go.Proofs.YtknlbeojdmeljaaDoorW.PrintWords Go.Proofs.YtknlbeojdmeljaaDoorW.PrintLast Go.Proofs.YtknlbeojdmeljaaDoorW.PrintMore
attribute [local go_sem] max2_int min2_int max_two min_two max_three min_three max_four min_four   -- for this text's walks alone
set_option linter.unusedVariables false
set_option linter.unusedSimpArgs false
def errW : Option Int → Value
  | none => .nilIface
  | some c => .iface 0 (.int .i64 c)
theorem errW_none : errW none = .nilIface := rfl
theorem errW_some (c : Int) : errW (some c) = .iface 0 (.int .i64 c) := rfl
theorem info5 : (Tryd.prog.info? 5).map (fun i => (i.zero, i.size, i.bytes)) = some (some (.int .u8 0), 1, 1) := by kernel_rfl
theorem info25 : (Tryd.prog.info? 52).map (fun i => (i.zero, i.size, i.bytes)) = some (some (.agg #[(.int .i64 0), (.slice none 0 0)]), 2, 32) := by kernel_rfl
structure S25 where
  f0 : Int
  f1 : (List Int)
def z25 : S25 := ⟨(0 : Int), ([] : List Int)⟩
def k25 : Kd S25 := Kd.iso (Kd.pair (Kd.int .i64) (Kd.slice 5 (Kd.int .u8))) (fun x : S25 => (x.f0, x.f1))
theorem k25_open {w : World} {x : S25} {cs : List Value} (h : k25.K w x cs) : ∃ A1 c1, cs = [.int .i64 x.f0, .slice A1 x.f1.length c1] ∧ x.f1.length ≤ c1 ∧ (Kd.int .u8).C w A1 x.f1.length x.f1 := by
  obtain ⟨_, _, rfl, rfl, ⟨A1, c1, rfl, l1, g1⟩⟩ := h
  exact ⟨A1, c1, rfl, l1, g1⟩
theorem k25_mk (w : World) (x : S25) {A1 : Option Addr} {c1 : Nat} (l1 : x.f1.length ≤ c1) (g1 : (Kd.int .u8).C w A1 x.f1.length x.f1) : k25.K w x [.int .i64 x.f0, .slice A1 x.f1.length c1] := ⟨[.int .i64 x.f0], [.slice A1 x.f1.length c1], rfl, rfl, ⟨A1, c1, rfl, l1, g1⟩⟩
theorem k25_mkM (w : World) (base : Nat) (ok : Nat → Prop) (x : S25) {v1 : Value} (g1 : (Kd.int .u8).R 5 w base ok v1 x.f1) : k25.M w base ok x [.int .i64 x.f0, v1] := ⟨[.int .i64 x.f0], [v1], rfl, rfl, ⟨v1, rfl, g1⟩⟩
theorem k25_openF {W : World} {ok : Nat → Prop} {x : S25} {cs : List Value} (h : Kd.FK k25 W ok x cs) : ∃ A1 c1, cs = [.int .i64 x.f0, .slice A1 x.f1.length c1] ∧ x.f1.length ≤ c1 ∧ Kd.F (Kd.int .u8) W ok A1 x.f1.length x.f1 := by
  obtain ⟨A1, c1, rfl, l1, _⟩ := k25_open (Kd.FK_now h)
  exact ⟨A1, c1, rfl, l1, (fun W' hW => by obtain ⟨A1_, c1_, he, l1_, g1_⟩ := k25_open (h W' hW); injection (Option.some.inj (show some (Value.slice A1 x.f1.length c1) = some (Value.slice A1_ x.f1.length c1_) from congrArg (fun l => l[1]?) he)) with ha_ _ _; rw [ha_]; exact g1_)⟩
theorem k25_mkF (W : World) (ok : Nat → Prop) (x : S25) {A1 : Option Addr} {c1 : Nat} (l1 : x.f1.length ≤ c1) (g1 : Kd.F (Kd.int .u8) W ok A1 x.f1.length x.f1) : Kd.FK k25 W ok x [.int .i64 x.f0, .slice A1 x.f1.length c1] := fun W2 hW => k25_mk W2 x l1 (g1 W2 hW)
def rd_T25 (xs : List S25) (i : Int) : S25 := xs.getD i.toNat z25
theorem at_T25 {w : World} {A : Option Addr} {n : Nat} {xs : List S25} (h : Kd.C k25 w A n xs) (i : Int) (h0 : 0 ≤ i) (h1 : i < n) : ∃ ad A1 c1, A = some ad ∧ w.cell? (ad.add (i.toNat * 2)) = some (.int .i64 (rd_T25 xs i).f0) ∧ w.cell? ⟨(ad.add (i.toNat * 2)).block, (ad.add (i.toNat * 2)).off + 1, none⟩ = some (.slice A1 (rd_T25 xs i).f1.length c1) ∧ (rd_T25 xs i).f1.length ≤ c1 ∧ (Kd.int .u8).C w A1 (rd_T25 xs i).f1.length (rd_T25 xs i).f1 := by
  obtain ⟨ad, c, e, _, hK, hc0⟩ := Kd.C_get h z25 i h0 h1
  have hc : ∀ j u, c[j]? = some u → w.cell? (ad.add (i.toNat * 2 + j)) = some u := hc0
  obtain ⟨A1, c1, rfl, l1, g1⟩ := k25_open hK
  exact ⟨ad, A1, c1, e, hc 0 _ rfl, by rw [← add_field _ _ 1 (by omega)]; exact hc 1 _ rfl, l1, g1⟩
end Go.Proofs.YtknlbeojdmeljaaDoor.P
namespace Go.Proofs.YtknlbeojdmeljaaDoor.H
open Go.RowKit Go.Proofs.YtknlbeojdmeljaaDoorW.PrintWords
set_option linter.unusedVariables false
set_option linter.unusedSimpArgs false
theorem below_setCells {B : Nat} {a : World} (b : Nat) : ∀ (vs : List Value) (o : Nat) (w : World), Below B a w → B ≤ b → Below B a (w.setCells b o vs)
  | [], _, _, h, _ => h
  | v :: r, o, w, h, hb => below_setCells b r (o + 1) _ (h.setCell (p := ⟨b, o, none⟩) hb v) hb
theorem size_setCells (b : Nat) : ∀ (vs : List Value) (o : Nat) (w : World), (w.setCells b o vs).heap.size = w.heap.size
  | [], _, _ => rfl
  | v :: r, o, w => by rw [World.setCells, size_setCells b r, World.size_setCell]
theorem heap_setCells_other (b k : Nat) (hk : k ≠ b) : ∀ (vs : List Value) (o : Nat) (w : World), (w.setCells b o vs).heap[k]? = w.heap[k]?
  | [], _, _ => rfl
  | v :: r, o, w => by rw [World.setCells, heap_setCells_other b k hk r]; exact Below.heap_setCell w ⟨b, o, none⟩ v k hk
/-- the block's cells after the store, whole -/
theorem heap_setCells_at (b : Nat) (t : TypeId) : ∀ (vs : List Value) (o : Nat) (w : World) (C : Array Value), w.heap[b]? = some (.cells C t (0, 0)) → o + vs.length ≤ C.size →
    (w.setCells b o vs).heap[b]? = some (.cells (C.toList.take o ++ vs ++ C.toList.drop (o + vs.length)).toArray t (0, 0))
  | [], o, w, C, h, hl => by
    rw [World.setCells, h]
    simp
  | v :: r, o, w, C, h, hl => by
    have h1 := heap_setCell_same w b o C t v h
    simp only [List.length_cons] at hl
    rw [World.setCells, heap_setCells_at b t r (o + 1) _ _ h1 (by simp; omega)]
    congr 3
    simp only [Array.toList_setIfInBounds, List.length_cons]
    rw [List.take_set, List.drop_set_of_lt (by omega)]
    rw [show o + 1 + r.length = o + (r.length + 1) by omega]
    congr 1
    have hlen : o < C.toList.length := by simp; omega
    rw [List.take_add_one, List.getElem?_eq_getElem hlen]
    simp only [Option.toList_some]
    have hmin : min o C.toList.length = o := Nat.min_eq_left (Nat.le_of_lt hlen)
    simp only [List.set_append, List.length_take, hmin, Nat.lt_irrefl, if_false, Nat.sub_self, List.set_cons_zero, List.append_assoc, List.singleton_append]
theorem blk_new {w : World} {o : Obj} {n : Nat} (h : n = w.heap.size) : (w.alloc o).heap[n]? = some o := by subst h; exact heap_alloc_new _ _
/-- A whole row is stored into its block: the world behind it is told by its blocks. -/
theorem setCells_row {w : World} {g : Nat} {C : Array Value} {t : TypeId} (hb : w.heap[g]? = some (.cells C t (0, 0))) (vs : List Value) (hs : C.size = vs.length) :
    (w.setCells g 0 vs).heap[g]? = some (.cells vs.toArray t (0, 0)) := by
  rw [heap_setCells_at g t vs 0 w C hb (by omega)]
  simp [List.drop_eq_nil_of_le (show C.toList.length ≤ vs.length by simp; omega)]
theorem there_of_row {w : World} {g : Nat} {C : Array Value} {t : TypeId} (hb : w.heap[g]? = some (.cells C t (0, 0))) (o n : Nat) (h : o + n ≤ C.size) : w.there g o n := fun j hj => by
  refine ⟨?_, frozen_of_row w g _ C t hb⟩
  rw [cell_of_row w g _ C t (0, 0) hb]
  simp; omega
theorem rangeAt_of_row {w : World} {g : Nat} {C : Array Value} {t : TypeId} (hb : w.heap[g]? = some (.cells C t (0, 0))) (o : Nat) (cs : List Value) (h : ∀ j, j < cs.length → C[o + j]? = cs[j]?) : w.rangeAt g o cs := fun j v hv => by
  have hj : j < cs.length := (List.getElem?_eq_some_iff.1 hv).1
  rw [cell_of_row w g _ C t (0, 0) hb, h j hj, hv]
section
variable {P : Program} {ops : Array Oper} {rest : List Oper} {op : Oper} {a : Act} {w : World} {Q : Exit → Act → World → Prop}
theorem wpList_store_row (hgd : op.guard = none) (ty : TypeId) (x y : Operand) (ho : op.op = .store ty x y)
    (g : Nat) (cells : List Value) (C : Array Value) (t : TypeId) (hx : a.eval x = .pointer (some ⟨g, 0, none⟩)) (hy : a.eval y = .agg cells.toArray)
    (hb : w.heap[g]? = some (.cells C t (0, 0))) (hs : C.size = cells.length) (hi : (P.info? ty).map (·.size) = some cells.length) (h1 : ∀ v ∈ cells, v.oneCell' = true)
    (h : ∀ w1 : World, w1.heap[g]? = some (.cells cells.toArray t (0, 0)) → (∀ k, k ≠ g → w1.heap[k]? = w.heap[k]?) → w1.heap.size = w.heap.size → (∀ (B : Nat) (w0 : World), B ≤ g → Below B w0 w → Below B w0 w1) → wpList P ops Q rest (a.put op.dst undef) w1) : wpList P ops Q (op :: rest) a w := by
  refine wpList_store_mid hgd ty x y ho g 0 cells.toArray hx hy (there_of_row hb 0 _ (by simp [hs])) (by simpa using hi) (all_oneCell_toArray h1) ?_
  exact h _ (setCells_row hb cells hs) (fun k hk => heap_setCells_other g k hk _ _ _) (size_setCells _ _ _ _) (fun B w0 hB h0 => below_setCells _ _ _ _ h0 hB)
end
theorem bys_one (d : List Int) : ∀ v ∈ d.map (Value.int .u8), v.oneCell' = true := by
  intro v hv
  obtain ⟨x, _, rfl⟩ := List.mem_map.1 hv
  rfl
theorem eq_one (m : Int) (d : List Int) : ∀ v ∈ Value.int .i64 m :: d.map (Value.int .u8), v.oneCell' = true := by
  intro v hv
  rcases List.mem_cons.1 hv with rfl | hv
  · rfl
  · exact bys_one d v hv
theorem size53 : (Tryd.prog.info? 76).map (·.size) = some 17 := by kernel_rfl
theorem size51 : (Tryd.prog.info? 74).map (·.size) = some 16 := by kernel_rfl
end Go.Proofs.YtknlbeojdmeljaaDoor.H
namespace Go.Proofs.YtknlbeojdmeljaaDoor.H
open Go.RowKit Go.Proofs.YtknlbeojdmeljaaDoorW.PrintWords Go.Proofs.YtknlbeojdmeljaaDoor.P
set_option linter.unusedVariables false
set_option linter.unusedSimpArgs false
/-- the leading bit of a mask -/
def lead (m : Nat) : Nat := 2 ^ Lib.bitLen m / 2
theorem bitLen16 (m : Nat) (hm : m < 65536) : Lib.bitLen m ≤ 16 := Lib.bitLen_le m 16 (by omega) (by omega)
theorem lead_arith (m : Nat) (hm : m < 65536) : wrap64 (2 ^ min (Lib.bitLen m) 64) / 2 = (lead m : Int) := by
  have h := bitLen16 m hm
  have h2 : 2 ^ Lib.bitLen m ≤ 2 ^ 16 := Nat.pow_le_pow_right (by omega) h
  have e : min (Lib.bitLen m) 64 = Lib.bitLen m := by omega
  rw [e]
  have e2 : ((2 : Int) ^ Lib.bitLen m) = ((2 ^ Lib.bitLen m : Nat) : Int) := by simp
  rw [e2]
  unfold lead
  generalize 2 ^ Lib.bitLen m = x at *
  unfold wrap64
  omega
set_option maxHeartbeats 400000 in
theorem leading_calls (m : Nat) (hm : m < 65536) (D : List Value) (w : World) :
    Calls Tryd.prog 50 #[.agg (.int .i64 (m : Int) :: D).toArray] w fun e w' => e = .returned (.int .i64 (lead m : Int)) ∧ Below w.heap.size w w' := by
  have H := Lib.hid (lead_arith m hm)
  go_enter Tryd.func50, Tryd.ntmps50
  go_wp2_with (first | (go_at_call 62; refine (Tryd.bits_Len _ _ (by omega) (by omega)).mono ?_; rintro e w' ⟨rfl, rfl⟩))
  go_ret
  exact ⟨by rw [H.out]; rfl, (Below.refl _ _).alloc (Nat.le_refl _) _⟩
def bys (d : List Int) : List Value := d.map (Value.int .u8)
theorem bys_len (d : List Int) : (bys d).length = d.length := by simp [bys]
theorem bys_at (d : List Int) (k : Nat) (h : k < d.length) : (bys d).toArray[k]? = some (.int .u8 (d.getD k 0)) := by
  simp [bys, h]
def xorB (a b : Int) : Int := Go.bits .xor .u8 a b
def xorD (a b : List Int) : List Int := List.zipWith xorB a b
/-- after k bytes -/
def mixd (a b : List Int) (k : Nat) : List Int := xorD (a.take k) (b.take k) ++ a.drop k
theorem mixd_zero (a b : List Int) : mixd a b 0 = a := by simp [mixd, xorD]
theorem mixd_len (a b : List Int) (k : Nat) (ha : a.length = 16) (hb : b.length = 16) : (mixd a b k).length = 16 := by
  simp [mixd, xorD, ha, hb]; omega
theorem mixd_all (a b : List Int) (ha : a.length = 16) (hb : b.length = 16) : mixd a b 16 = xorD a b := by
  simp [mixd, List.take_of_length_le (show a.length ≤ 16 by omega), List.take_of_length_le (show b.length ≤ 16 by omega), List.drop_eq_nil_of_le (show a.length ≤ 16 by omega)]
theorem mixd_at (a b : List Int) (k : Nat) (ha : a.length = 16) (hb : b.length = 16) (hk : k < 16) : (mixd a b k).getD k 0 = a.getD k 0 := by
  have h1 : (xorD (a.take k) (b.take k)).length = k := by simp [xorD, ha, hb]; omega
  simp [mixd, List.getElem?_append, h1]
theorem mixd_set (a b : List Int) (k : Nat) (ha : a.length = 16) (hb : b.length = 16) (hk : k < 16) :
    (mixd a b k).set k (xorB (a.getD k 0) (b.getD k 0)) = mixd a b (k + 1) := by
  have h1 : (xorD (a.take k) (b.take k)).length = k := by simp [xorD, ha, hb]; omega
  unfold mixd
  rw [List.set_append]
  rw [if_neg (by omega), h1, Nat.sub_self]
  have ea : a.take (k + 1) = a.take k ++ [a.getD k 0] := by rw [List.take_add_one]; simp [show k < a.length by omega]
  have eb : b.take (k + 1) = b.take k ++ [b.getD k 0] := by rw [List.take_add_one]; simp [show k < b.length by omega]
  have ed : a.drop k = a.getD k 0 :: a.drop (k + 1) := by rw [List.drop_eq_getElem_cons (by omega)]; simp [show k < a.length by omega]
  rw [ed, ea, eb]
  unfold xorD
  rw [List.zipWith_append (by simp [ha, hb])]
  simp
set_option maxRecDepth 100000 in
set_option maxHeartbeats 1000000 in
/-- b.plus(c) -/
theorem plus_calls (a b : List Int) (ha : a.length = 16) (hb : b.length = 16) (w : World) :
    Calls Tryd.prog 51 #[.agg (bys a).toArray, .agg (bys b).toArray] w fun e w' => e = .returned (.agg (bys (xorD a b)).toArray) ∧ Below w.heap.size w w' := by
  go_enter Tryd.func51, Tryd.ntmps51
  go_wp2
  go_loopw [5, 6] (fun _ i wr => ∃ k : Nat, k ≤ 16 ∧ i = .int .i64 k ∧ wr.heap[w.heap.size]? = some (.cells (bys (mixd a b k)).toArray 74 (0, 0)) ∧ wr.heap[w.heap.size + 1]? = some (.cells (bys b).toArray 74 (0, 0)) ∧ (∃ c, wr.heap[w.heap.size + 1 + 1]? = some (.cells c 74 (0, 0)) ∧ c.size = 16) ∧ Below w.heap.size w wr)
    (fun _ i _ => 16 - (intOf i).toNat)
  case atStart =>
    refine ⟨0, by omega, rfl, ?_, ?_, ⟨_, blk_new (by simp), by rfl⟩, ((Below.refl _ _).alloc (Nat.le_refl _) _).alloc (by simp) _ |>.alloc (by simp; omega) _⟩
    · rw [mixd_zero]
      rw [Below.heap_alloc _ _ _ (by simp; omega), Below.heap_alloc _ _ _ (by simp)]
      exact blk_new (by simp)
    · rw [Below.heap_alloc _ _ _ (by simp)]
      exact blk_new (by simp)
  case round =>
    obtain ⟨k, hk, rfl, h1, h2, h3, hB⟩ := hrel
    by_cases hlt : k < 16
    · have c1 : wr.cell? ⟨w.heap.size, k, none⟩ = some (.int .u8 (a.getD k 0)) := by
        rw [cell_of_row wr _ k _ 74 (0, 0) h1, bys_at _ _ (by rw [mixd_len a b k ha hb]; exact hlt), mixd_at a b k ha hb hlt]
      have c2 : wr.cell? ⟨w.heap.size + 1, k, none⟩ = some (.int .u8 (b.getD k 0)) := by
        rw [cell_of_row wr _ k _ 74 (0, 0) h2, bys_at _ _ (by omega)]
      have f1 : wr.frozen? ⟨w.heap.size, k, none⟩ = false := frozen_of_row wr _ k _ 74 h1
      have h4 : (wr.setCell ⟨w.heap.size, k, none⟩ (.int .u8 (xorB (a.getD k 0) (b.getD k 0)))).heap[w.heap.size]? = some (.cells (bys (mixd a b (k + 1))).toArray 74 (0, 0)) := by
        rw [heap_setCell_same wr _ k _ 74 _ h1, ← mixd_set a b k ha hb hlt]
        simp [bys]
      have h5 : (wr.setCell ⟨w.heap.size, k, none⟩ (.int .u8 (xorB (a.getD k 0) (b.getD k 0)))).heap[w.heap.size + 1]? = some (.cells (bys b).toArray 74 (0, 0)) := by
        rw [Below.heap_setCell wr _ _ _ (by simp)]; exact h2
      have h6 : (∃ c, (wr.setCell ⟨w.heap.size, k, none⟩ (.int .u8 (xorB (a.getD k 0) (b.getD k 0)))).heap[w.heap.size + 1 + 1]? = some (.cells c 74 (0, 0)) ∧ c.size = 16) := by
        obtain ⟨c, hc, hs⟩ := h3
        exact ⟨c, by rw [Below.heap_setCell wr _ _ _ (by simp; omega)]; exact hc, hs⟩
      have h7 := hB.setCell (p := ⟨w.heap.size, k, none⟩) (Nat.le_refl _) (.int .u8 (xorB (a.getD k 0) (b.getD k 0)))
      obtain ⟨x, hx⟩ : ∃ x, x = a.getD k 0 := ⟨_, rfl⟩
      obtain ⟨y, hy⟩ : ∃ y, y = b.getD k 0 := ⟨_, rfl⟩
      rw [← hx] at c1 h4 h5 h6 h7
      rw [← hy] at c2 h4 h5 h6 h7
      clear h1 h2 h3 hx hy hB
      have H4 := Lib.hid h4; clear h4
      have H5 := Lib.hid h5; clear h5
      have H6 := Lib.hid h6; clear h6
      have H7 := Lib.hid h7; clear h7
      go_wp2
      go_region
      all_goals go_wp2
      all_goals go_roundw
      case rel => exact ⟨k + 1, by omega, by go_num, H4.out, H5.out, H6.out, H7.out.drew⟩
      case measure => simp [intOf]; omega
    · obtain rfl : k = 16 := by omega
      obtain ⟨c, h3, hc⟩ := h3
      rw [mixd_all a b ha hb] at h1
      have hl : (xorD a b).length = 16 := by simp [xorD, ha, hb]
      go_wp2_with (first
        | (refine wpList_load_row rfl 74 _ rfl w.heap.size rfl 74 _ (0, 0) _ h1 Tryd.underlying74 rfl (by rw [size51]; simp [bys, hl]) ?_)
        | (refine wpList_store_row rfl 74 _ _ rfl (w.heap.size + 1 + 1) (bys (xorD a b)) c 74 rfl rfl h3 (by rw [bys_len, hl]; exact hc) (by rw [size51, bys_len, hl]) (bys_one _) ?_; intro w1 g1 g2 g3 g4))
      refine bodyPost_ret (results_cell_row rfl _ _ (w.heap.size + 1 + 1) 74 (bys (xorD a b)).toArray (0, 0) _ rfl g1 Tryd.underlying74 rfl (by rw [size51]; simp [bys, hl])) rfl ?_
      exact ⟨rfl, g4 _ _ (by omega) hB⟩
end Go.Proofs.YtknlbeojdmeljaaDoor.H
namespace Go.Proofs.YtknlbeojdmeljaaDoor.H
open Go.RowKit Go.Proofs.YtknlbeojdmeljaaDoorW.PrintWords Go.Proofs.YtknlbeojdmeljaaDoor.P
set_option linter.unusedVariables false
set_option linter.unusedSimpArgs false
theorem elem5 : (Tryd.prog.info? 5).map (·.size) = some 1 := by kernel_rfl
/-- the blocks below the new row, behind the copy -/
theorem row_aux (m : Int) (D : List Value) (w w' : World)
    (hb : Below (w.heap.size + 1 + 1) (((w.alloc (.cells (.int .i64 m :: D).toArray 76)).alloc (.cells #[.int .i64 0, .slice none 0 0] 52)).alloc (.cells (Array.replicate 16 (.int .u8 0)) 5)) w') :
    w'.cell? ⟨w.heap.size, 0, none⟩ = some (.int .i64 m) ∧ w'.cell? ⟨w.heap.size + 1, 0, none⟩ = some (.int .i64 0) ∧ w'.cell? ⟨w.heap.size + 1, 1, none⟩ = some (.slice none 0 0) ∧
      w'.frozen? ⟨w.heap.size + 1, 0, none⟩ = false ∧ w'.frozen? ⟨w.heap.size + 1, 1, none⟩ = false ∧ w.heap.size + 1 + 1 + 1 ≤ w'.heap.size := by
  have g0 : w'.heap[w.heap.size]? = some (.cells (.int .i64 m :: D).toArray 76 (0, 0)) := by
    rw [hb.block _ (by omega), Below.heap_alloc _ _ _ (by simp; omega), Below.heap_alloc _ _ _ (by simp)]; exact blk_new (by simp)
  have g1 : w'.heap[w.heap.size + 1]? = some (.cells #[.int .i64 0, .slice none 0 0] 52 (0, 0)) := by
    rw [hb.block _ (by omega), Below.heap_alloc _ _ _ (by simp)]; exact blk_new (by simp)
  have h3 := hb.size
  simp at h3
  exact ⟨(cell_of_row w' _ 0 _ 76 (0, 0) g0).trans (by simp), (cell_of_row w' _ 0 _ 52 (0, 0) g1).trans rfl, (cell_of_row w' _ 1 _ 52 (0, 0) g1).trans rfl, frozen_of_row w' _ 0 _ 52 g1, frozen_of_row w' _ 1 _ 52 g1, by omega⟩
set_option maxRecDepth 100000 in
set_option maxHeartbeats 1000000 in
/-- e.row() -/
theorem row_calls (m : Int) (d : List Int) (hd : d.length = 16) (w : World) :
    Calls Tryd.prog 49 #[.agg (.int .i64 m :: bys d).toArray] w fun e w' => ∃ g, w.heap.size ≤ g ∧ e = .returned (.agg #[.int .i64 m, .slice (some ⟨g, 0, none⟩) 16 16]) ∧ w'.heap[g]? = some (.cells (bys d).toArray 5 (0, 0)) ∧ Below w.heap.size w w' := by
  have hmk : ∀ w : World, (Instr.makeSlice 22 (.int .i64 16) (.int .i64 16)).run Tryd.prog w = .ok (.slice (some ⟨w.heap.size, 0, none⟩) 16 16) (w.alloc (.cells (Array.replicate 16 (.int .u8 0)) 5)) := fun w => by
    kernel_rfl
  obtain ⟨D, hD⟩ : ∃ D, D = bys d := ⟨_, rfl⟩
  have hDl : D.length = 16 := by rw [hD, bys_len, hd]
  have hD1 : ∀ v ∈ D, v.oneCell' = true := by rw [hD]; exact bys_one d
  rw [← hD]
  have HD := Lib.hid hDl
  clear hDl
  have HDe := Lib.hid hD
  clear hD
  go_enter Tryd.func49, Tryd.ntmps49
  go_wp2_with (first
    | (refine wpList_copy_splice rfl (.tmp 5) (.tmp 7) 22 22 rfl 5 Tryd.underlying22 elem5 _ _ 16 16 16 16 rfl rfl (w.heap.size + 1 + 1) 0 (List.replicate 16 (.int .u8 0)) 5 ?hg D ?hn ?hpos ?hfit hD1 (w.heap.size + 1 + 1) _ (Below.refl _ _) (Nat.le_refl _) ?_; rotate_right; intro w' hg' hb'; obtain ⟨k0, k1, k2, k3, k4, k5⟩ := row_aux m D w w' hb'; have Hb := Lib.hid hb'; clear hb'))
  case hg => exact blk_new (by simp)
  case hn => rw [HD.out]; rfl
  case hfit => rw [HD.out]; simp
  case hpos =>
    intro _ j v hv
    simpa [Nat.add_comm 1 j] using hv
  have hsz := k5
  refine bodyPost_ret (v := .agg #[.int .i64 m, .slice (some ⟨w.heap.size + 1 + 1, 0, none⟩) 16 16]) (by simp [results, Tryd.results49, go_sem, k1, k2, k3, k4]) rfl ?_
  refine ⟨w.heap.size + 1 + 1, by omega, rfl, ?_, ?_⟩
  · rw [Below.heap_setCell _ _ _ _ (by simp), Below.heap_setCell _ _ _ _ (by simp), hg'.out]
    simp [splice, HD.out]
  · exact ((((((Below.refl _ w).alloc (Nat.le_refl _) _).alloc (by simp) _).alloc (by simp; omega) _).trans (Hb.out.mono (by omega))).setCell (by simp) _).setCell (by simp) _
end Go.Proofs.YtknlbeojdmeljaaDoor.H
namespace Go.Proofs.YtknlbeojdmeljaaDoor.H
open Go.RowKit Go.Proofs.YtknlbeojdmeljaaDoorW.PrintWords Go.Proofs.YtknlbeojdmeljaaDoorW.PrintLast
set_option linter.unusedVariables false
set_option linter.unusedSimpArgs false
section
variable {P : Program} {l0 n : Nat} {ops : Array Oper} {Q : Exit → Act → World → Prop}
theorem calls_round {f : FuncId} {args : Array Value} {w : World} {R : Ending → World → Prop} (h : Calls P f args w R) : CallsIn (Fence.wide.inRound l0) n P f args w R :=
  CallsIn.inRound l0 (callsIn_wide.2 h)
theorem rows_round {row : String} {args : Array Value} {w : World} {R : Value → World → Prop} (h : Rows P row args w R) : RowsIn (Fence.wide.inRound l0) n P row args w R := fun c cs _ => by
  obtain ⟨v, w', r, s⟩ := h c cs
  exact ⟨v, w', r, by rw [fenced_inRound]; exact stepsIn_wide.2 s⟩
theorem upon_round {o : Oper} {a : Act} {K K' : Act → World → Prop} (hK : ∀ a w, K a w → K' a w) {r : Result Next} (h : o.upon P a K Q r) : o.uponIn (Fence.wide.inRound l0) n P a K' Q r := by
  cases r with
  | ok v w =>
    cases v with
    | value v => exact hK _ _ h
    | skip => exact hK _ _ h
    | defer d => exact hK _ _ h
    | enter f args =>
      refine ⟨fun hd => by simp [Fence.wide] at hd, calls_round (Calls.mono h ?_)⟩
      intro e w' he
      cases e with
      | returned v => exact hK _ _ he
      | panicked c => exact he
      | outgrown => exact he
    | row r args => exact ⟨fun hd => by simp [Fence.wide] at hd, rows_round (Rows.mono h fun v w' hv => hK _ _ hv)⟩
    | round l f tmps a b => exact h.elim
    | _ => exact h
  | halt h' w =>
    cases h' <;> exact h
theorem op_round {o : Oper} {a : Act} {w : World} {K K' : Act → World → Prop} (hnd : ∀ c, o.op ≠ .defer c) (hK : ∀ a w, K a w → K' a w) (h : o.wp P a w K Q) : o.wpIn (Fence.wide.inRound l0) n P a w K' Q :=
  ⟨fun _ _ => trivial, by rw [Oper.semAt_eq _ _ _ hnd]; exact upon_round hK h⟩
theorem wpOp_round (hout : ¬ LetsOut Q) {i : Nat} {a : Act} {w : World} {K K' : Act → World → Prop} (hnd : ∀ (j : Nat) (o : Oper) c, ops[j]? = some o → o.op ≠ .defer c) (hK : ∀ a w, K a w → K' a w) (h : wpOp P ops Q i K a w) : wpOpIn (Fence.wide.inRound l0) n P ops Q i K' a w := by
  unfold wpOp at h
  unfold wpOpIn
  cases hi : ops[i]? with
  | none => simp only [hi] at h ⊢; exact hK _ _ h
  | some o =>
    simp only [hi] at h ⊢
    by_cases hw : Region.wanted o (yielded ops a.tmps) = true
    · rw [if_pos hw] at h ⊢
      rcases h with h | h
      · exact op_round (fun c => hnd i o c hi) hK h
      · exact absurd h.2 hout
    · rw [if_neg hw] at h ⊢
      exact ⟨fun _ _ => trivial, hK _ _ h⟩
theorem any_round (hout : ¬ LetsOut Q) {md : Region.Mode} (hnd : ∀ (j : Nat) (o : Oper) c, ops[j]? = some o → o.op ≠ .defer c) : ∀ (fuel : Nat) (listed : Array Bool) (a : Act) (w : World), wpAny P md ops Q fuel listed a w → wpAnyIn (Fence.wide.inRound l0) n P md ops Q fuel listed a w
  | 0, _, _, _, h => h
  | fuel + 1, listed, a, w, h => ⟨h.1, fun i hi => wpOp_round hout hnd (fun a w hh => any_round hout hnd fuel _ a w hh) (h.2 i hi)⟩
def noDefer (ops : Array Oper) : Bool := ops.toList.all fun o => match o.op with | .defer _ => false | _ => true
theorem noDefer_spec (h : noDefer ops = true) : ∀ (j : Nat) (o : Oper) c, ops[j]? = some o → o.op ≠ .defer c := fun j o c hj hc => by
  unfold noDefer at h
  rw [List.all_eq_true] at h
  have := h o (by simpa using Array.mem_of_getElem? hj)
  rw [hc] at this
  cases this
/-- A region that draws its order, in a round. -/
theorem start_in {id m : Nat} {a : Act} {w : World} {S : World → Prop} {ds : List Nat} (l : Array Bool) (hm : P.follows .mixedOrders = true) (hnd : noDefer ops = true) (hout : ¬ LetsOut Q) (hn : ops.size = m) (hl : Array.replicate m false = l) (hS : S w.drew)
    (h : S w.drew → wpAnyLast P .any ops Q S ds m l a w.drew) : (Code.region id ops true).wpIn (Fence.wide.inRound l0) n P Q a w := by
  subst hn
  subst hl
  exact wpIn_region_any hm (any_round hout (noDefer_spec hnd) _ _ _ _ (wpAny_of_last _ _ _ _ (h hS)))
theorem ops_round (hout : ¬ LetsOut Q) (hnd : ∀ (j : Nat) (o : Oper) c, ops[j]? = some o → o.op ≠ .defer c) : ∀ (l : List Nat) (a : Act) (w : World), wpOps P ops Q l a w → wpOpsIn (Fence.wide.inRound l0) n P ops Q l a w
  | [], _, _, h => h
  | i :: r, a, w, h => by
    rw [wpOpsIn_cons]
    rw [wpOps_cons] at h
    exact wpOp_round hout hnd (fun a w hh => ops_round hout hnd r a w hh) h
/-- A plain region, in a round. -/
theorem plain_in {id : Nat} {l : List Oper} {a : Act} {w : World} (hnd : noDefer l.toArray = true) (hout : ¬ LetsOut Q) (h : wpList P l.toArray Q l a w) : (Code.region id l.toArray false).wpIn (Fence.wide.inRound l0) n P Q a w :=
  wpIn_region (ops_round hout (noDefer_spec hnd) _ _ _ (by
    rw [List.range_eq_range']
    have := wpOps_eq_wpList (P := P) (ops := l.toArray) (Q := Q) l 0 (by simp)
    simp only [List.size_toArray]
    rw [this]
    exact h))
end
end Go.Proofs.YtknlbeojdmeljaaDoor.H
namespace Go.Proofs.YtknlbeojdmeljaaDoor.H
open Go.RowKit Go.Proofs.YtknlbeojdmeljaaDoorW.PrintWords Go.Proofs.YtknlbeojdmeljaaDoorW.PrintLast
set_option linter.unusedVariables false
section
variable {P : Program} {ops : Array Oper} {op oi : Oper} {a : Act} {w : World} {K : Act → World → Prop} {Q : Exit → Act → World → Prop}
/-- A whole row is stored, in a region that draws its order. -/
theorem skip_row (hw : Region.wanted oi (yielded ops a.tmps) = true) (hN : oi.dst = none) (ty : TypeId) (x y : Operand) (ho : oi.op = .store ty x y)
    (g : Nat) (cells : List Value) (C : Array Value) (t : TypeId) (hx : a.eval x = .pointer (some ⟨g, 0, none⟩)) (hy : a.eval y = .agg cells.toArray)
    (hb : w.heap[g]? = some (.cells C t (0, 0))) (hs : C.size = cells.length) (hi : (P.info? ty).map (·.size) = some cells.length) (h1 : ∀ v ∈ cells, v.oneCell' = true)
    (h : ∀ w1 : World, w1.heap[g]? = some (.cells cells.toArray t (0, 0)) → (∀ k, k ≠ g → w1.heap[k]? = w.heap[k]?) → w1.heap.size = w.heap.size → (∀ (B : Nat) (w0 : World), B ≤ g → Below B w0 w → Below B w0 w1) → K a w1) :
    if Region.wanted oi (yielded ops a.tmps) = true then Oper.wp P oi a w K Q else K (a.put none undef) w := by
  refine skip_ (w1 := w.setCells g 0 cells.toArray.toList) hw hN ?_ ?_
  · unfold execOp
    simp only [ho, hx, hy, Instr.storeAt, Instr.sureAddr, Sem.run_bind, Sem.run_pure, Result.andThen_ok, run_storeVar_mid w g 0 ty cells.toArray (there_of_row hb 0 _ (by simp [hs])) (by simpa using hi) (all_oneCell_toArray h1)]
  · exact h _ (setCells_row hb cells hs) (fun k hk => heap_setCells_other g k hk _ _ _) (size_setCells _ _ _ _) (fun B w0 hB h0 => below_setCells _ _ _ _ h0 hB)
/-- A whole row is read, in a region that draws its order. -/
theorem row_if {S : World → Prop} (hw : Region.wanted op (yielded ops a.tmps) = true) (ty : TypeId) (x : Operand) (ho : op.op = .load ty x)
    (g : Nat) (hx : a.eval x = .pointer (some ⟨g, 0, none⟩)) (cs : List Value) (t : TypeId) (d : TypeDesc) (hS : ∀ w, S w → w.heap[g]? = some (.cells cs.toArray t (0, 0)))
    (hu : P.underlying ty = some d) (hd : d.isRow = true) (hi : (P.info? ty).map (·.size) = some cs.length) : YieldsIf P ops S op (.agg cs.toArray) a :=
  yieldsIf_load_mid hw ty x ho g 0 hx cs d (fun w hs => rangeAt_of_row (hS w hs) 0 cs (fun j hj => by simp)) hu hd hi
end
end Go.Proofs.YtknlbeojdmeljaaDoor.H
namespace Go.Proofs.YtknlbeojdmeljaaDoor.H
open Go.RowKit Go.Proofs.YtknlbeojdmeljaaDoorW.PrintWords Go.Proofs.YtknlbeojdmeljaaDoorW.PrintLast Go.Proofs.YtknlbeojdmeljaaDoor.P
set_option linter.unusedVariables false
set_option linter.unusedSimpArgs false
def zer (n : Nat) : List Value := List.replicate n (.int .u8 0)
/-- the first 16 bytes, filled up with zeros -/
def pad16 (ds : List Int) : List Int := ds.take 16 ++ List.replicate (16 - ds.length) 0
theorem pad16_len (ds : List Int) : (pad16 ds).length = 16 := by
  simp only [pad16, List.length_append, List.length_take, List.length_replicate]
  omega
theorem pad16_of (ds : List Int) (h : ds.length = 16) : pad16 ds = ds := by
  simp [pad16, h, List.take_of_length_le (show ds.length ≤ 16 by omega)]
theorem blk_newd {w : World} {o : Obj} {n : Nat} (h : n = w.heap.size) : ((w.alloc o).drew).heap[n]? = some o := blk_new h
theorem below3d (w : World) (a b c : Obj) : Below w.heap.size w ((((w.alloc a).alloc b).alloc c).drew) := ((((Below.refl _ _).alloc (Nat.le_refl _) _).alloc (by simp) _).alloc (by simp; omega) _).drew
theorem splice16 (m : Int) (ds : List Int) : splice (Value.int .i64 m :: zer 16) 1 ((bys ds).take 16) = Value.int .i64 m :: bys (pad16 ds) := by
  have hl : ((bys ds).take 16).length = min 16 ds.length := by rw [List.length_take, bys_len]
  unfold splice
  rw [hl]
  simp only [List.take_succ_cons, List.take_zero, List.singleton_append, Nat.add_comm 1, List.drop_succ_cons, zer, List.drop_replicate]
  congr 1
  unfold pad16 bys
  rw [List.map_append, List.map_take, List.map_replicate]
  congr 2
  omega
def fineB (m : Int) (ds : List Int) : Bool := decide (1 ≤ m) && (decide (m < 65536) && decide (ds.length = 16))
theorem results_row_tmp {P : Program} {fn : Func} {p u : Tmp} {ty : TypeId} (h : fn.results = #[.cell p ty, .tmp u]) (tmps : Array Value) (w : World) (g : Nat) (t : TypeId) (cs : Array Value) (fr : Nat × Nat) (d : TypeDesc)
    (hp : tmps.getD p undef = .pointer (some ⟨g, 0, none⟩)) (hg : w.heap[g]? = some (.cells cs t fr))
    (hu : P.underlying ty = some d) (hd : (match d with | .struct _ | .array _ _ => true | _ => false) = true) (hi : (P.info? ty).map (·.size) = some cs.size) :
    (results fn tmps).run P w = .ok (.tuple #[.agg cs, tmps.getD u undef]) w := by
  have hp' : tmps[p]?.getD undef = .pointer (some ⟨g, 0, none⟩) := by simpa using hp
  simp [results, h, hp', asAddr, run_loadVar_row w g t ty cs fr d hg hu hd hi]
set_option maxRecDepth 100000 in
set_option maxHeartbeats 1000000 in
theorem formed_calls (m : Int) (A : Option Addr) (cap : Nat) (ds : List Int) (w : World) (hr : Kd.C (Kd.int .u8) w A ds.length ds) :
    Calls Tryd.prog 45 #[.agg #[.int .i64 m, .slice A ds.length cap]] w fun e w' => e = .returned (.tuple #[.agg (.int .i64 m :: bys (pad16 ds)).toArray, .bool (fineB m ds)]) ∧ Below w.heap.size w w' := by
  obtain ⟨cs, hcs⟩ : ∃ cs, cs = (bys ds).take 16 := ⟨_, rfl⟩
  have hcl : cs.length = Nat.min ds.length 16 := by rw [hcs, List.length_take, bys_len, Nat.min_comm]
  have h1 : ∀ v ∈ cs, v.oneCell' = true := fun v hv => bys_one ds v (List.mem_of_mem_take (by rw [hcs] at hv; exact hv))
  have HC := Lib.hid hcs
  have HL := Lib.hid hcl
  have hfit : 1 + cs.length ≤ (Value.int .i64 m :: zer 16).length := by
    have : Nat.min ds.length 16 ≤ 16 := Nat.min_le_right _ _
    rw [hcl]; simp only [zer, List.length_cons, List.length_replicate]; omega
  have HF := Lib.hid hfit
  have HP := Lib.hid (show ∀ W' : World, Below w.heap.size w W' → 0 < cs.length → ∃ ad, A = some ad ∧ ∀ j v, cs[j]? = some v → W'.cell? (ad.add j) = some v from by
    intro W' hb h0
    have hr2 := Kd.C_below hr hb
    obtain ⟨_, _, hh⟩ := Kd.reads_of_C (d := (0 : Int)) hr2
    have hpos : 0 < ds.length := by
      have : Nat.min ds.length 16 ≤ ds.length := Nat.min_le_left _ _
      omega
    obtain ⟨ad, e, hc⟩ := hh hpos
    refine ⟨ad, e, fun j v hv => ?_⟩
    rw [hcs, List.getElem?_take] at hv
    split at hv
    · have hj : j < (bys ds).length := (List.getElem?_eq_some_iff.1 hv).1
      rw [bys_len] at hj
      rw [hc j hj]
      have := bys_at ds j hj
      simp only [List.getElem?_toArray] at this
      rw [this] at hv
      exact hv
    · cases hv)
  clear hcs hcl hfit hr
  go_enter Tryd.func45, Tryd.ntmps45
  go_wp2_with fail
  go_region_law (refine step_copy_splice rfl (.tmp 9) (.tmp 11) 22 22 rfl 5 Tryd.underlying22 elem5 _ _ 16 16 _ _ rfl rfl (w.heap.size + 1 + 1) 1 (.int .i64 m :: zer 16) 76 (by exact blk_newd (by simp)) cs HL.out (fun h => ⟨rfl, HP.out _ (below3d _ _ _ _) h⟩) HF.out h1 (w.heap.size + 1 + 1) _ (Below.refl _ _) (Nat.le_refl _) ?_; intro w' hg' hb')
  obtain ⟨E, hE⟩ : ∃ E, E = Value.int .i64 m :: bys (pad16 ds) := ⟨_, rfl⟩
  have hE1 : w'.heap[w.heap.size + 1 + 1]? = some (.cells E.toArray 76 (0, 0)) := by
    rw [hg'.out, hE, HC.out, splice16]
  have hEl : E.length = 17 := by rw [hE, List.length_cons, bys_len, pad16_len]
  have hbx : w'.heap[w.heap.size]? = some (.cells #[.int .i64 m, .slice A ds.length cap] 52 (0, 0)) := by
    rw [hb'.block _ (by omega), heap_drew, Below.heap_alloc _ _ _ (by simp; omega), Below.heap_alloc _ _ _ (by simp)]; exact blk_new rfl
  have hrs : ∃ C, w'.heap[w.heap.size + 1]? = some (.cells C 76 (0, 0)) ∧ C.size = 17 := by
    refine ⟨_, by rw [hb'.block _ (by omega), heap_drew, Below.heap_alloc _ _ _ (by simp)]; exact blk_new (by simp), by rfl⟩
  obtain ⟨C, hC, hCs⟩ := hrs
  have k0 : w'.cell? ⟨w.heap.size, 0, none⟩ = some (.int .i64 m) := (cell_of_row w' _ 0 _ 52 (0, 0) hbx).trans rfl
  have k1 : w'.cell? ⟨w.heap.size, 1, none⟩ = some (.slice A ds.length cap) := (cell_of_row w' _ 1 _ 52 (0, 0) hbx).trans rfl
  have hsz : w.heap.size + 1 + 1 < w'.heap.size := by have := hb'.size; simp at this; omega
  have hbel : Below w.heap.size w w' := (below3d w _ _ _).trans (hb'.mono (by omega))
  have hi : (Tryd.prog.info? 76).map (·.size) = some E.length := by rw [hEl]; exact size53
  have hone : ∀ v ∈ E, v.oneCell' = true := by rw [hE]; exact eq_one m _
  have HI := Lib.hid hi
  have HB := Lib.hid hb'
  have HG := Lib.hid hg'
  have HE := Lib.hid hE
  have HEl := Lib.hid hEl
  have HE1 := Lib.hid hE1
  have HC' := Lib.hid hC
  have HBX := Lib.hid hbx
  have HCs := Lib.hid hCs
  have HBe := Lib.hid hbel
  clear hb' hg' hE hE1 hC hbx hCs hbel hi hEl
  by_cases p1 : 1 ≤ m
  · have p1' : decide (1 ≤ m) = true := by simpa using p1
    by_cases p2 : m < 65536
    · have p2' : decide (m < 65536) = true := by simpa using p2
      go_wp2_with fail
      refine start_ (n := 17) (S := (fun W => W.cell? ⟨w.heap.size, 0, none⟩ = some (.int .i64 m) ∧ W.cell? ⟨w.heap.size, 1, none⟩ = some (.slice A ds.length cap) ∧ W.heap[w.heap.size + 1 + 1]? = some (.cells E.toArray 76 (0, 0)) ∧ (∃ C, W.heap[w.heap.size + 1]? = some (.cells C 76 (0, 0)) ∧ C.size = 17) ∧ Below w.heap.size w W ∧ W.heap.size = w'.heap.size)) (ds := []) (bl 17 0) (by kernel_rfl) rfl rfl ⟨k0, k1, HE1.out, ⟨C, HC'.out, HCs.out⟩, HBe.out.drew, rfl⟩ (fun hHeld => ?_)
      refine pU 1 14 (bl 17 2) (by kernel_rfl) (h := ?_)
      refine rU 0 13 (bl 17 3) rfl (by kernel_rfl) (row_if (by rfl) 76 _ rfl (w.heap.size + 1 + 1) rfl E 76 _ (fun _ hS => hS.2.2.1) Tryd.underlying76 rfl HI.out) hHeld (h := ?_)
      refine tU 2 15 (bl 17 7) (by kernel_rfl) hHeld (hy := by rintro w' ⟨s0, s1, s2, s3, s4, s5⟩; go_simp; with_reducible rfl) (h := ?_)
      refine pU 3 16 (bl 17 15) (by kernel_rfl) (h := ?_)
      refine pU 4 17 (bl 17 31) (by kernel_rfl) (h := ?_)
      refine pU 5 18 (bl 17 63) (by kernel_rfl) (h := ?_)
      refine tU 6 19 (bl 17 127) (by kernel_rfl) hHeld (hy := by rintro w' ⟨s0, s1, s2, s3, s4, s5⟩; go_simp; with_reducible rfl) (h := ?_)
      refine pU 7 20 (bl 17 255) (by kernel_rfl) (h := ?_)
      refine pU 8 21 (bl 17 511) (by kernel_rfl) (h := ?_)
      refine pU 9 22 (bl 17 1023) (by kernel_rfl) (h := ?_)
      refine pU 10 23 (bl 17 2047) (by kernel_rfl) (h := ?_)
      refine tU 11 24 (bl 17 4095) (by kernel_rfl) hHeld (hy := by rintro w' ⟨s0, s1, s2, s3, s4, s5⟩; go_simp; with_reducible rfl) (h := ?_)
      refine pU 12 25 (bl 17 8191) (by kernel_rfl) (h := ?_)
      refine pU 13 26 (bl 17 16383) (by kernel_rfl) (h := ?_)
      refine pU 14 27 (bl 17 32767) (by kernel_rfl) (h := ?_)
      refine one_ (i := 15) (N := none) (bl 17 65535) rfl rfl (by kernel_rfl) (by decide) (fun K hK => ?_)
      obtain ⟨s0, s1, s2, ⟨C1, s3, s3'⟩, s4, s5⟩ := hHeld
      refine skip_row (by rfl) rfl 76 _ _ rfl (w.heap.size + 1) E C1 76 rfl rfl s3 (by rw [s3', HEl.out]) HI.out hone ?_
      intro w1 q1 q2 q3 q4
      have t0 := (World.cell?_of_block (w := w'.drew) (q2 w.heap.size (by omega)) : w1.cell? ⟨w.heap.size, 0, none⟩ = _).trans s0
      have t1 := (World.cell?_of_block (w := w'.drew) (q2 w.heap.size (by omega)) : w1.cell? ⟨w.heap.size, 1, none⟩ = _).trans s1
      refine hK.out _ _ ⟨t0, t1, (q2 _ (by omega)).trans s2, ⟨_, q1, by simp [HEl.out]⟩, q4 _ _ (by omega) s4, q3.trans s5⟩ (fun hHeld => ?_)
      have Q1 := Lib.hid q1
      have Q4 := Lib.hid (q4 _ _ (by omega) s4)
      clear hK K q1 q2 q3 q4 s0 s1 s2 s3 s3' s4 s5 t0 t1
      refine pU 16 3 (bl 17 131071) (by kernel_rfl) (h := ?_)
      refine done_ (by kernel_rfl) ?_
      go_wp2
      rw [HE.out] at Q1
      refine bodyPost_ret (results_row_tmp rfl _ _ (w.heap.size + 1) 76 _ (0, 0) _ rfl Q1.out Tryd.underlying76 rfl (by simp [size53, bys_len, pad16_len])) rfl ⟨?_, Q4.out⟩
      have ef : fineB m ds = ((ds.length : Int) == 16) := by simp only [fineB, p1', p2', Bool.true_and]; rw [Bool.eq_iff_iff]; simp; omega
      show Ending.returned (.tuple #[.agg (.int .i64 m :: bys (pad16 ds)).toArray, .bool ((ds.length : Int) == 16)]) = _
      rw [ef]
    · have p2' : decide (m < 65536) = false := by simpa using p2
      go_wp2_with fail
      refine start_ (n := 17) (S := (fun W => W.cell? ⟨w.heap.size, 0, none⟩ = some (.int .i64 m) ∧ W.cell? ⟨w.heap.size, 1, none⟩ = some (.slice A ds.length cap) ∧ W.heap[w.heap.size + 1 + 1]? = some (.cells E.toArray 76 (0, 0)) ∧ (∃ C, W.heap[w.heap.size + 1]? = some (.cells C 76 (0, 0)) ∧ C.size = 17) ∧ Below w.heap.size w W ∧ W.heap.size = w'.heap.size)) (ds := []) (bl 17 0) (by kernel_rfl) rfl rfl ⟨k0, k1, HE1.out, ⟨C, HC'.out, HCs.out⟩, HBe.out.drew, rfl⟩ (fun hHeld => ?_)
      refine pU 1 14 (bl 17 2) (by kernel_rfl) (h := ?_)
      refine rU 0 13 (bl 17 3) rfl (by kernel_rfl) (row_if (by rfl) 76 _ rfl (w.heap.size + 1 + 1) rfl E 76 _ (fun _ hS => hS.2.2.1) Tryd.underlying76 rfl HI.out) hHeld (h := ?_)
      refine tU 2 15 (bl 17 7) (by kernel_rfl) hHeld (hy := by rintro w' ⟨s0, s1, s2, s3, s4, s5⟩; go_simp; with_reducible rfl) (h := ?_)
      refine pU 3 16 (bl 17 15) (by kernel_rfl) (h := ?_)
      refine pU 4 17 (bl 17 31) (by kernel_rfl) (h := ?_)
      refine pU 5 18 (bl 17 63) (by kernel_rfl) (h := ?_)
      refine tU 6 19 (bl 17 127) (by kernel_rfl) hHeld (hy := by rintro w' ⟨s0, s1, s2, s3, s4, s5⟩; go_simp; with_reducible rfl) (h := ?_)
      refine pU 7 20 (bl 17 255) (by kernel_rfl) (h := ?_)
      refine pU 8 21 (bl 17 511) (by kernel_rfl) (h := ?_)
      refine pU 9 22 (bl 17 1023) (by kernel_rfl) (h := ?_)
      refine pV 10 23 (bl 17 2047) (by kernel_rfl) (h := ?_)
      refine pV 11 24 (bl 17 4095) (by kernel_rfl) (h := ?_)
      refine pV 12 25 (bl 17 8191) (by kernel_rfl) (h := ?_)
      refine pV 13 26 (bl 17 16383) (by kernel_rfl) (h := ?_)
      refine pU 14 27 (bl 17 32767) (by kernel_rfl) (h := ?_)
      refine one_ (i := 15) (N := none) (bl 17 65535) rfl rfl (by kernel_rfl) (by decide) (fun K hK => ?_)
      obtain ⟨s0, s1, s2, ⟨C1, s3, s3'⟩, s4, s5⟩ := hHeld
      refine skip_row (by rfl) rfl 76 _ _ rfl (w.heap.size + 1) E C1 76 rfl rfl s3 (by rw [s3', HEl.out]) HI.out hone ?_
      intro w1 q1 q2 q3 q4
      have t0 := (World.cell?_of_block (w := w'.drew) (q2 w.heap.size (by omega)) : w1.cell? ⟨w.heap.size, 0, none⟩ = _).trans s0
      have t1 := (World.cell?_of_block (w := w'.drew) (q2 w.heap.size (by omega)) : w1.cell? ⟨w.heap.size, 1, none⟩ = _).trans s1
      refine hK.out _ _ ⟨t0, t1, (q2 _ (by omega)).trans s2, ⟨_, q1, by simp [HEl.out]⟩, q4 _ _ (by omega) s4, q3.trans s5⟩ (fun hHeld => ?_)
      have Q1 := Lib.hid q1
      have Q4 := Lib.hid (q4 _ _ (by omega) s4)
      clear hK K q1 q2 q3 q4 s0 s1 s2 s3 s3' s4 s5 t0 t1
      refine pU 16 3 (bl 17 131071) (by kernel_rfl) (h := ?_)
      refine done_ (by kernel_rfl) ?_
      go_wp2
      rw [HE.out] at Q1
      refine bodyPost_ret (results_row_tmp rfl _ _ (w.heap.size + 1) 76 _ (0, 0) _ rfl Q1.out Tryd.underlying76 rfl (by simp [size53, bys_len, pad16_len])) rfl ⟨?_, Q4.out⟩
      have ef : fineB m ds = false := by simp only [fineB, p1', p2', Bool.true_and, Bool.false_and]
      show Ending.returned (.tuple #[.agg (.int .i64 m :: bys (pad16 ds)).toArray, .bool false]) = _
      rw [ef]
  · have p1' : decide (1 ≤ m) = false := by simpa using p1
    go_wp2_with fail
    refine start_ (n := 17) (S := (fun W => W.cell? ⟨w.heap.size, 0, none⟩ = some (.int .i64 m) ∧ W.cell? ⟨w.heap.size, 1, none⟩ = some (.slice A ds.length cap) ∧ W.heap[w.heap.size + 1 + 1]? = some (.cells E.toArray 76 (0, 0)) ∧ (∃ C, W.heap[w.heap.size + 1]? = some (.cells C 76 (0, 0)) ∧ C.size = 17) ∧ Below w.heap.size w W ∧ W.heap.size = w'.heap.size)) (ds := []) (bl 17 0) (by kernel_rfl) rfl rfl ⟨k0, k1, HE1.out, ⟨C, HC'.out, HCs.out⟩, HBe.out.drew, rfl⟩ (fun hHeld => ?_)
    refine pU 1 14 (bl 17 2) (by kernel_rfl) (h := ?_)
    refine rU 0 13 (bl 17 3) rfl (by kernel_rfl) (row_if (by rfl) 76 _ rfl (w.heap.size + 1 + 1) rfl E 76 _ (fun _ hS => hS.2.2.1) Tryd.underlying76 rfl HI.out) hHeld (h := ?_)
    refine tU 2 15 (bl 17 7) (by kernel_rfl) hHeld (hy := by rintro w' ⟨s0, s1, s2, s3, s4, s5⟩; go_simp; with_reducible rfl) (h := ?_)
    refine pU 3 16 (bl 17 15) (by kernel_rfl) (h := ?_)
    refine pU 4 17 (bl 17 31) (by kernel_rfl) (h := ?_)
    refine pV 5 18 (bl 17 63) (by kernel_rfl) (h := ?_)
    refine pV 6 19 (bl 17 127) (by kernel_rfl) (h := ?_)
    refine pV 7 20 (bl 17 255) (by kernel_rfl) (h := ?_)
    refine pU 8 21 (bl 17 511) (by kernel_rfl) (h := ?_)
    refine pU 9 22 (bl 17 1023) (by kernel_rfl) (h := ?_)
    refine pV 10 23 (bl 17 2047) (by kernel_rfl) (h := ?_)
    refine pV 11 24 (bl 17 4095) (by kernel_rfl) (h := ?_)
    refine pV 12 25 (bl 17 8191) (by kernel_rfl) (h := ?_)
    refine pV 13 26 (bl 17 16383) (by kernel_rfl) (h := ?_)
    refine pU 14 27 (bl 17 32767) (by kernel_rfl) (h := ?_)
    refine one_ (i := 15) (N := none) (bl 17 65535) rfl rfl (by kernel_rfl) (by decide) (fun K hK => ?_)
    obtain ⟨s0, s1, s2, ⟨C1, s3, s3'⟩, s4, s5⟩ := hHeld
    refine skip_row (by rfl) rfl 76 _ _ rfl (w.heap.size + 1) E C1 76 rfl rfl s3 (by rw [s3', HEl.out]) HI.out hone ?_
    intro w1 q1 q2 q3 q4
    have t0 := (World.cell?_of_block (w := w'.drew) (q2 w.heap.size (by omega)) : w1.cell? ⟨w.heap.size, 0, none⟩ = _).trans s0
    have t1 := (World.cell?_of_block (w := w'.drew) (q2 w.heap.size (by omega)) : w1.cell? ⟨w.heap.size, 1, none⟩ = _).trans s1
    refine hK.out _ _ ⟨t0, t1, (q2 _ (by omega)).trans s2, ⟨_, q1, by simp [HEl.out]⟩, q4 _ _ (by omega) s4, q3.trans s5⟩ (fun hHeld => ?_)
    have Q1 := Lib.hid q1
    have Q4 := Lib.hid (q4 _ _ (by omega) s4)
    clear hK K q1 q2 q3 q4 s0 s1 s2 s3 s3' s4 s5 t0 t1
    refine pU 16 3 (bl 17 131071) (by kernel_rfl) (h := ?_)
    refine done_ (by kernel_rfl) ?_
    go_wp2
    rw [HE.out] at Q1
    refine bodyPost_ret (results_row_tmp rfl _ _ (w.heap.size + 1) 76 _ (0, 0) _ rfl Q1.out Tryd.underlying76 rfl (by simp [size53, bys_len, pad16_len])) rfl ⟨?_, Q4.out⟩
    have ef : fineB m ds = false := by simp only [fineB, p1', Bool.false_and]
    show Ending.returned (.tuple #[.agg (.int .i64 m :: bys (pad16 ds)).toArray, .bool false]) = _
    rw [ef]
end Go.Proofs.YtknlbeojdmeljaaDoor.H
namespace Go.Proofs.YtknlbeojdmeljaaDoor.H
open Go.RowKit Go.Proofs.YtknlbeojdmeljaaDoorW.PrintWords Go.Proofs.YtknlbeojdmeljaaDoorW.PrintLast Go.Proofs.YtknlbeojdmeljaaDoor.P
set_option linter.unusedVariables false
set_option linter.unusedSimpArgs false
attribute [local go_sem] Oper.semAt_some
theorem grown_of_below {w w' : World} (h : Below w.heap.size w w') : w.grownBy w' none := ⟨h.os, h.tape, h.output, h.size, fun k hk _ => h.block k hk⟩
theorem abides_below {β : Type} {B : Nat} {J : β → World → Prop} (h : AbidesFrom B J) {s : β} {w w' : World} (hs : J s w) (hb : Below w.heap.size w w') : J s w' :=
  h s w w' none hs (grown_of_below hb) (fun r e => by cases e)
theorem wide_depth {n : Nat} : Fence.wide.depth.isSome = true → 1 ≤ n := fun h => by simp [Fence.wide] at h
/-- what the iterator hands to its round -/
def encE (x : S25) : Array Value := #[.agg (.int .i64 x.f0 :: bys (pad16 x.f1)).toArray, .bool (fineB x.f0 x.f1)]
set_option maxRecDepth 100000 in
set_option maxHeartbeats 2000000 in
theorem iter_in {α : Type} (val : α → S25) (n : Nat) (l Bs n₀ : Nat) (A : Option Addr) (cap : Nat) (zs : List α) (J Jx : List α → World → Prop) (W : World) (hn₀ : n₀ ≤ W.heap.size)
    (hJ : AbidesFrom W.heap.size J)
    (hY : ∀ pre x W, J pre W → pre.length < zs.length → YieldAt Fence.wide (n - 1) Tryd.prog l (encE (val x)) W fun e W' =>
      (e = .returned (.bool true) ∧ J (pre ++ [x]) W' ∧ Below n₀ W W') ∨ (e = .returned (.bool false) ∧ Jx (pre ++ [x]) W'))
    (hBs : W.cell? ⟨Bs, 0, none⟩ = some (.slice A zs.length cap)) (hr : ∀ W', Below n₀ W W' → Kd.C k25 W' A zs.length (zs.map val)) (h0 : J [] W) :
    CallsIn Fence.wide n Tryd.prog 61 #[.func (.yield l) #[] #[], .pointer (some ⟨Bs, 0, none⟩)] W fun e W' => (∃ v, e = .returned v) ∧
      ((∃ ys, ys = zs ∧ J ys W') ∨ (∃ pre, pre <+: zs ∧ Jx pre W')) := by
  have hro : Fence.wide.round = none := rfl
  have HY := Lib.hid hY
  have HR := Lib.hid hr
  have HJ := Lib.hid hJ
  have hm : zs.length ≤ 9223372036854775807 := by have := (hr W (Below.refl _ _)).2.1; exact this
  clear hY hr hJ
  refine callsIn_of_wp Tryd.func61 rfl trivial ?_ hro
  simp only [Tryd.ntmps61, List.size_toArray, List.length_cons, List.length_nil, Nat.reduceAdd, Nat.reduceSub, Array.replicate_succ, Array.replicate_zero, List.push_toArray, List.append_toArray, List.nil_append, List.cons_append]
  gi_wp2
  gi_loopw [7] (fun i wr => ∃ k : Nat, k ≤ zs.length ∧ i = .int .i64 k ∧ J (zs.take k) wr ∧ Below n₀ W wr)
    (fun i _ => zs.length - (intOf i).toNat)
  case atStart => exact ⟨0, Nat.zero_le _, rfl, h0, Below.refl _ _⟩
  case round =>
    obtain ⟨k, hk, rfl, hJs, hnx⟩ := hrel
    by_cases hlt : k < zs.length
    · obtain ⟨x, hx⟩ : ∃ x, x = zs[k] := ⟨_, rfl⟩
      have hrd : rd_T25 (zs.map val) (k : Int) = val x := by rw [hx]; simp [rd_T25, hlt]
      obtain ⟨ad, A1, c1, e, hc0, hc1, hle, hC1⟩ := at_T25 (HR.out wr hnx) (k : Int) (by omega) (by omega)
      rw [hrd] at hc0 hc1 hle hC1
      rw [Int.toNat_natCast] at hc0 hc1
      have htk : zs.take (k + 1) = zs.take k ++ [x] := by rw [hx]; exact List.take_succ_eq_append_getElem hlt
      have HTK := Lib.hid htk
      have hlen : (zs.take k).length < zs.length := by rw [List.length_take]; omega
      have HLE := Lib.hid hlen
      have hBel : Below wr.heap.size wr (wr.alloc (.cells #[.int .i64 (val x).f0, .slice A1 (val x).f1.length c1] 52)) := (Below.refl _ _).alloc (Nat.le_refl _) _
      have HC1 := Lib.hid (Kd.C_below hC1 hBel)
      have HBel := Lib.hid hBel
      have hnw : n₀ ≤ wr.heap.size := by have := hnx.size; omega
      have HJs := Lib.hid hJs
      have hJa : AbidesFrom wr.heap.size J := fun s A B row hs hg hr => HJ.out s A B row hs hg (fun r e => by
        obtain ⟨h1, h2⟩ := hr r e
        exact ⟨by have := hnx.size; omega, h2⟩)
      have HJa := Lib.hid hJa
      clear hx hrd htk hlen hBel hC1 hle hJs hJa
      subst e
      gi_wp2_with (refine ⟨trivial, wide_depth, ?_⟩; refine (callsIn_wide.2 (formed_calls _ _ _ _ _ HC1.out)).mono ?_; rintro e w2 ⟨rfl, hb⟩; have hB2 := HBel.out.trans (hb.mono (by simp)); obtain ⟨fn, tmps, assign, body, hy, hR⟩ := HY.out _ x w2 (abides_below HJa.out HJs.out hB2) HLE.out; simp only [encE] at hy; have HB2 := Lib.hid hB2; have HRR := Lib.hid hR; clear hb hB2 hR)
      refine ⟨wide_depth, HRR.out.mono ?_⟩
      rintro e W3 (⟨rfl, hJ3, hk3⟩ | ⟨rfl, hJx3⟩)
      · gi_wp2
        go_roundw
        case rel => exact ⟨k + 1, by omega, by go_num, by rw [HTK.out]; exact hJ3, hnx.trans ((HB2.out.mono hnw).trans hk3)⟩
        case measure => simp [intOf]; omega
      · gi_wp2
        refine bodyPost_ret (results_none rfl _ _ _) rfl ?_
        exact ⟨⟨_, rfl⟩, .inr ⟨_, by rw [← HTK.out]; exact List.take_prefix _ _, hJx3⟩⟩
    · obtain rfl : k = zs.length := by omega
      rw [List.take_length] at hJs
      gi_wp2
      go_end0
      exact ⟨⟨_, rfl⟩, .inl ⟨_, rfl, hJs⟩⟩
end Go.Proofs.YtknlbeojdmeljaaDoor.H
namespace Go.Proofs.YtknlbeojdmeljaaDoor.H
open Go.RowKit Go.Proofs.YtknlbeojdmeljaaDoorW.PrintWords Go.Proofs.YtknlbeojdmeljaaDoorW.PrintLast Go.Proofs.YtknlbeojdmeljaaDoor.P
set_option linter.unusedVariables false
set_option linter.unusedSimpArgs false
/-- equations(l): the rows in their order -/
theorem iter_stops {α : Type} (val : α → S25) (n : Nat) (Bs n₀ : Nat) (A : Option Addr) (cap : Nat) (zs : List α) (w : World) (hlt : Bs < w.heap.size) (hn₀ : n₀ ≤ w.heap.size)
    (hBs : w.cell? ⟨Bs, 0, none⟩ = some (.slice A zs.length cap)) (hr : ∀ W', Below n₀ w W' → Kd.C k25 W' A zs.length (zs.map val)) :
    SeqStopsK Fence.wide n Tryd.prog 61 #[.pointer (some ⟨Bs, 0, none⟩)] (fun x => encE (val x)) (Below n₀) (fun ys => ys = zs) (fun pre => pre <+: zs) zs.length w := fun l J Jx W hW hJ _ hY h0 =>
  iter_in val n l Bs n₀ A cap zs J Jx W (Nat.le_trans hn₀ hW.size) hJ hY ((hW.cell (p := ⟨Bs, 0, none⟩) hlt).trans hBs) (fun W' h => hr W' ((hW.mono hn₀).trans h)) h0
set_option maxHeartbeats 400000 in
theorem equations_calls (A : Option Addr) (n c : Nat) (w : World) :
    Calls Tryd.prog 48 #[.slice A n c] w fun e w' => e = .returned (.func (.func 61) #[] #[.pointer (some ⟨w.heap.size, 0, none⟩)]) ∧ w.alloc (.cells #[.slice A n c] 23) = w' := by
  have hmf : ∀ (fn : Fn) (first cap : Array Value) (w : World), (Instr.makeFunc fn first cap).run Tryd.prog w = .ok (.func fn first cap) w := fun _ _ _ _ => rfl
  go_enter Tryd.func48, Tryd.ntmps48
  go_wp2
  go_ret
  exact ⟨rfl, rfl⟩
theorem i64_and_nat (a b : Nat) (ha : a < 9223372036854775808) (hb : b < 9223372036854775808) : Go.bits .and .i64 (a : Int) (b : Int) = ((a &&& b : Nat) : Int) := by
  have hx : a &&& b < 2 ^ 63 := Nat.and_lt_two_pow _ (by omega)
  have h1 : (BitVec.ofInt 64 (a : Int)).toNat = a := by
    rw [BitVec.ofInt_natCast, BitVec.toNat_ofNat]; exact Nat.mod_eq_of_lt (by omega)
  have h2 : (BitVec.ofInt 64 (b : Int)).toNat = b := by
    rw [BitVec.ofInt_natCast, BitVec.toNat_ofNat]; exact Nat.mod_eq_of_lt (by omega)
  show IntKind.i64.wrap ((BitVec.ofInt 64 (a : Int) &&& BitVec.ofInt 64 (b : Int)).toNat : Int) = _
  rw [BitVec.toNat_and, h1, h2, IntKind.wrap_i64]
  omega
theorem i64_or_nat (a b : Nat) (ha : a < 9223372036854775808) (hb : b < 9223372036854775808) : Go.bits .or .i64 (a : Int) (b : Int) = ((a ||| b : Nat) : Int) := by
  have hx : a ||| b < 2 ^ 63 := Nat.or_lt_two_pow (by omega) (by omega)
  have h1 : (BitVec.ofInt 64 (a : Int)).toNat = a := by
    rw [BitVec.ofInt_natCast, BitVec.toNat_ofNat]; exact Nat.mod_eq_of_lt (by omega)
  have h2 : (BitVec.ofInt 64 (b : Int)).toNat = b := by
    rw [BitVec.ofInt_natCast, BitVec.toNat_ofNat]; exact Nat.mod_eq_of_lt (by omega)
  show IntKind.i64.wrap ((BitVec.ofInt 64 (a : Int) ||| BitVec.ofInt 64 (b : Int)).toNat : Int) = _
  rw [BitVec.toNat_or, h1, h2, IntKind.wrap_i64]
  omega
theorem i64_xor_nat (a b : Nat) (ha : a < 9223372036854775808) (hb : b < 9223372036854775808) : Go.bits .xor .i64 (a : Int) (b : Int) = ((a ^^^ b : Nat) : Int) := by
  have hx : a ^^^ b < 2 ^ 63 := Nat.xor_lt_two_pow (by omega) (by omega)
  have h1 : (BitVec.ofInt 64 (a : Int)).toNat = a := by
    rw [BitVec.ofInt_natCast, BitVec.toNat_ofNat]; exact Nat.mod_eq_of_lt (by omega)
  have h2 : (BitVec.ofInt 64 (b : Int)).toNat = b := by
    rw [BitVec.ofInt_natCast, BitVec.toNat_ofNat]; exact Nat.mod_eq_of_lt (by omega)
  show IntKind.i64.wrap ((BitVec.ofInt 64 (a : Int) ^^^ BitVec.ofInt 64 (b : Int)).toNat : Int) = _
  rw [BitVec.toNat_xor, h1, h2, IntKind.wrap_i64]
  omega
theorem lead_lt (m : Nat) (hm : m < 65536) : lead m < 65536 := by
  have h := bitLen16 m hm
  have h2 : 2 ^ Lib.bitLen m ≤ 2 ^ 16 := Nat.pow_le_pow_right (by omega) h
  unfold lead
  omega
/-- a well-formed row -/
abbrev FRow := { x : S25 // fineB x.f0 x.f1 = true }
theorem FRow.spec (x : FRow) : 1 ≤ x.1.f0 ∧ x.1.f0 < 65536 ∧ x.1.f1.length = 16 := by
  have := x.2
  simp only [fineB, Bool.and_eq_true, decide_eq_true_eq] at this
  exact this
def FRow.m (x : FRow) : Nat := x.1.f0.toNat
theorem FRow.m_lt (x : FRow) : x.m < 65536 := by have := x.spec; unfold FRow.m; omega
theorem FRow.m_eq (x : FRow) : x.1.f0 = (x.m : Int) := by have := x.spec; unfold FRow.m; omega
/-- one step of the reduction -/
def step1 (x : Nat × List Int) (r : FRow) : Nat × List Int := if x.1 &&& lead r.m ≠ 0 then (x.1 ^^^ r.m, xorD x.2 r.1.f1) else x
def redE (l : List FRow) (x : Nat × List Int) : Nat × List Int := l.foldl step1 x
theorem redE_snoc (l : List FRow) (r : FRow) (x : Nat × List Int) : redE (l ++ [r]) x = step1 (redE l x) r := by simp [redE]
theorem step1_ok (x : Nat × List Int) (r : FRow) (h : x.1 < 65536 ∧ x.2.length = 16) : (step1 x r).1 < 65536 ∧ (step1 x r).2.length = 16 := by
  unfold step1
  split
  · refine ⟨Nat.xor_lt_two_pow (n := 16) h.1 r.m_lt, ?_⟩
    have := r.spec
    simp [xorD, h.2, this.2.2]
  · exact h
theorem redE_ok (l : List FRow) : ∀ (x : Nat × List Int), x.1 < 65536 ∧ x.2.length = 16 → (redE l x).1 < 65536 ∧ (redE l x).2.length = 16 := by
  induction l with
  | nil => exact fun x h => h
  | cons r l ih => exact fun x h => ih (step1 x r) (step1_ok x r h)
theorem keep_block {A B : World} {row : Option Nat} {b k : Nat} {C : Array Value} {t : TypeId} {fr : Nat × Nat} (h : A.heap[k]? = some (.cells C t fr)) (hg : A.grownBy B row)
    (hr : ∀ r, row = some r → b ≤ r ∧ ∃ o : Obj, A.heap[r]? = some o ∧ o.isCells = false) : B.heap[k]? = some (.cells C t fr) := by
  rw [hg.block k (Array.getElem?_eq_some_iff.1 h).1 (fun e => by
    obtain ⟨_, o, ho, hc⟩ := hr k e.symm
    rw [h] at ho
    cases ho
    cases hc)]
  exact h
/-- a store into cells keeps what is no cells -/
theorem keeps_of_cells {w w1 : World} {g : Nat} {C : Array Value} {t : TypeId} {fr : Nat × Nat} (hb : w.heap[g]? = some (.cells C t fr)) (hk : ∀ k, k ≠ g → w1.heap[k]? = w.heap[k]?) (hs : w1.heap.size = w.heap.size) (B : Nat) : KeepsFrom B w w1 :=
  ⟨by omega, fun k o _ ho hc => by
    by_cases e : k = g
    · subst e; rw [hb] at ho; cases ho; cases hc
    · rw [hk k e]; exact ho⟩
theorem keeps_of_below {w w1 : World} (h : Below w.heap.size w w1) (B : Nat) : KeepsFrom B w w1 :=
  ⟨h.size, fun k o _ ho _ => by rw [h.block k (Array.getElem?_eq_some_iff.1 ho).1]; exact ho⟩
end Go.Proofs.YtknlbeojdmeljaaDoor.H
namespace Go.Proofs.YtknlbeojdmeljaaDoor.H
open Go.RowKit Go.Proofs.YtknlbeojdmeljaaDoorW.PrintWords Go.Proofs.YtknlbeojdmeljaaDoorW.PrintLast Go.Proofs.YtknlbeojdmeljaaDoor.P
set_option linter.unusedVariables false
set_option linter.unusedSimpArgs false
theorem exec_build {P : Program} {a : Act} {o : Oper} {t : TypeId} {parts : Array (Nat × Operand)} {vs : Array (Nat × Value)} {v : Value} {w : World} (ho : o.op = .build t parts) (hp : parts.map (fun p => (p.1, a.eval p.2)) = vs)
    (hrun : (Instr.build t vs).run P w = .ok v w) : (execOp a.eval o).run P w = .ok (.value v) w := by
  subst hp
  unfold execOp
  simp only [ho, Sem.run_bind]
  have : (Instr.build t (parts.map fun x => match x with | (i, x) => (i, a.eval x))).run P w = .ok v w := hrun
  rw [this]
  rfl
theorem run_build53x (m a0 a1 a2 a3 a4 a5 a6 a7 a8 a9 a10 a11 a12 a13 a14 a15 : Int) (w : World) : (Instr.build 76 #[(0, .int .i64 m), (1, .agg #[.int .u8 a0, .int .u8 a1, .int .u8 a2, .int .u8 a3, .int .u8 a4, .int .u8 a5, .int .u8 a6, .int .u8 a7, .int .u8 a8, .int .u8 a9, .int .u8 a10, .int .u8 a11, .int .u8 a12, .int .u8 a13, .int .u8 a14, .int .u8 a15])]).run Tryd.prog w = .ok (.agg #[.int .i64 m, .int .u8 a0, .int .u8 a1, .int .u8 a2, .int .u8 a3, .int .u8 a4, .int .u8 a5, .int .u8 a6, .int .u8 a7, .int .u8 a8, .int .u8 a9, .int .u8 a10, .int .u8 a11, .int .u8 a12, .int .u8 a13, .int .u8 a14, .int .u8 a15]) w := by kernel_rfl
theorem run_build53 (m : Int) (d : List Int) (hd : d.length = 16) (w : World) : (Instr.build 76 #[(0, .int .i64 m), (1, .agg (bys d).toArray)]).run Tryd.prog w = .ok (.agg (.int .i64 m :: bys d).toArray) w := by
  match d, hd with
  | [a0, a1, a2, a3, a4, a5, a6, a7, a8, a9, a10, a11, a12, a13, a14, a15], _ => exact run_build53x m a0 a1 a2 a3 a4 a5 a6 a7 a8 a9 a10 a11 a12 a13 a14 a15 w
section
variable {P : Program} {ops : Array Oper} {op : Oper} {a : Act}
/-- The block's bytes behind the mask, as one array, in a region that draws its order. -/
theorem mid_if {S : World → Prop} (hw : Region.wanted op (yielded ops a.tmps) = true) (ty : TypeId) (x : Operand) (ho : op.op = .load ty x)
    (g : Nat) (hx : a.eval x = .pointer (some ⟨g, 1, none⟩)) (v : Value) (cs : List Value) (t : TypeId) (d : TypeDesc) (hS : ∀ w, S w → w.heap[g]? = some (.cells (v :: cs).toArray t (0, 0)))
    (hu : P.underlying ty = some d) (hd : d.isRow = true) (hi : (P.info? ty).map (·.size) = some cs.length) : YieldsIf P ops S op (.agg cs.toArray) a :=
  yieldsIf_load_mid hw ty x ho g 1 hx cs d (fun w hs => rangeAt_of_row (hS w hs) 1 cs (fun j hj => by simp [Nat.add_comm 1 j])) hu hd hi
end
set_option maxRecDepth 100000 in
set_option maxHeartbeats 4000000 in
theorem reduce_calls (A : Option Addr) (cap : Nat) (zs : List FRow) (m : Nat) (hm : m < 65536) (d : List Int) (hd : d.length = 16) (w : World) (hr : Kd.C k25 w A zs.length (zs.map Subtype.val)) :
    Calls Tryd.prog 47 #[.slice A zs.length cap, .agg (.int .i64 (m : Int) :: bys d).toArray] w fun e w' => e = .returned (.agg (.int .i64 ((redE zs (m, d)).1 : Int) :: bys (redE zs (m, d)).2).toArray) ∧ Below w.heap.size w w' := by
  refine (callsIn_wide (n := 3)).1 (callsIn_of_wp_marks Tryd.func47 rfl trivial (wpIn_wide.2 ?_) rfl)
  simp only [Tryd.ntmps47, List.size_toArray, List.length_cons, List.length_nil, Nat.reduceAdd, Nat.reduceSub, Array.replicate_succ, Array.replicate_zero, List.push_toArray, List.append_toArray, List.nil_append, List.cons_append]
  have HD := Lib.hid hd
  clear hd
  go_wp2_with (go_at_call 48; refine (equations_calls _ _ _ _).mono ?_; rintro e w' ⟨rfl, rfl⟩)
  generalize hW0 : ((w.alloc (.cells (.int .i64 (m : Int) :: bys d).toArray 76)).alloc _).alloc (.cells #[.slice A zs.length cap] 23) = W0
  have b3 : W0.heap[w.heap.size]? = some (.cells (.int .i64 (m : Int) :: bys d).toArray 76 (0, 0)) := by
    rw [← hW0, Below.heap_alloc _ _ _ (by simp; omega), Below.heap_alloc _ _ _ (by simp)]; exact blk_new rfl
  have b4 : ∃ C, W0.heap[w.heap.size + 1]? = some (.cells C 76 (0, 0)) ∧ C.size = 17 := by
    refine ⟨_, by rw [← hW0, Below.heap_alloc _ _ _ (by simp)]; exact blk_new (by simp), by rfl⟩
  have b5 : W0.heap[w.heap.size + 1 + 1]? = some (.cells #[.slice A zs.length cap] 23 (0, 0)) := by rw [← hW0]; exact blk_new (by simp)
  have sz : W0.heap.size = w.heap.size + 1 + 1 + 1 := by rw [← hW0]; simp
  have hB0 : Below w.heap.size w W0 := by
    rw [← hW0]; exact (((Below.refl _ _).alloc (Nat.le_refl _) _).alloc (by simp) _).alloc (by simp; omega) _
  clear hW0
  refine (wpIn_wide (n := 3)).1 (wpIn_rangeFunc_ownH (F := Fence.wide) (n := 3) rfl (by omega) (gf := 61) (lb := #[.pointer (some ⟨w.heap.size + 1 + 1, 0, none⟩)]) rfl trivial (enters_of Tryd.func61 (by kernel_rfl) rfl)
    (iter_stops (fun x : FRow => x.1) (3 - 1) (w.heap.size + 1 + 1) w.heap.size A cap zs W0 (by omega) (by omega) ((cell_of_row W0 _ 0 _ 23 (0, 0) b5).trans rfl) (fun W' h => Kd.C_below hr (hB0.trans h))) belowK_t (belowK_b (by omega)) (Below.refl _ _) (fun _ => rfl)
    (fun pre W => W.heap[w.heap.size]? = some (.cells (.int .i64 ((redE pre (m, d)).1 : Int) :: bys (redE pre (m, d)).2).toArray 76 (0, 0)) ∧ (∃ C, W.heap[w.heap.size + 1]? = some (.cells C 76 (0, 0)) ∧ C.size = 17) ∧ Below w.heap.size w W ∧ W0.heap.size ≤ W.heap.size)
    (fun _ _ _ => False)
    (fun s X Y row hs hg hr => ⟨keep_block hs.1 hg hr, by obtain ⟨C, h1, h2⟩ := hs.2.1; exact ⟨C, keep_block h1 hg hr, h2⟩, hs.2.2.1.grown hg (by have := hs.2.2.1.size; omega) (fun k e => by have := (hr k e).1; omega), Nat.le_trans hs.2.2.2 hg.size⟩)
    (fun _ _ _ _ _ hs _ _ => hs)
    ⟨b3, b4, hB0, Nat.le_refl _⟩
    (fun x a' W => ∃ Bx, W0.heap.size ≤ Bx ∧ W.heap[Bx]? = some (.cells (.int .i64 (x.m : Int) :: bys x.1.f1).toArray 76 (0, 0)) ∧ a' = { tmps := #[.slice A zs.length cap, .agg (.int .i64 (m : Int) :: bys d).toArray, undef, .pointer (some ⟨w.heap.size, 0, none⟩), .pointer (some ⟨w.heap.size + 1, 0, none⟩), .pointer (some ⟨Bx, 0, none⟩), .slice A zs.length cap, .func (.func 61) #[] #[.pointer (some ⟨w.heap.size + 1 + 1, 0, none⟩)], .agg (.int .i64 (x.m : Int) :: bys x.1.f1).toArray, .bool true, undef, undef, undef, undef, undef, undef, undef, undef, undef, undef, undef, undef, undef, undef, undef, undef, undef, undef], defers := [] })
    (fun x a' s X Y row hs hg hr => by obtain ⟨Bx, h1, h2, h3⟩ := hs; exact ⟨Bx, h1, keep_block h2 hg hr, h3⟩)
    ?assign ?body ?done ?stop)
  case assign =>
    intro l pre x W K hI hK
    have hsp := x.spec
    have he : encE x.1 = #[.agg (.int .i64 (x.m : Int) :: bys x.1.f1).toArray, .bool true] := by
      unfold encE; rw [pad16_of _ hsp.2.2, x.2, x.m_eq]
    rw [he]
    have hout : ¬ LetsOut (Exit.then K (fun _ _ _ => False)) := fun ⟨_, _, h⟩ => h
    refine plain_in (by rfl) hout ?_
    simp only [List.zip_toArray, List.zip_cons_cons, List.zip_nil_right, List.foldl_toArray, List.foldl_cons, List.foldl_nil, List.setIfInBounds_toArray, List.set_cons_zero, List.set_cons_succ]
    have hl17 : (Value.int .i64 (x.m : Int) :: bys x.1.f1).length = 17 := by rw [List.length_cons, bys_len, hsp.2.2]
    have H17 := Lib.hid hl17
    have hone : ∀ v ∈ Value.int .i64 (x.m : Int) :: bys x.1.f1, v.oneCell' = true := eq_one _ _
    have HK := Lib.hid hK
    have HI := Lib.hid hI
    clear hl17 hsp he hK hI
    go_wp2_with (first | (refine wpList_store_row rfl 76 _ _ rfl W.heap.size (.int .i64 (x.m : Int) :: bys x.1.f1) _ 76 rfl rfl (blk_new rfl) (by rw [H17.out]; rfl) (by rw [H17.out]; exact size53) hone ?_; intro w1 g1 g2 g3 g4))
    obtain ⟨i1, ⟨C, i2, i3⟩, i4, i5⟩ := HI.out
    have hwW := i4.size
    have hB1 : Below w.heap.size W w1 := g4 _ _ hwW ((Below.refl _ _).alloc hwW _)
    have hn : ∀ k, k < W.heap.size → w1.heap[k]? = W.heap[k]? := fun k hk => (g2 k (by omega)).trans (Below.heap_alloc _ _ _ hk)
    exact HK.out _ _ ((keeps_of_below ((Below.refl _ W).alloc (Nat.le_refl _) _) _).trans (keeps_of_cells (blk_new rfl) g2 g3 _)) hB1
      ⟨(hn _ (by omega)).trans i1, ⟨C, (hn _ (by omega)).trans i2, i3⟩, i4.trans hB1, by rw [g3]; simp; omega⟩ ⟨W.heap.size, i5, g1, rfl⟩
  case body =>
    rintro l pre x a' W hl hrec ⟨h3, ⟨C, h4, hC⟩, hB, hz⟩ ⟨Bx, hBx, hx, rfl⟩ hlen
    have hwW := hB.size
    have hok := redE_ok pre (m, d) ⟨hm, HD.out⟩
    have hsnoc := redE_snoc pre x (m, d)
    generalize hq : redE pre (m, d) = q at h3 hok hsnoc
    obtain ⟨mp, dp⟩ := q
    obtain ⟨hmp, hdp⟩ := hok
    simp only at h3 hmp hdp
    have hxs := x.spec
    have hmx := x.m_lt
    have hBx2 := (Array.getElem?_eq_some_iff.1 hx).1
    have c0 : W.cell? ⟨w.heap.size, 0, none⟩ = some (.int .i64 (mp : Int)) := (cell_of_row W _ 0 _ 76 (0, 0) h3).trans (by simp)
    have hll := lead_lt x.m hmx
    have hi17 : (Tryd.prog.info? 76).map (·.size) = some (Value.int .i64 (x.m : Int) :: bys x.1.f1).length := by rw [List.length_cons, bys_len, hxs.2.2]; exact size53
    have hand := i64_and_nat mp (lead x.m) (by omega) (by omega)
    have HI17 := Lib.hid hi17
    have HAND := Lib.hid hand
    have HSN := Lib.hid hsnoc
    have HQ := Lib.hid hq
    have H3 := Lib.hid h3
    have H4 := Lib.hid h4
    have HC := Lib.hid hC
    have HX := Lib.hid hx
    have HDP := Lib.hid hdp
    have HXS := Lib.hid hxs
    clear hi17 hand hsnoc hq h3 h4 hC hx hdp hxs hrec
    have hout : ∀ K : Act → World → Prop, ¬ LetsOut (Exit.then K (Exit.inBlock 1 (ownPostG W0.heap.size (Below w.heap.size)
      (fun (pre : List FRow) W => W.heap[w.heap.size]? = some (.cells (.int .i64 ((redE pre (m, d)).1 : Int) :: bys (redE pre (m, d)).2).toArray 76 (0, 0)) ∧ (∃ C, W.heap[w.heap.size + 1]? = some (.cells C 76 (0, 0)) ∧ C.size = 17) ∧ Below w.heap.size w W ∧ W0.heap.size ≤ W.heap.size)
      (fun _ _ _ => False) (pre ++ [x]) W))) := fun K ⟨_, _, h⟩ => h
    refine wpIn_block ?_
    refine wpIn_seq_k (fun K1 hK1 => ?_)
    have hout1 := hout K1
    revert hout1
    intro hout
    refine start_in (m := 6) (S := (fun U => U.cell? ⟨w.heap.size, 0, none⟩ = some (.int .i64 (mp : Int)) ∧ U.heap[Bx]? = some (.cells (.int .i64 (x.m : Int) :: bys x.1.f1).toArray 76 (0, 0)) ∧ Below W.heap.size W U)) (ds := []) (bl 6 0) (by kernel_rfl) (by rfl) hout rfl rfl ⟨c0, HX.out, (Below.refl _ _).drew⟩ (fun hHeld => ?_)
    refine pU 0 10 (bl 6 1) (by kernel_rfl) (h := ?_)
    refine tU 1 11 (bl 6 3) (by kernel_rfl) hHeld (hy := by rintro w' ⟨s0, s1, s2⟩; go_simp; with_reducible rfl) (h := ?_)
    refine rU 2 12 (bl 6 7) rfl (by kernel_rfl) (row_if (by rfl) 76 _ rfl Bx rfl (.int .i64 (x.m : Int) :: bys x.1.f1) 76 _ (fun _ hS => hS.2.1) Tryd.underlying76 rfl HI17.out) hHeld (h := ?_)
    refine one_ (i := 3) (N := some 13) (bl 6 15) rfl rfl (by kernel_rfl) (by decide) (fun K hK => ?_)
    refine goes_ Tryd.func50 (by kernel_rfl) rfl #[.agg (.int .i64 (x.m : Int) :: bys x.1.f1).toArray] (by rfl) rfl rfl (by simp only [List.map_toArray, List.map_cons, List.map_nil]; rfl) ?_
    refine (leading_calls x.m hmx (bys x.1.f1) _).mono ?_
    rintro e u ⟨rfl, hb⟩
    refine ⟨_, rfl, ?_⟩
    obtain ⟨s0, s1, s2⟩ := hHeld
    have t2 := s2.trans (hb.mono s2.size)
    refine hK.out _ _ ⟨(hb.cell (World.block_lt_of_cell? _ _ s0)).trans s0, (hb.block _ (Array.getElem?_eq_some_iff.1 s1).1).trans s1, t2⟩ (fun hHeld => ?_)
    clear hK K s0 s1 s2 t2 hb
    refine nU 13 (h := ?_)
    refine pU 4 14 (bl 6 31) (by kernel_rfl) (h := ?_)
    refine pU 5 15 (bl 6 63) (by kernel_rfl) (h := ?_)
    refine done_ (by kernel_rfl) ?_
    obtain ⟨s0, s1, s2⟩ := hHeld
    refine hK1 _ _ ?_
    have hs0 := s0
    have hWu := s2.size
    have u3 : u.heap[w.heap.size]? = some (.cells (.int .i64 (mp : Int) :: bys dp).toArray 76 (0, 0)) := (s2.block _ (Array.getElem?_eq_some_iff.1 H3.out).1).trans H3.out
    have u4 : u.heap[w.heap.size + 1]? = some (.cells C 76 (0, 0)) := (s2.block _ (Array.getElem?_eq_some_iff.1 H4.out).1).trans H4.out
    by_cases hbit : mp &&& lead x.m = 0
    · refine wpIn_cond_false (by show Value.bool _ = _; rw [HAND.out, hbit]; rfl) ?_
      refine wpIn_skip ?_
      refine ⟨keeps_of_below s2 _, s2.mono hwW, ?_⟩
      dsimp only
      rw [HSN.out]
      simp only [step1, hbit, ne_eq, not_true_eq_false, if_false]
      exact ⟨u3, ⟨C, u4, HC.out⟩, hB.trans (s2.mono hwW), by omega⟩
    · have hbit' : ((mp &&& lead x.m : Nat) : Int) ≠ 0 := by omega
      refine wpIn_cond_true (by show Value.bool _ = _; rw [HAND.out]; congr 1; exact bne_iff_ne.mpr hbit') ?_
      have c5 : u.cell? ⟨Bx, 0, none⟩ = some (.int .i64 (x.m : Int)) := (cell_of_row u _ 0 _ 76 (0, 0) s1).trans (by simp)
      have hxor := i64_xor_nat mp x.m (by omega) (by omega)
      have hlx : (xorD dp x.1.f1).length = 16 := by simp [xorD, HDP.out, HXS.out.2.2]
      have hj1 : (Tryd.prog.info? 74).map (·.size) = some (bys dp).length := by rw [bys_len, HDP.out]; exact size51
      have hj2 : (Tryd.prog.info? 74).map (·.size) = some (bys x.1.f1).length := by rw [bys_len, HXS.out.2.2]; exact size51
      have hnew : (Tryd.prog.info? 76).map (·.size) = some (Value.int .i64 ((mp ^^^ x.m : Nat) : Int) :: bys (xorD dp x.1.f1)).length := by rw [List.length_cons, bys_len, hlx]; exact size53
      have J1 := Lib.hid hj1
      have J2 := Lib.hid hj2
      have J3 := Lib.hid hnew
      have HLX := Lib.hid hlx
      have HXOR := Lib.hid hxor
      have U3 := Lib.hid u3
      have U4 := Lib.hid u4
      have S1 := Lib.hid s1
      have S2 := Lib.hid s2
      have hout2 : ¬ LetsOut (Exit.inBlock 1 (ownPostG W0.heap.size (Below w.heap.size)
        (fun (pre : List FRow) W => W.heap[w.heap.size]? = some (.cells (.int .i64 ((redE pre (m, d)).1 : Int) :: bys (redE pre (m, d)).2).toArray 76 (0, 0)) ∧ (∃ C, W.heap[w.heap.size + 1]? = some (.cells C 76 (0, 0)) ∧ C.size = 17) ∧ Below w.heap.size w W ∧ W0.heap.size ≤ W.heap.size)
        (fun _ _ _ => False) (pre ++ [x]) W)) := fun ⟨_, _, h⟩ => h
      clear hj1 hj2 hnew hlx hxor u3 u4 s1 s2 hout
      revert hout2
      intro hout
      refine start_in (m := 12) (S := (fun U => U.cell? ⟨w.heap.size, 0, none⟩ = some (.int .i64 (mp : Int)) ∧ U.cell? ⟨Bx, 0, none⟩ = some (.int .i64 (x.m : Int)) ∧ U.heap[w.heap.size]? = some (.cells (.int .i64 (mp : Int) :: bys dp).toArray 76 (0, 0)) ∧ U.heap[Bx]? = some (.cells (.int .i64 (x.m : Int) :: bys x.1.f1).toArray 76 (0, 0)) ∧ Below u.heap.size u U)) (ds := [11]) (bl 12 0) (by kernel_rfl) (by rfl) hout rfl rfl ⟨hs0, c5, U3.out, S1.out, (Below.refl _ _).drew⟩ (fun hHeld => ?_)
      refine pU 0 16 (bl 12 1) (by kernel_rfl) (h := ?_)
      refine pU 2 18 (bl 12 5) (by kernel_rfl) (h := ?_)
      refine pU 5 21 (bl 12 37) (by kernel_rfl) (h := ?_)
      refine pU 7 23 (bl 12 165) (by kernel_rfl) (h := ?_)
      refine tU 1 17 (bl 12 167) (by kernel_rfl) hHeld (hy := by rintro w' ⟨s0, s1, s2, s3, s4⟩; go_simp; with_reducible rfl) (h := ?_)
      refine tU 3 19 (bl 12 175) (by kernel_rfl) hHeld (hy := by rintro w' ⟨s0, s1, s2, s3, s4⟩; go_simp; with_reducible rfl) (h := ?_)
      refine pU 4 20 (bl 12 191) (by kernel_rfl) (h := ?_)
      refine rU 6 22 (bl 12 255) rfl (by kernel_rfl) (mid_if (by rfl) 74 _ rfl w.heap.size rfl _ (bys dp) 76 _ (fun _ hS => hS.2.2.1) Tryd.underlying74 rfl J1.out) hHeld (h := ?_)
      refine rU 8 24 (bl 12 511) rfl (by kernel_rfl) (mid_if (by rfl) 74 _ rfl Bx rfl _ (bys x.1.f1) 76 _ (fun _ hS => hS.2.2.2.1) Tryd.underlying74 rfl J2.out) hHeld (h := ?_)
      refine one_ (i := 9) (N := some 25) (bl 12 1023) rfl rfl (by kernel_rfl) (by decide) (fun K hK => ?_)
      refine goes_ Tryd.func51 (by kernel_rfl) rfl #[.agg (bys dp).toArray, .agg (bys x.1.f1).toArray] (by rfl) rfl rfl (by simp only [List.map_toArray, List.map_cons, List.map_nil]; rfl) ?_
      refine (plus_calls dp x.1.f1 HDP.out HXS.out.2.2 _).mono ?_
      rintro e u2 ⟨rfl, hb⟩
      refine ⟨_, rfl, ?_⟩
      obtain ⟨t0, t1, t2, t3, t4⟩ := hHeld
      have t5 := t4.trans (hb.mono t4.size)
      refine hK.out _ _ ⟨(hb.cell (World.block_lt_of_cell? _ _ t0)).trans t0, (hb.cell (World.block_lt_of_cell? _ _ t1)).trans t1, (hb.block _ (Array.getElem?_eq_some_iff.1 t2).1).trans t2, (hb.block _ (Array.getElem?_eq_some_iff.1 t3).1).trans t3, t5⟩ (fun hHeld => ?_)
      clear hK K t0 t1 t2 t3 t4 t5 hb
      refine nU 25 (h := ?_)
      refine pure_ (i := 10) (N := some 26) (v := .agg (.int .i64 ((mp ^^^ x.m : Nat) : Int) :: bys (xorD dp x.1.f1)).toArray) (a' := ?_) (bl 12 2047) rfl rfl (by kernel_rfl) (fun _ _ _ h => h) (Or.inl ⟨by rfl, ?_⟩) ?_ ?_
      · intro w'
        refine exec_build rfl (vs := #[(0, .int .i64 ((mp ^^^ x.m : Nat) : Int)), (1, .agg (bys (xorD dp x.1.f1)).toArray)]) ?_ (run_build53 _ _ HLX.out _)
        simp only [List.map_toArray, List.map_cons, List.map_nil]
        rw [← HXOR.out]
        rfl
      rotate_left
      · simp only [Act.put, List.setIfInBounds_toArray, List.set_cons_zero, List.set_cons_succ, i64_w, i32_w]
        rfl
      refine last_ (i := 11) (N := none) (bl 12 4095) rfl rfl (by kernel_rfl) (by decide) (fun K hK => ?_)
      obtain ⟨t0, t1, t2, t3, t4⟩ := hHeld
      refine skip_row (by rfl) rfl 76 _ _ rfl w.heap.size (.int .i64 ((mp ^^^ x.m : Nat) : Int) :: bys (xorD dp x.1.f1)) _ 76 rfl rfl t2 (by simp only [List.size_toArray, List.length_cons, bys_len, HDP.out, HLX.out]) J3.out (eq_one _ _) ?_
      intro w1 q1 q2 q3 q4
      refine hK.out _ _ ?_
      refine done_ (by kernel_rfl) ?_
      refine ⟨((keeps_of_below S2.out _).trans (keeps_of_below ((Below.refl _ u).trans (t4.mono (Nat.le_refl _))) _)).trans (keeps_of_cells t2 q2 q3 _), ?_, ?_⟩
      · exact q4 _ _ (Nat.le_refl _) ((S2.out.trans (t4.mono hWu)).mono hwW)
      · dsimp only
        rw [HSN.out]
        simp only [step1, ne_eq, hbit, not_false_eq_true, if_true]
        refine ⟨q1, ⟨C, ?_, HC.out⟩, ?_, ?_⟩
        · rw [q2 _ (by omega), t4.block _ (Array.getElem?_eq_some_iff.1 U4.out).1]; exact U4.out
        · exact hB.trans (q4 _ _ (Nat.le_refl _) ((S2.out.trans (t4.mono hWu)).mono hwW))
        · have := t4.size; omega
  case done =>
    rintro D ys W hD rfl ⟨h3, ⟨C, h4, hC⟩, hB, hz⟩ hK
    have hok := redE_ok ys (m, d) ⟨hm, HD.out⟩
    generalize hq : redE ys (m, d) = q at h3 hok
    obtain ⟨mp, dp⟩ := q
    obtain ⟨hmp, hdp⟩ := hok
    simp only at h3 hmp hdp
    have hl17 : (Value.int .i64 (mp : Int) :: bys dp).length = 17 := by rw [List.length_cons, bys_len, hdp]
    have hone := eq_one (mp : Int) dp
    have HL := Lib.hid hl17
    have HC := Lib.hid hC
    have HK := Lib.hid hK
    have HBB := Lib.hid hB
    have HQ := Lib.hid hq
    clear hl17 hC hdp hK hB hq
    go_wp2_with (first
      | (refine wpList_load_row rfl 76 _ rfl w.heap.size rfl 76 _ (0, 0) _ h3 Tryd.underlying76 rfl (by simp only [List.size_toArray]; rw [HL.out]; exact size53) ?_)
      | (refine wpList_store_row rfl 76 _ _ rfl (w.heap.size + 1) (.int .i64 (mp : Int) :: bys dp) C 76 rfl rfl h4 (by rw [HL.out]; exact HC.out) (by rw [HL.out]; exact size53) hone ?_; intro w1 g1 g2 g3 g4))
    have hKw : w1.heap[D]? = some (.deferred (some [])) := (g2 D (by omega)).trans HK.out
    refine ⟨by simp, .inl ⟨_, _, rfl, run_takeDeferred hKw, ?_⟩⟩
    have hDw : D < w1.heap.size := (Array.getElem?_eq_some_iff.1 hKw).1
    have hBw : Below w.heap.size w w1 := g4 _ _ (by omega) HBB.out
    refine ⟨_, results_cell_row rfl _ _ (w.heap.size + 1) 76 _ (0, 0) _ rfl ((World.putObj_heap_other (by omega)).trans g1) Tryd.underlying76 rfl (by simp only [List.size_toArray]; rw [HL.out]; exact size53), by rw [HQ.out], ?_⟩
    exact hBw.trans (belowK_b (w := w) (Nat.le_refl _) w1 D _ _ (by omega) hKw rfl rfl)
  case stop =>
    rintro D c pre W _ _ h _
    exact h.elim
end Go.Proofs.YtknlbeojdmeljaaDoor.H
namespace Go.Proofs.YtknlbeojdmeljaaDoor.H
open Go.RowKit Go.Proofs.YtknlbeojdmeljaaDoorW.PrintWords Go.Proofs.YtknlbeojdmeljaaDoorW.PrintLast Go.Proofs.YtknlbeojdmeljaaDoor.P
set_option linter.unusedVariables false
set_option linter.unusedSimpArgs false
def val1 : List S25 → Nat × Nat → Option (Nat × Nat)
  | [], st => some st
  | x :: l, st => if fineB x.f0 x.f1 = true ∧ lead x.f0.toNat < st.2 then val1 l (st.1 ||| lead x.f0.toNat, lead x.f0.toNat) else none
theorem val1_append (l r : List S25) : ∀ st, val1 (l ++ r) st = (val1 l st).bind (val1 r) := by
  induction l with
  | nil => intro st; rfl
  | cons x l ih =>
    intro st
    simp only [List.cons_append, val1]
    split
    · exact ih _
    · rfl
theorem fine_lt {x : S25} (h : fineB x.f0 x.f1 = true) : x.f0.toNat < 65536 := FRow.m_lt ⟨x, h⟩
theorem val1_ok (l : List S25) : ∀ st st', val1 l st = some st' → st.1 < 65536 → st.2 ≤ 65536 → st'.1 < 65536 ∧ st'.2 ≤ 65536 := by
  induction l with
  | nil => intro st st' h h1 h2; cases h; exact ⟨h1, h2⟩
  | cons x l ih =>
    intro st st' h h1 h2
    simp only [val1] at h
    split at h
    · rename_i hc
      have hl := lead_lt _ (fine_lt hc.1)
      exact ih _ _ h (Nat.or_lt_two_pow (n := 16) h1 hl) (by simp only; omega)
    · cases h
theorem val1_fine (l : List S25) : ∀ st st', val1 l st = some st' → ∀ x ∈ l, fineB x.f0 x.f1 = true := by
  induction l with
  | nil => intro st st' h x hx; cases hx
  | cons x l ih =>
    intro st st' h y hy
    simp only [val1] at h
    split at h
    · rename_i hc
      rcases List.mem_cons.1 hy with rfl | hy
      · exact hc.1
      · exact ih _ _ h y hy
    · cases h
def validS (l : List S25) : Bool := match val1 l (0, 65536) with
  | none => false
  | some st => l.all fun x => x.f0.toNat &&& st.1 == lead x.f0.toNat
theorem keeps_set {w : World} {g : Nat} {t : TypeId} {v : Value} (hb : Boxed w g t v) (u : Value) (B : Nat) : KeepsFrom B w (w.setCell ⟨g, 0, none⟩ u) :=
  keeps_of_cells (C := #[v]) (t := t) (fr := (0, 0)) hb (fun k hk => Below.heap_setCell w ⟨g, 0, none⟩ u k hk) (World.size_setCell _ _ _) B
theorem boxed_block {W U : World} {g : Nat} {t : TypeId} {v : Value} (hb : Boxed W g t v) (h : Below W.heap.size W U) : Boxed U g t v := (h.block g hb.lt).trans hb
theorem boxed_keep {A B : World} {row : Option Nat} {b k : Nat} {t : TypeId} {v : Value} (h : Boxed A k t v) (hg : A.grownBy B row)
    (hr : ∀ r, row = some r → b ≤ r ∧ ∃ o : Obj, A.heap[r]? = some o ∧ o.isCells = false) : Boxed B k t v := keep_block h hg hr
theorem leading_calls' (z : Int) (h0 : 0 ≤ z) (h1 : z < 65536) (D : List Value) (w : World) :
    Calls Tryd.prog 50 #[.agg (.int .i64 z :: D).toArray] w fun e w' => e = .returned (.int .i64 (lead z.toNat : Int)) ∧ Below w.heap.size w w' := by
  obtain ⟨m, rfl⟩ := Int.eq_ofNat_of_zero_le h0
  exact leading_calls m (by omega) D w
set_option maxRecDepth 100000 in
set_option maxHeartbeats 4000000 in
theorem valid_calls (A : Option Addr) (cap : Nat) (zs : List S25) (w : World) (hr : Kd.C k25 w A zs.length zs) :
    Calls Tryd.prog 46 #[.slice A zs.length cap] w fun e w' => e = .returned (.bool (validS zs)) ∧ Below w.heap.size w w' := by
  refine (callsIn_wide (n := 3)).1 (callsIn_of_wp_marks Tryd.func46 rfl trivial (wpIn_wide.2 ?_) rfl)
  simp only [Tryd.ntmps46, List.size_toArray, List.length_cons, List.length_nil, Nat.reduceAdd, Nat.reduceSub, Array.replicate_succ, Array.replicate_zero, List.push_toArray, List.append_toArray, List.nil_append, List.cons_append]
  go_wp2_with (go_at_call 48; refine (equations_calls _ _ _ _).mono ?_; rintro e w' ⟨rfl, rfl⟩)
  have e0 : (w.heap.size + 1 + 1 + 1 : Nat) = w.heap.size + 3 := by omega
  generalize hW0 : (((w.alloc (.cells #[.bool false] 4)).alloc (.cells #[.int .i64 0] 3)).alloc (.cells #[.int .i64 65536] 3)).alloc (.cells #[.slice A zs.length cap] 23) = W0
  have b2 : Boxed W0 w.heap.size 4 (.bool false) := by rw [← hW0]; exact (((Boxed.new w 4 (.bool false)).alloc _).alloc _).alloc _
  have b3 : Boxed W0 (w.heap.size + 1) 3 (.int .i64 0) := by
    have := Boxed.new (w.alloc (.cells #[.bool false] 4)) 3 (.int .i64 0)
    rw [World.size_alloc] at this
    rw [← hW0]; exact (this.alloc _).alloc _
  have b4 : Boxed W0 (w.heap.size + 1 + 1) 3 (.int .i64 65536) := by
    have := Boxed.new ((w.alloc (.cells #[.bool false] 4)).alloc (.cells #[.int .i64 0] 3)) 3 (.int .i64 65536)
    rw [World.size_alloc, World.size_alloc] at this
    rw [← hW0]; exact this.alloc _
  have b5 : Boxed W0 (w.heap.size + 1 + 1 + 1) 23 (.slice A zs.length cap) := by rw [← hW0]; exact blk_new (by simp)
  have sz : W0.heap.size = w.heap.size + 1 + 1 + 1 + 1 := by rw [← hW0]; simp
  have hB0 : Below w.heap.size w W0 := by
    rw [← hW0]; exact ((((Below.refl _ _).alloc (Nat.le_refl _) _).alloc (by simp) _).alloc (by simp; omega) _).alloc (by simp; omega) _
  clear hW0 e0
  refine (wpIn_wide (n := 3)).1 (wpIn_rangeFunc_ownH (F := Fence.wide) (n := 3) rfl (by omega) (gf := 61) (lb := #[.pointer (some ⟨w.heap.size + 1 + 1 + 1, 0, none⟩)]) rfl trivial (enters_of Tryd.func61 (by kernel_rfl) rfl)
    (iter_stops (fun x : S25 => x) (3 - 1) (w.heap.size + 1 + 1 + 1) w.heap.size A cap zs W0 (by omega) (by omega) b5.cell (fun W' h => by simpa using Kd.C_below hr (hB0.trans h))) belowK_t (belowK_b (by omega)) (Below.refl _ _) (fun _ => rfl)
    (fun pre W => ∃ a b : Nat, val1 pre (0, 65536) = some (a, b) ∧ Boxed W (w.heap.size + 1) 3 (.int .i64 (a : Int)) ∧ Boxed W (w.heap.size + 1 + 1) 3 (.int .i64 (b : Int)) ∧ Boxed W w.heap.size 4 (.bool false) ∧ Below w.heap.size w W ∧ W0.heap.size ≤ W.heap.size)
    (fun c pre W => c = .ret ∧ val1 pre (0, 65536) = none ∧ Boxed W w.heap.size 4 (.bool false) ∧ Below w.heap.size w W ∧ W0.heap.size ≤ W.heap.size)
    (fun s X Y row hs hg hr => by
      obtain ⟨a, b, h0, h1, h2, h3, h4, h5⟩ := hs
      exact ⟨a, b, h0, boxed_keep h1 hg hr, boxed_keep h2 hg hr, boxed_keep h3 hg hr, h4.grown hg (by have := h4.size; omega) (fun k e => by have := (hr k e).1; omega), Nat.le_trans h5 hg.size⟩)
    (fun c s X Y row hs hg hr => by
      obtain ⟨h0, h1, h2, h4, h5⟩ := hs
      exact ⟨h0, h1, boxed_keep h2 hg hr, h4.grown hg (by have := h4.size; omega) (fun k e => by have := (hr k e).1; omega), Nat.le_trans h5 hg.size⟩)
    ⟨0, 65536, rfl, b3, b4, b2, hB0, Nat.le_refl _⟩
    (fun x a' W => ∃ Bx, W0.heap.size ≤ Bx ∧ W.heap[Bx]? = some (.cells (.int .i64 x.f0 :: bys (pad16 x.f1)).toArray 76 (0, 0)) ∧ a' = { tmps := #[.slice A zs.length cap, undef, .pointer (some ⟨w.heap.size, 0, none⟩), .pointer (some ⟨w.heap.size + 1, 0, none⟩), .pointer (some ⟨w.heap.size + 1 + 1, 0, none⟩), .pointer (some ⟨Bx, 0, none⟩), .bool (fineB x.f0 x.f1), undef, .slice A zs.length cap, .func (.func 61) #[] #[.pointer (some ⟨w.heap.size + 1 + 1 + 1, 0, none⟩)], .agg (.int .i64 x.f0 :: bys (pad16 x.f1)).toArray, .bool (fineB x.f0 x.f1), undef, undef, undef, undef, undef, undef, undef, undef, undef, undef, undef, undef, undef, undef, undef, undef, undef, undef, undef, undef, undef, undef, undef, undef], defers := [] })
    (fun x a' s X Y row hs hg hr => by obtain ⟨Bx, h1, h2, h3⟩ := hs; exact ⟨Bx, h1, keep_block h2 hg hr, h3⟩)
    ?assign ?body ?done ?stop)
  case assign =>
    intro l pre x W K hI hK
    unfold encE
    have hout : ¬ LetsOut (Exit.then K (fun _ _ _ => False)) := fun ⟨_, _, h⟩ => h
    have hl17 : (Value.int .i64 x.f0 :: bys (pad16 x.f1)).length = 17 := by rw [List.length_cons, bys_len, pad16_len]
    have H17 := Lib.hid hl17
    have hone : ∀ v ∈ Value.int .i64 x.f0 :: bys (pad16 x.f1), v.oneCell' = true := eq_one _ _
    have HK := Lib.hid hK
    have HI := Lib.hid hI
    clear hl17 hK hI
    simp only [List.zip_toArray, List.zip_cons_cons, List.zip_nil_right, List.foldl_toArray, List.foldl_cons, List.foldl_nil, List.setIfInBounds_toArray, List.set_cons_zero, List.set_cons_succ]
    refine wpIn_seq_k (fun K1 hK1 => ?_)
    have hout1 : ¬ LetsOut (Exit.then K1 (Exit.then K (fun _ _ _ => False))) := fun ⟨_, _, h⟩ => h
    refine plain_in (by rfl) hout1 ?_
    go_wp2_with (first | (refine wpList_store_row rfl 76 _ _ rfl W.heap.size (.int .i64 x.f0 :: bys (pad16 x.f1)) _ 76 rfl rfl (blk_new rfl) (by rw [H17.out]; rfl) (by rw [H17.out]; exact size53) hone ?_; intro w1 g1 g2 g3 g4))
    refine plain_in (by rfl) hout ?_
    have G2 := Lib.hid g2
    have G4 := Lib.hid g4
    have G3 := Lib.hid g3
    have G1 := Lib.hid g1
    clear g1 g2 g3 g4
    go_wp2
    obtain ⟨a, b, i0, i1, i2, i3, i4, i5⟩ := HI.out
    have hwW := i4.size
    have hB1 : Below w.heap.size W w1 := G4.out _ _ hwW ((Below.refl _ _).alloc hwW _)
    have hn : ∀ k, k < W.heap.size → w1.heap[k]? = W.heap[k]? := fun k hk => (G2.out k (by omega)).trans (Below.heap_alloc _ _ _ hk)
    exact HK.out _ _ ((keeps_of_below ((Below.refl _ W).alloc (Nat.le_refl _) _) _).trans (keeps_of_cells (blk_new rfl) G2.out G3.out _)) hB1
      ⟨a, b, i0, (hn _ (by omega)).trans i1, (hn _ (by omega)).trans i2, (hn _ (by omega)).trans i3, i4.trans hB1, by rw [G3.out]; simp; omega⟩ ⟨W.heap.size, i5, G1.out, rfl⟩
  case body =>
    rintro l pre x a' W hl hrec ⟨a, b, hv, bL, bT, bR, hB, hz⟩ ⟨Bx, hBx, hx, rfl⟩ hlen
    have hwW := hB.size
    have hok := val1_ok pre _ _ hv (by simp) (by simp)
    simp only at hok
    obtain ⟨ha, hb'⟩ := hok
    have hsnoc := val1_append pre [x] (0, 65536)
    rw [hv] at hsnoc
    simp only [Option.bind_some, val1] at hsnoc
    have HSN := Lib.hid hsnoc
    have HX := Lib.hid hx
    have BL := Lib.hid bL
    have BT := Lib.hid bT
    have BR := Lib.hid bR
    have HV := Lib.hid hv
    have hLs := bL.lt
    have hTs := bT.lt
    have hRs := bR.lt
    clear hsnoc hx bL bT bR hv hrec
    refine wpIn_block ?_
    have hout : ∀ K : Act → World → Prop, ¬ LetsOut (Exit.then K (Exit.inBlock 1 (ownPostG W0.heap.size (Below w.heap.size)
      (fun pre W => ∃ a b : Nat, val1 pre (0, 65536) = some (a, b) ∧ Boxed W (w.heap.size + 1) 3 (.int .i64 (a : Int)) ∧ Boxed W (w.heap.size + 1 + 1) 3 (.int .i64 (b : Int)) ∧ Boxed W w.heap.size 4 (.bool false) ∧ Below w.heap.size w W ∧ W0.heap.size ≤ W.heap.size)
      (fun c pre W => c = .ret ∧ val1 pre (0, 65536) = none ∧ Boxed W w.heap.size 4 (.bool false) ∧ Below w.heap.size w W ∧ W0.heap.size ≤ W.heap.size) (pre ++ [x]) W))) := fun K ⟨_, _, h⟩ => h
    have hout' : ∀ K K' : Act → World → Prop, ¬ LetsOut (Exit.then K' (Exit.then K (Exit.inBlock 1 (ownPostG W0.heap.size (Below w.heap.size)
      (fun pre W => ∃ a b : Nat, val1 pre (0, 65536) = some (a, b) ∧ Boxed W (w.heap.size + 1) 3 (.int .i64 (a : Int)) ∧ Boxed W (w.heap.size + 1 + 1) 3 (.int .i64 (b : Int)) ∧ Boxed W w.heap.size 4 (.bool false) ∧ Below w.heap.size w W ∧ W0.heap.size ≤ W.heap.size)
      (fun c pre W => c = .ret ∧ val1 pre (0, 65536) = none ∧ Boxed W w.heap.size 4 (.bool false) ∧ Below w.heap.size w W ∧ W0.heap.size ≤ W.heap.size) (pre ++ [x]) W)))) := fun K K' ⟨_, _, h⟩ => h
    have HO := Lib.hid hout
    have HO' := Lib.hid hout'
    clear hout hout'
    refine wpIn_seq_k (fun K1 hK1 => ?_)
    refine wpIn_seq_k (fun K2 hK2 => ?_)
    have hout := HO'.out K1 K2
    -- one way out: the answer is no
    have leave : ∀ (u : World) (T : Array Value), Below W.heap.size W u → T[2]? = some (.pointer (some ⟨w.heap.size, 0, none⟩)) → (¬ (fineB x.f0 x.f1 = true ∧ lead x.f0.toNat < b)) →
        ((Code.region 6 #[{ dst := none, op := Op.store 4 (Operand.tmp 2) (Operand.const (Value.bool false)), type := 0, pos := "solve.go:61", after := #[], guard := none }] false).seq Code.ret).wpIn (Fence.wide.inRound l) (3 - 1 - 1) Tryd.prog (Exit.then K1 (Exit.inBlock 1 (ownPostG W0.heap.size (Below w.heap.size)
      (fun pre W => ∃ a b : Nat, val1 pre (0, 65536) = some (a, b) ∧ Boxed W (w.heap.size + 1) 3 (.int .i64 (a : Int)) ∧ Boxed W (w.heap.size + 1 + 1) 3 (.int .i64 (b : Int)) ∧ Boxed W w.heap.size 4 (.bool false) ∧ Below w.heap.size w W ∧ W0.heap.size ≤ W.heap.size)
      (fun c pre W => c = .ret ∧ val1 pre (0, 65536) = none ∧ Boxed W w.heap.size 4 (.bool false) ∧ Below w.heap.size w W ∧ W0.heap.size ≤ W.heap.size) (pre ++ [x]) W))) { tmps := T, defers := [] } u := by
      intro u T hu hT hno
      have bR' := boxed_block BR.out hu
      have cR := bR'.cell
      have fR := bR'.frozen
      have BR' := Lib.hid bR'
      have HU := Lib.hid hu
      have HNO := Lib.hid hno
      clear hu hno bR'
      refine wpIn_seq_k (fun K3 hK3 => ?_)
      refine plain_in (by rfl) (fun ⟨_, _, h⟩ => h) ?_
      go_wp2
      refine wpIn_ret ?_
      have hsz := HU.out.size
      have hbw : Below w.heap.size W (u.setCell ⟨w.heap.size, 0, none⟩ (.bool false)) := (HU.out.mono hwW).setCell (p := ⟨w.heap.size, 0, none⟩) (Nat.le_refl _) _
      refine ⟨(keeps_of_below HU.out _).trans (keeps_set BR'.out _ _), rfl, by rw [HSN.out, if_neg HNO.out], BR'.out.set _, hB.trans hbw, ?_⟩
      rw [World.size_setCell]
      omega
    by_cases hf : fineB x.f0 x.f1 = true
    · have hxm := fine_lt hf
      have hx0 : 0 ≤ x.f0 ∧ x.f0 < 65536 := by have := FRow.spec ⟨x, hf⟩; simp only at this; omega
      have hl16 := lead_lt _ hxm
      have cT : W.cell? ⟨w.heap.size + 1 + 1, 0, none⟩ = some (.int .i64 (b : Int)) := BT.out.cell
      have hi17 : (Tryd.prog.info? 76).map (·.size) = some (Value.int .i64 x.f0 :: bys (pad16 x.f1)).length := by rw [List.length_cons, bys_len, pad16_len]; exact size53
      have HI17 := Lib.hid hi17
      clear hi17
      have hf1 := hf
      rw [hf]
      refine start_in (m := 8) (S := (fun U => U.heap[Bx]? = some (.cells (.int .i64 x.f0 :: bys (pad16 x.f1)).toArray 76 (0, 0)) ∧ U.cell? ⟨w.heap.size + 1 + 1, 0, none⟩ = some (.int .i64 (b : Int)) ∧ Below W.heap.size W U)) (ds := []) (bl 8 0) (by kernel_rfl) (by rfl) hout rfl rfl ⟨HX.out, cT, (Below.refl _ _).drew⟩ (fun hHeld => ?_)
      refine pU 0 12 (bl 8 1) (by kernel_rfl) (h := ?_)
      refine pU 1 13 (bl 8 3) (by kernel_rfl) (h := ?_)
      refine pU 2 14 (bl 8 7) (by kernel_rfl) (h := ?_)
      refine rU 3 15 (bl 8 15) rfl (by kernel_rfl) (row_if (by rfl) 76 _ rfl Bx rfl (.int .i64 x.f0 :: bys (pad16 x.f1)) 76 _ (fun _ hS => hS.1) Tryd.underlying76 rfl HI17.out) hHeld (h := ?_)
      refine tU 5 17 (bl 8 47) (by kernel_rfl) hHeld (hy := by rintro w' ⟨s0, s1, s2⟩; go_simp; with_reducible rfl) (h := ?_)
      refine one_ (i := 4) (N := some 16) (bl 8 63) rfl rfl (by kernel_rfl) (by decide) (fun K hK => ?_)
      refine goes_ Tryd.func50 (by kernel_rfl) rfl #[.agg (.int .i64 x.f0 :: bys (pad16 x.f1)).toArray] (by rfl) rfl rfl (by simp only [List.map_toArray, List.map_cons, List.map_nil]; rfl) ?_
      refine (leading_calls' x.f0 hx0.1 hx0.2 _ _).mono ?_
      rintro e u ⟨rfl, hb⟩
      refine ⟨_, rfl, ?_⟩
      obtain ⟨s0, s1, s2⟩ := hHeld
      have t2 := s2.trans (hb.mono s2.size)
      refine hK.out _ _ ⟨(hb.block _ (Array.getElem?_eq_some_iff.1 s0).1).trans s0, (hb.cell (World.block_lt_of_cell? _ _ s1)).trans s1, t2⟩ (fun hHeld => ?_)
      clear hK K s0 s1 s2 t2 hb
      refine nU 16 (h := ?_)
      refine pU 6 18 (bl 8 127) (by kernel_rfl) (h := ?_)
      refine pU 7 19 (bl 8 255) (by kernel_rfl) (h := ?_)
      refine done_ (by kernel_rfl) ?_
      obtain ⟨s0, s1, s2⟩ := hHeld
      refine hK2 _ _ ?_
      by_cases hlt : lead x.f0.toNat < b
      · refine wpIn_cond_false (by show Value.bool _ = _; congr 1; simp; omega) (wpIn_skip (hK1 _ _ ?_))
        have bL1 := boxed_block BL.out s2
        have bT1 := boxed_block BT.out s2
        have hsz := s2.size
        have S2 := Lib.hid s2
        have BL1 := Lib.hid bL1
        have BT1 := Lib.hid bT1
        clear s2 bL1 bT1 cT s1
        refine wpIn_seq_k (fun K4 hK4 => ?_)
        refine plain_in (by rfl) (fun ⟨_, _, h⟩ => h) ?_
        go_wp2_with (first
          | (refine wpList_load_row rfl 76 _ rfl Bx rfl 76 (.int .i64 x.f0 :: bys (pad16 x.f1)).toArray (0, 0) _ s0 Tryd.underlying76 rfl (by simp only [List.size_toArray]; exact HI17.out) ?_)
          | (go_at_call 50; refine (leading_calls' x.f0 hx0.1 hx0.2 _ _).mono ?_; rintro e u2 ⟨rfl, hb⟩; have bT2 := boxed_block BT1.out hb; have cT2 := bT2.cell; have fT2 := bT2.frozen; have BT2 := Lib.hid bT2; have HB2 := Lib.hid hb; clear bT2 hb))
        have bL3 := (boxed_block BL1.out HB2.out).other (B' := w.heap.size + 1 + 1) (by omega) (.int .i64 (lead x.f0.toNat : Int))
        have bT3 := BT2.out.set (.int .i64 (lead x.f0.toNat : Int))
        have bR3 := (boxed_block (boxed_block BR.out S2.out) HB2.out).other (B' := w.heap.size + 1 + 1) (by omega) (.int .i64 (lead x.f0.toNat : Int))
        have k3 := ((keeps_of_below S2.out W0.heap.size).trans (keeps_of_below HB2.out _)).trans (keeps_set BT2.out (.int .i64 (lead x.f0.toNat : Int)) _)
        have B3 := ((S2.out.trans (HB2.out.mono hsz)).mono hwW).setCell (p := ⟨w.heap.size + 1 + 1, 0, none⟩) (by simp; omega) (.int .i64 (lead x.f0.toNat : Int))
        have hs2 := HB2.out.size
        have hs3 := World.size_setCell u2 ⟨w.heap.size + 1 + 1, 0, none⟩ (.int .i64 (lead x.f0.toNat : Int))
        generalize u2.setCell ⟨w.heap.size + 1 + 1, 0, none⟩ (.int .i64 (lead x.f0.toNat : Int)) = u3 at *
        have hor := i64_or_nat a (lead x.f0.toNat) (by omega) (by omega)
        have cL3 := bL3.cell
        have cT3 := bT3.cell
        have fL3 := bL3.frozen
        have BL3 := Lib.hid bL3
        have BT3 := Lib.hid bT3
        have BR3 := Lib.hid bR3
        have K3 := Lib.hid k3
        have BB3 := Lib.hid B3
        have HS3 := Lib.hid hs3
        have HOR := Lib.hid hor
        clear bL3 bT3 bR3 k3 B3 cT2 fT2 s0 hs3 hor
        refine plain_in (by rfl) (fun ⟨_, _, h⟩ => h) ?_
        go_wp2
        rw [HOR.out]
        refine ⟨K3.out.trans (keeps_set BL3.out _ _), BB3.out.setCell (p := ⟨w.heap.size + 1, 0, none⟩) (by simp) _, ?_⟩
        dsimp only
        refine ⟨a ||| lead x.f0.toNat, lead x.f0.toNat, by rw [HSN.out, if_pos ⟨hf1, hlt⟩], BL3.out.set _, BT3.out.other (by omega) _, BR3.out.other (by omega) _, hB.trans (BB3.out.setCell (p := ⟨w.heap.size + 1, 0, none⟩) (by simp) _), ?_⟩
        rw [World.size_setCell, HS3.out]
        omega
      · refine wpIn_cond_true (by show Value.bool _ = _; congr 1; simp; omega) ?_
        exact leave _ _ s2 rfl (fun h => hlt h.2)
    · have hf' : fineB x.f0 x.f1 = false := by simpa using hf
      rw [hf']
      refine start_in (m := 8) (S := (fun U => Below W.heap.size W U)) (ds := []) (bl 8 0) (by kernel_rfl) (by rfl) hout rfl rfl ((Below.refl _ _).drew) (fun hHeld => ?_)
      refine pU 0 12 (bl 8 1) (by kernel_rfl) (h := ?_)
      refine pU 1 13 (bl 8 3) (by kernel_rfl) (h := ?_)
      refine pU 2 14 (bl 8 7) (by kernel_rfl) (h := ?_)
      refine pV 3 15 (bl 8 15) (by kernel_rfl) (h := ?_)
      refine pV 4 16 (bl 8 31) (by kernel_rfl) (h := ?_)
      refine pV 5 17 (bl 8 63) (by kernel_rfl) (h := ?_)
      refine pV 6 18 (bl 8 127) (by kernel_rfl) (h := ?_)
      refine pU 7 19 (bl 8 255) (by kernel_rfl) (h := ?_)
      refine done_ (by kernel_rfl) ?_
      refine hK2 _ _ (wpIn_cond_true rfl ?_)
      exact leave _ _ hHeld rfl (fun h => hf h.1)
  case done =>
    rintro D ys W hD hys ⟨a, b, hv, bL, bT, bR, hB, hz⟩ hK
    subst hys
    have hfine := val1_fine _ _ _ hv
    have hok := val1_ok _ _ _ hv (by simp) (by simp)
    simp only at hok
    obtain ⟨ha, hb'⟩ := hok
    obtain ⟨fz, hfz⟩ : ∃ fz : List FRow, fz.map Subtype.val = ys := ⟨ys.pmap (fun x h => ⟨x, h⟩) hfine, by simp [List.map_pmap]⟩
    have hfl : fz.length = ys.length := by rw [← hfz, List.length_map]
    have hvs : validS ys = fz.all fun x => x.m &&& a == lead x.m := by
      unfold validS
      rw [hv]
      simp only
      rw [← hfz, List.all_map]
      rfl
    have hKb : Below w.heap.size w W := hB
    have HV := Lib.hid hv
    have HVS := Lib.hid hvs
    have HFZ := Lib.hid hfz
    have HFL := Lib.hid hfl
    have HK := Lib.hid hK
    have hDw := (Array.getElem?_eq_some_iff.1 hK).1
    have BL := Lib.hid bL
    have BR := Lib.hid bR
    have hLs := bL.lt
    have hRs := bR.lt
    clear hv hvs hfz hfl hK bL bT bR hfine hKb
    go_wp2_with (go_at_call 48; refine (equations_calls _ _ _ _).mono ?_; rintro e w' ⟨rfl, rfl⟩)
    have b5' : Boxed (W.alloc (.cells #[.slice A ys.length cap] 23)) W.heap.size 23 (.slice A fz.length cap) := by rw [HFL.out]; exact Boxed.new _ _ _
    have b2' := BR.out.alloc (.cells #[.slice A ys.length cap] 23)
    have b3' := BL.out.alloc (.cells #[.slice A ys.length cap] 23)
    have sz' : (W.alloc (.cells #[.slice A ys.length cap] 23)).heap.size = W.heap.size + 1 := by simp
    have hB1 : Below w.heap.size w (W.alloc (.cells #[.slice A ys.length cap] 23)) := hB.alloc hB.size _
    have hK1 : (W.alloc (.cells #[.slice A ys.length cap] 23)).heap[D]? = some (.deferred (some [])) := (Below.heap_alloc _ _ _ hDw).trans HK.out
    have hws := hB.size
    generalize W.alloc (.cells #[.slice A ys.length cap] 23) = W1 at *
    refine (wpIn_wide (n := 3)).1 (wpIn_rangeFunc_ownH (F := Fence.wide) (n := 3) rfl (by omega) (gf := 61) (lb := #[.pointer (some ⟨W.heap.size, 0, none⟩)]) rfl trivial (enters_of Tryd.func61 (by kernel_rfl) rfl)
      (iter_stops (fun x : FRow => x.1) (3 - 1) W.heap.size w.heap.size A cap fz W1 (by omega) (by omega) b5'.cell (fun W' h => by rw [HFL.out]; rw [show fz.map (fun x : FRow => x.1) = ys from HFZ.out]; exact Kd.C_below hr (hB1.trans h))) belowK_t (belowK_b (by omega)) (Below.refl _ _) (fun _ => rfl)
      (fun (pre : List FRow) W => (pre.all fun x => x.m &&& a == lead x.m) = true ∧ Boxed W (w.heap.size + 1) 3 (.int .i64 (a : Int)) ∧ Boxed W w.heap.size 4 (.bool false) ∧ Below w.heap.size w W ∧ W1.heap.size ≤ W.heap.size ∧ W.heap[D]? = some (.deferred (some [])))
      (fun c (pre : List FRow) W => c = .ret ∧ (pre.all fun x => x.m &&& a == lead x.m) = false ∧ Boxed W w.heap.size 4 (.bool false) ∧ Below w.heap.size w W ∧ W1.heap.size ≤ W.heap.size ∧ W.heap[D]? = some (.deferred (some [])))
      (fun s X Y row hs hg hr => by
        obtain ⟨h0, h1, h2, h4, h5, h6⟩ := hs
        exact ⟨h0, boxed_keep h1 hg hr, boxed_keep h2 hg hr, h4.grown hg (by have := h4.size; omega) (fun k e => by have := (hr k e).1; omega), Nat.le_trans h5 hg.size, (hg.block D (by omega) (fun e => by have := (hr D e.symm).1; omega)).trans h6⟩)
      (fun c s X Y row hs hg hr => by
        obtain ⟨h0, h1, h2, h4, h5, h6⟩ := hs
        exact ⟨h0, h1, boxed_keep h2 hg hr, h4.grown hg (by have := h4.size; omega) (fun k e => by have := (hr k e).1; omega), Nat.le_trans h5 hg.size, (hg.block D (by omega) (fun e => by have := (hr D e.symm).1; omega)).trans h6⟩)
      ⟨rfl, b3', b2', hB1, Nat.le_refl _, hK1⟩
      (fun x a' Z => ∃ Bx, W1.heap.size ≤ Bx ∧ Z.heap[Bx]? = some (.cells (.int .i64 (x.m : Int) :: bys x.1.f1).toArray 76 (0, 0)) ∧ a' = { tmps := #[.slice A ys.length cap, undef, .pointer (some ⟨w.heap.size, 0, none⟩), .pointer (some ⟨w.heap.size + 1, 0, none⟩), .pointer (some ⟨w.heap.size + 1 + 1, 0, none⟩), undef, undef, .pointer (some ⟨Bx, 0, none⟩), .slice A ys.length cap, .func (.func 61) #[] #[.pointer (some ⟨w.heap.size + 1 + 1 + 1, 0, none⟩)], undef, undef, undef, undef, undef, undef, undef, undef, undef, undef, undef, undef, undef, undef, undef, .slice A ys.length cap, .func (.func 61) #[] #[.pointer (some ⟨W.heap.size, 0, none⟩)], .agg (.int .i64 (x.m : Int) :: bys x.1.f1).toArray, .bool true, undef, undef, undef, undef, undef, undef, undef], defers := [] })
      (fun x a' s X Y row hs hg hr => by obtain ⟨Bx, h1, h2, h3⟩ := hs; exact ⟨Bx, h1, keep_block h2 hg hr, h3⟩)
      ?assign2 ?body2 ?done2 ?stop2)
    case assign2 =>
      intro l pre x U K hI hK
      have hsp := x.spec
      have he : encE x.1 = #[.agg (.int .i64 (x.m : Int) :: bys x.1.f1).toArray, .bool true] := by
        unfold encE; rw [pad16_of _ hsp.2.2, x.2, x.m_eq]
      rw [he]
      have hout : ¬ LetsOut (Exit.then K (fun _ _ _ => False)) := fun ⟨_, _, h⟩ => h
      refine plain_in (by rfl) hout ?_
      simp only [List.zip_toArray, List.zip_cons_cons, List.zip_nil_right, List.foldl_toArray, List.foldl_cons, List.foldl_nil, List.setIfInBounds_toArray, List.set_cons_zero, List.set_cons_succ]
      have hl17 : (Value.int .i64 (x.m : Int) :: bys x.1.f1).length = 17 := by rw [List.length_cons, bys_len, hsp.2.2]
      have H17 := Lib.hid hl17
      have hone : ∀ v ∈ Value.int .i64 (x.m : Int) :: bys x.1.f1, v.oneCell' = true := eq_one _ _
      have HK2 := Lib.hid hK
      have HI := Lib.hid hI
      clear hl17 hsp he hK hI hK1
      go_wp2_with (first | (refine wpList_store_row rfl 76 _ _ rfl U.heap.size (.int .i64 (x.m : Int) :: bys x.1.f1) _ 76 rfl rfl (blk_new rfl) (by rw [H17.out]; rfl) (by rw [H17.out]; exact size53) hone ?_; intro w1 g1 g2 g3 g4))
      obtain ⟨i0, i1, i2, i4, i5, i6⟩ := HI.out
      have hwW := i4.size
      have hB1 : Below w.heap.size U w1 := g4 _ _ hwW ((Below.refl _ _).alloc hwW _)
      have hn : ∀ k, k < U.heap.size → w1.heap[k]? = U.heap[k]? := fun k hk => (g2 k (by omega)).trans (Below.heap_alloc _ _ _ hk)
      exact HK2.out _ _ ((keeps_of_below ((Below.refl _ U).alloc (Nat.le_refl _) _) _).trans (keeps_of_cells (blk_new rfl) g2 g3 _)) hB1
        ⟨i0, (hn _ (by omega)).trans i1, (hn _ (by omega)).trans i2, i4.trans hB1, by rw [g3]; simp; omega, (hn _ (by omega)).trans i6⟩ ⟨U.heap.size, i5, g1, rfl⟩
    case body2 =>
      rintro l pre x a' U hl hrec ⟨hall, bL, bR, hB2, hz2, hK2⟩ ⟨Bx, hBx, hx, rfl⟩ hlen
      have hwW := hB2.size
      have hxs := x.spec
      have hmx := x.m_lt
      have hll := lead_lt x.m hmx
      have hi17 : (Tryd.prog.info? 76).map (·.size) = some (Value.int .i64 (x.m : Int) :: bys x.1.f1).length := by rw [List.length_cons, bys_len, hxs.2.2]; exact size53
      have hand := i64_and_nat x.m a (by omega) (by omega)
      have c0 : U.cell? ⟨Bx, 0, none⟩ = some (.int .i64 (x.m : Int)) := (cell_of_row U _ 0 _ 76 (0, 0) hx).trans (by simp)
      have cL := bL.cell
      have HX := Lib.hid hx
      have HI17 := Lib.hid hi17
      have HAND := Lib.hid hand
      have HALL := Lib.hid hall
      have BL2 := Lib.hid bL
      have BR2 := Lib.hid bR
      have HK2 := Lib.hid hK2
      clear hx hi17 hand hall bL bR hK2 hrec hxs hK1 b5' b2' b3'
      refine wpIn_block ?_
      refine wpIn_seq_k (fun K1 hK1 => ?_)
      have hout : ¬ LetsOut (Exit.then K1 (Exit.inBlock 3 (ownPostG W1.heap.size (Below w.heap.size)
        (fun (pre : List FRow) W => (pre.all fun x => x.m &&& a == lead x.m) = true ∧ Boxed W (w.heap.size + 1) 3 (.int .i64 (a : Int)) ∧ Boxed W w.heap.size 4 (.bool false) ∧ Below w.heap.size w W ∧ W1.heap.size ≤ W.heap.size ∧ W.heap[D]? = some (.deferred (some [])))
        (fun c (pre : List FRow) W => c = .ret ∧ (pre.all fun x => x.m &&& a == lead x.m) = false ∧ Boxed W w.heap.size 4 (.bool false) ∧ Below w.heap.size w W ∧ W1.heap.size ≤ W.heap.size ∧ W.heap[D]? = some (.deferred (some []))) (pre ++ [x]) U))) := fun ⟨_, _, h⟩ => h
      refine start_in (m := 7) (S := (fun V => V.cell? ⟨Bx, 0, none⟩ = some (.int .i64 (x.m : Int)) ∧ V.cell? ⟨w.heap.size + 1, 0, none⟩ = some (.int .i64 (a : Int)) ∧ V.heap[Bx]? = some (.cells (.int .i64 (x.m : Int) :: bys x.1.f1).toArray 76 (0, 0)) ∧ Below U.heap.size U V)) (ds := []) (bl 7 0) (by kernel_rfl) (by rfl) hout rfl rfl ⟨c0, cL, HX.out, (Below.refl _ _).drew⟩ (fun hHeld => ?_)
      refine pU 0 29 (bl 7 1) (by kernel_rfl) (h := ?_)
      refine tU 1 30 (bl 7 3) (by kernel_rfl) hHeld (hy := by rintro w' ⟨s0, s1, s2, s3⟩; go_simp; with_reducible rfl) (h := ?_)
      refine tU 2 31 (bl 7 7) (by kernel_rfl) hHeld (hy := by rintro w' ⟨s0, s1, s2, s3⟩; go_simp; with_reducible rfl) (h := ?_)
      refine pU 3 32 (bl 7 15) (by kernel_rfl) (h := ?_)
      refine rU 4 33 (bl 7 31) rfl (by kernel_rfl) (row_if (by rfl) 76 _ rfl Bx rfl (.int .i64 (x.m : Int) :: bys x.1.f1) 76 _ (fun _ hS => hS.2.2.1) Tryd.underlying76 rfl HI17.out) hHeld (h := ?_)
      refine one_ (i := 5) (N := some 34) (bl 7 63) rfl rfl (by kernel_rfl) (by decide) (fun K hK => ?_)
      refine goes_ Tryd.func50 (by kernel_rfl) rfl #[.agg (.int .i64 (x.m : Int) :: bys x.1.f1).toArray] (by rfl) rfl rfl (by simp only [List.map_toArray, List.map_cons, List.map_nil]; rfl) ?_
      refine (leading_calls x.m hmx _ _).mono ?_
      rintro e u ⟨rfl, hb⟩
      refine ⟨_, rfl, ?_⟩
      obtain ⟨s0, s1, s2, s3⟩ := hHeld
      have t3 := s3.trans (hb.mono s3.size)
      refine hK.out _ _ ⟨(hb.cell (World.block_lt_of_cell? _ _ s0)).trans s0, (hb.cell (World.block_lt_of_cell? _ _ s1)).trans s1, (hb.block _ (Array.getElem?_eq_some_iff.1 s2).1).trans s2, t3⟩ (fun hHeld => ?_)
      clear hK K s0 s1 s2 s3 t3 hb
      refine nU 34 (h := ?_)
      refine pU 6 35 (bl 7 127) (by kernel_rfl) (h := ?_)
      refine done_ (by kernel_rfl) ?_
      obtain ⟨s0, s1, s2, s3⟩ := hHeld
      refine hK1 _ _ ?_
      have hu := s3.size
      have hKu := (s3.block D (Array.getElem?_eq_some_iff.1 HK2.out).1).trans HK2.out
      by_cases hbit : x.m &&& a = lead x.m
      · refine wpIn_cond_false (by show Value.bool _ = _; rw [HAND.out, hbit]; simp) ?_
        refine wpIn_skip ?_
        refine ⟨keeps_of_below s3 _, s3.mono hwW, ?_⟩
        dsimp only
        refine ⟨?_, boxed_block BL2.out s3, boxed_block BR2.out s3, hB2.trans (s3.mono hwW), by omega, hKu⟩
        rw [List.all_append, HALL.out]
        simp [hbit]
      · refine wpIn_cond_true (by show Value.bool _ = _; rw [HAND.out]; congr 1; rw [bne_iff_ne]; omega) ?_
        have bR' := boxed_block BR2.out s3
        have cR := bR'.cell
        have fR := bR'.frozen
        have BR' := Lib.hid bR'
        have HU := Lib.hid s3
        have HKU := Lib.hid hKu
        clear s0 s1 s2 s3 bR' hKu hout
        refine wpIn_seq_k (fun K3 hK3 => ?_)
        refine plain_in (by rfl) (fun ⟨_, _, h⟩ => h) ?_
        go_wp2
        refine wpIn_ret ?_
        have hbw := (HU.out.mono hwW).setCell (p := ⟨w.heap.size, 0, none⟩) (Nat.le_refl _) (.bool false)
        refine ⟨(keeps_of_below HU.out _).trans (keeps_set BR'.out _ _), rfl, ?_, BR'.out.set _, hB2.trans hbw, ?_, ?_⟩
        · rw [List.all_append, HALL.out]
          simp [hbit]
        · rw [World.size_setCell]; omega
        · rw [Below.heap_setCell _ _ _ _ (by simp; omega)]; exact HKU.out
    case done2 =>
      rintro D2 xs U hD2 hxs ⟨hall, bL, bR, hB2, hz2, hK2⟩ hKm
      subst hxs
      have hans : validS ys = true := by rw [HVS.out]; exact hall
      have cR := bR.cell
      have fR := bR.frozen
      have BR2 := Lib.hid bR
      have HK2 := Lib.hid hK2
      have HKm := Lib.hid hKm
      have hUs := hB2.size
      clear bL bR hK2 hKm hK1 b5' b2' b3' hall
      go_wp2
      have hsz2 := World.size_setCell U ⟨w.heap.size, 0, none⟩ (.bool true)
      have hBw := hB2.setCell (p := ⟨w.heap.size, 0, none⟩) (Nat.le_refl _) (.bool true)
      have hm2 : (U.setCell ⟨w.heap.size, 0, none⟩ (.bool true)).heap[D2]? = some (.deferred (some [])) := (Below.heap_setCell _ _ _ _ (by simp; omega)).trans HKm.out
      have hm1 : (U.setCell ⟨w.heap.size, 0, none⟩ (.bool true)).heap[D]? = some (.deferred (some [])) := (Below.heap_setCell _ _ _ _ (by simp; omega)).trans HK2.out
      have hr2 := BR2.out.set (.bool true)
      generalize U.setCell ⟨w.heap.size, 0, none⟩ (.bool true) = V at *
      have hm1' : (V.putObj D2 (.deferred none)).heap[D]? = some (.deferred (some [])) := (World.putObj_heap_other (by omega)).trans hm1
      refine ⟨by simp, .inl ⟨_, _, rfl, run_takeDeferred hm2, by simp, .inl ⟨_, _, rfl, run_takeDeferred hm1', ?_⟩⟩⟩
      have bR3 : Boxed ((V.putObj D2 (.deferred none)).putObj D (.deferred none)) w.heap.size 4 (.bool true) := (World.putObj_heap_other (by omega)).trans ((World.putObj_heap_other (by omega)).trans hr2)
      have cR3 := bR3.cell
      refine ⟨.bool true, by simp [results, Tryd.results46, go_sem, cR3], by rw [hans], ?_⟩
      exact (hBw.trans (belowK_b (w := w) (Nat.le_refl _) V D2 _ _ (by omega) hm2 rfl rfl)).trans (belowK_b (w := w) (Nat.le_refl _) _ D _ _ (by omega) hm1' rfl rfl)
    case stop2 =>
      rintro D2 c pre U hD2 hpre ⟨rfl, hall, bR, hB2, hz2, hK2⟩ hKm
      refine wpIn_ret ?_
      have hans : validS ys = false := by
        rw [HVS.out]
        obtain ⟨r, hr'⟩ := hpre
        rw [← hr', List.all_append, hall]
        rfl
      have hm1' : (U.putObj D2 (.deferred none)).heap[D]? = some (.deferred (some [])) := (World.putObj_heap_other (by omega)).trans hK2
      refine ⟨by simp, .inl ⟨_, _, rfl, run_takeDeferred hKm, by simp, .inl ⟨_, _, rfl, run_takeDeferred hm1', ?_⟩⟩⟩
      have bR3 : Boxed ((U.putObj D2 (.deferred none)).putObj D (.deferred none)) w.heap.size 4 (.bool false) := (World.putObj_heap_other (by omega)).trans ((World.putObj_heap_other (by omega)).trans bR)
      have cR3 := bR3.cell
      refine ⟨.bool false, by simp [results, Tryd.results46, go_sem, cR3], by rw [hans], ?_⟩
      exact (hB2.trans (belowK_b (w := w) (Nat.le_refl _) U D2 _ _ (by omega) hKm rfl rfl)).trans (belowK_b (w := w) (Nat.le_refl _) _ D _ _ (by omega) hm1' rfl rfl)
  case stop =>
    rintro D c pre W hD hpre ⟨rfl, hv, bR, hB, hz⟩ hK
    refine wpIn_ret ?_
    have hall : validS zs = false := by
      obtain ⟨r, rfl⟩ := hpre
      unfold validS
      rw [val1_append, hv]
      rfl
    refine ⟨by simp, .inl ⟨_, _, rfl, run_takeDeferred hK, ?_⟩⟩
    have bR1 : Boxed (W.putObj D (.deferred none)) w.heap.size 4 (.bool false) := (World.putObj_heap_other (by omega)).trans bR
    have cR := bR1.cell
    refine ⟨.bool false, by simp [results, Tryd.results46, go_sem, cR], by rw [hall], ?_⟩
    exact hB.trans (belowK_b (w := w) (Nat.le_refl _) W D _ _ (by omega) hK rfl rfl)
end Go.Proofs.YtknlbeojdmeljaaDoor.H
namespace Go.Proofs.YtknlbeojdmeljaaDoor.P
open Go.RowKit Go.Proofs.YtknlbeojdmeljaaDoorW.PrintWords Go.Proofs.YtknlbeojdmeljaaDoorW.PrintLast Go.Proofs.YtknlbeojdmeljaaDoorW.PrintMore
attribute [local go_sem] max2_int min2_int max_two min_two max_three min_three max_four min_four   -- for this text's walks alone
set_option linter.unusedVariables false
set_option linter.unusedSimpArgs false
def slotmeshref33_Bytes.l0 : Nat → List Int → List Int → Int → Option (Bool)
  | 0, _, _, _ => none
  | k + 1, x0, x1, x5 => if x5 < (x0.length : Int) then (if 0 ≤ x5 then (if x5 < (x1.length : Int) then (if (rd x0 x5) = (rd x1 x5) then (slotmeshref33_Bytes.l0 k x0 x1 (wrap64 (x5 + 1))) else (some false)) else (none)) else (none)) else (some true)
def slotmeshref33_Bytes.f (k : Nat) (l0 : List Int) (l1 : List Int) : Option (Bool) := if (l0.length : Int) = (l1.length : Int) then (slotmeshref33_Bytes.l0 k l0 l1 0) else (some false)
set_option maxHeartbeats 8000000 in
set_option maxRecDepth 100000 in
theorem slotmeshref33_Bytes.calls (k : Nat) (A0 : Option Addr) (c0 : Nat) (l0 : List Int) (A1 : Option Addr) (c1 : Nat) (l1 : List Int) (r : Bool) (w : World) (hr0 : Kd.C (Kd.int .u8) w A0 l0.length l0) (hc0 : l0.length ≤ c0) (hr1 : Kd.C (Kd.int .u8) w A1 l1.length l1) (hc1 : l1.length ≤ c1) (h : slotmeshref33_Bytes.f k l0 l1 = some r) :
    Calls Tryd.prog 22 #[.slice A0 l0.length c0, .slice A1 l1.length c1] w fun e w' => e = .returned (.bool r) ∧ Drawn0 w w' := by
  have HR0 := Aside0.mk hr0
  have HC0 := Aside0.mk hc0
  clear hr0 hc0
  have HR1 := Aside0.mk hr1
  have HC1 := Aside0.mk hc1
  clear hr1 hc1
  have H : (if (l0.length : Int) = (l1.length : Int) then (slotmeshref33_Bytes.l0 k l0 l1 0) else (some false)) = some r := h
  clear h
  by_cases c3 : (l0.length : Int) = (l1.length : Int)
  · rw [if_pos c3] at H
    have c3b0 : ((l0.length : Int) == (l1.length : Int)) = true := beq_iff_eq.mpr c3
    have c3b1 : ((l0.length : Int) != (l1.length : Int)) = false := bne_eq_false_iff_eq.mpr c3
    have c3b2 : (l0.length == l1.length) = true := by first | simpa using c3 | (simp at c3 ⊢; omega)
    clear c3
    have H' := Aside0.mk H
    clear H
    go_enter Tryd.func22, Tryd.ntmps22
    go_wp2
    repeat (go_quiet (fail); try go_wp2)
    go_loopg [5] k (fun kq v5 w' => ∃ (x5_1 : Int), v5 = .int .i64 x5_1 ∧ Aside0 (slotmeshref33_Bytes.l0 kq l0 l1 x5_1 = some r) ∧ Aside0 (kq ≤ k) ∧ Drawn0 w w')
    case atStart => exact ⟨(0), (by first | rfl | (simp; done) | (simp [*]; done)), H', ⟨Nat.le_refl _⟩, by repeat (first | exact Drawn0.refl _ | apply Drawn0.step)⟩
    case round =>
      clear H'
      try clear c1
      try clear c2
      try clear p2
      try clear c3
      try clear c3b0
      try clear c3b1
      try clear c3b2
      obtain ⟨x5_1, rfl, HA, HK1, ⟨m1, rfl⟩⟩ := hrel
      cases gk with
      | zero => exact absurd HA.out (by simp [slotmeshref33_Bytes.l0])
      | succ k1 =>
        have H := HA.out
        clear HA
        simp only [slotmeshref33_Bytes.l0] at H
        by_cases c4 : x5_1 < (l0.length : Int)
        · rw [if_pos c4] at H
          have c4b0 : decide (x5_1 < (l0.length : Int)) = true := decide_eq_true c4
          clear c4
          by_cases c5 : 0 ≤ x5_1
          · rw [if_pos c5] at H
            have c5b0 : decide (0 ≤ x5_1) = true := decide_eq_true c5
            clear c5
            by_cases c6 : x5_1 < (l1.length : Int)
            · rw [if_pos c6] at H
              have c6b0 : decide (x5_1 < (l1.length : Int)) = true := decide_eq_true c6
              clear c6
              by_cases c7 : (rd l0 x5_1) = (rd l1 x5_1)
              · rw [if_pos c7] at H
                have c7b0 : ((rd l0 x5_1) == (rd l1 x5_1)) = true := beq_iff_eq.mpr c7
                have c7b1 : ((rd l0 x5_1) != (rd l1 x5_1)) = false := bne_eq_false_iff_eq.mpr c7
                clear c7
                have H' := Aside0.mk H
                clear H
                have p101 : 0 ≤ (x5_1 : Int) := of_decide_eq_true (by first | (with_reducible assumption) | assumption)
                have q101 : x5_1 < (l0.length : Int) := of_decide_eq_true (by first | (with_reducible assumption) | assumption)
                obtain ⟨ad101, e101, hx101_0⟩ := Kd.at_int HR0.out x5_1 p101 q101
                cases e101
                replace p101 := eq_true p101
                replace q101 := eq_true q101
                have p102 : 0 ≤ (x5_1 : Int) := of_decide_eq_true (by first | (with_reducible assumption) | assumption)
                have q102 : x5_1 < (l1.length : Int) := of_decide_eq_true (by first | (with_reducible assumption) | assumption)
                obtain ⟨ad102, e102, hx102_0⟩ := Kd.at_int HR1.out x5_1 p102 q102
                cases e102
                replace p102 := eq_true p102
                replace q102 := eq_true q102
                go_wp2
                repeat (go_quiet (fail); try go_wp2)
                go_roundg k1
                case measure => have := HK1.out; omega
                case rel => exact ⟨(wrap64 (x5_1 + 1)), (by first | rfl | (simp; done) | (simp [*]; done)), H', ⟨by have := HK1.out; omega⟩, by repeat (first | exact Drawn0.refl _ | apply Drawn0.step)⟩
              · rw [if_neg c7] at H
                have c7b0 : ((rd l0 x5_1) == (rd l1 x5_1)) = false := beq_eq_false_iff_ne.mpr c7
                have c7b1 : ((rd l0 x5_1) != (rd l1 x5_1)) = true := bne_iff_ne.mpr c7
                obtain rfl := Option.some.inj H
                have p101 : 0 ≤ (x5_1 : Int) := of_decide_eq_true (by first | (with_reducible assumption) | assumption)
                have q101 : x5_1 < (l0.length : Int) := of_decide_eq_true (by first | (with_reducible assumption) | assumption)
                obtain ⟨ad101, e101, hx101_0⟩ := Kd.at_int HR0.out x5_1 p101 q101
                cases e101
                replace p101 := eq_true p101
                replace q101 := eq_true q101
                have p102 : 0 ≤ (x5_1 : Int) := of_decide_eq_true (by first | (with_reducible assumption) | assumption)
                have q102 : x5_1 < (l1.length : Int) := of_decide_eq_true (by first | (with_reducible assumption) | assumption)
                obtain ⟨ad102, e102, hx102_0⟩ := Kd.at_int HR1.out x5_1 p102 q102
                cases e102
                replace p102 := eq_true p102
                replace q102 := eq_true q102
                go_wp2
                repeat (go_quiet (fail); try go_wp2)
                go_ret
                exact ⟨by first | rfl | (simp; done) | (simp [*]; done), by repeat (first | exact Drawn0.refl _ | apply Drawn0.step)⟩
            · rw [if_neg c6] at H
              exact absurd H (by simp)
          · rw [if_neg c5] at H
            exact absurd H (by simp)
        · rw [if_neg c4] at H
          have c4b0 : decide (x5_1 < (l0.length : Int)) = false := decide_eq_false c4
          clear c4
          obtain rfl := Option.some.inj H
          go_wp2
          repeat (go_quiet (fail); try go_wp2)
          go_ret
          exact ⟨by first | rfl | (simp; done) | (simp [*]; done), by repeat (first | exact Drawn0.refl _ | apply Drawn0.step)⟩
  · rw [if_neg c3] at H
    have c3b0 : ((l0.length : Int) == (l1.length : Int)) = false := beq_eq_false_iff_ne.mpr c3
    have c3b1 : ((l0.length : Int) != (l1.length : Int)) = true := bne_iff_ne.mpr c3
    have c3b2 : (l0.length == l1.length) = false := by first | simpa using c3 | (simp at c3 ⊢; omega)
    obtain rfl := Option.some.inj H
    go_enter Tryd.func22, Tryd.ntmps22
    go_wp2
    repeat (go_quiet (fail); try go_wp2)
    go_ret
    exact ⟨by first | rfl | (simp; done) | (simp [*]; done), by repeat (first | exact Drawn0.refl _ | apply Drawn0.step)⟩
def slotmeshref33_Few.l0 : Nat → List (S25) → Int → Option (Bool)
  | 0, _, _ => none
  | k + 1, x0, x3 => if x3 < (x0.length : Int) then (if 0 ≤ x3 then (if (((rd_T25 x0 x3).f1).length : Int) > 100 then (some false) else (slotmeshref33_Few.l0 k x0 (wrap64 (x3 + 1)))) else (none)) else (some (decide ((x0.length : Int) ≤ 40)))
def slotmeshref33_Few.f (k : Nat) (l0 : List (S25)) : Option (Bool) := slotmeshref33_Few.l0 k l0 0
set_option maxHeartbeats 8000000 in
set_option maxRecDepth 100000 in
theorem slotmeshref33_Few.calls (k : Nat) (A0 : Option Addr) (c0 : Nat) (l0 : List (S25)) (r : Bool) (w : World) (hr0 : Kd.C k25 w A0 l0.length l0) (hc0 : l0.length ≤ c0) (h : slotmeshref33_Few.f k l0 = some r) :
    Calls Tryd.prog 11 #[.slice A0 l0.length c0] w fun e w' => e = .returned (.bool r) ∧ Drawn0 w w' := by
  have HR0 := Aside0.mk hr0
  have HC0 := Aside0.mk hc0
  clear hr0 hc0
  have H : (slotmeshref33_Few.l0 k l0 0) = some r := h
  clear h
  have H' := Aside0.mk H
  clear H
  go_enter Tryd.func11, Tryd.ntmps11
  go_wp2
  go_loopg [3] k (fun kq v3 w' => ∃ (x3_1 : Int), v3 = .int .i64 x3_1 ∧ Aside0 (slotmeshref33_Few.l0 kq l0 x3_1 = some r) ∧ Aside0 (kq ≤ k) ∧ Drawn0 w w')
  case atStart => exact ⟨(0), (by first | rfl | (simp; done) | (simp [*]; done)), H', ⟨Nat.le_refl _⟩, by repeat (first | exact Drawn0.refl _ | apply Drawn0.step)⟩
  case round =>
    clear H'
    try clear c1
    obtain ⟨x3_1, rfl, HA, HK1, ⟨m1, rfl⟩⟩ := hrel
    cases gk with
    | zero => exact absurd HA.out (by simp [slotmeshref33_Few.l0])
    | succ k1 =>
      have H := HA.out
      clear HA
      simp only [slotmeshref33_Few.l0] at H
      by_cases c2 : x3_1 < (l0.length : Int)
      · rw [if_pos c2] at H
        have c2b0 : decide (x3_1 < (l0.length : Int)) = true := decide_eq_true c2
        clear c2
        by_cases c3 : 0 ≤ x3_1
        · rw [if_pos c3] at H
          have c3b0 : decide (0 ≤ x3_1) = true := decide_eq_true c3
          clear c3
          by_cases c4 : (((rd_T25 l0 x3_1).f1).length : Int) > 100
          · rw [if_pos c4] at H
            have c4b0 : decide (100 < (((rd_T25 l0 x3_1).f1).length : Int)) = true := decide_eq_true c4
            have c4b1 : decide (100 < ((rd_T25 l0 x3_1).f1).length) = true := decide_eq_true (by omega)
            clear c4
            obtain rfl := Option.some.inj H
            have p103 : 0 ≤ (x3_1 : Int) := of_decide_eq_true (by first | (with_reducible assumption) | assumption)
            have q103 : x3_1 < (l0.length : Int) := of_decide_eq_true (by first | (with_reducible assumption) | assumption)
            obtain ⟨ad103, A103_1, c103_1, e103, hx103_0, hx103_1, hl103_1, hi103_1⟩ := at_T25 HR0.out x3_1 p103 q103
            cases e103
            have HR103_1 := Aside0.mk hi103_1
            have HC103_1 := Aside0.mk hl103_1
            clear hi103_1 hl103_1
            replace p103 := eq_true p103
            replace q103 := eq_true q103
            go_wp2
            go_ret
            exact ⟨by first | rfl | (simp; done) | (simp [*]; done), by repeat (first | exact Drawn0.refl _ | apply Drawn0.step)⟩
          · rw [if_neg c4] at H
            have c4b0 : decide (100 < (((rd_T25 l0 x3_1).f1).length : Int)) = false := decide_eq_false c4
            have c4b1 : decide (100 < ((rd_T25 l0 x3_1).f1).length) = false := decide_eq_false (by omega)
            clear c4
            have H' := Aside0.mk H
            clear H
            have p103 : 0 ≤ (x3_1 : Int) := of_decide_eq_true (by first | (with_reducible assumption) | assumption)
            have q103 : x3_1 < (l0.length : Int) := of_decide_eq_true (by first | (with_reducible assumption) | assumption)
            obtain ⟨ad103, A103_1, c103_1, e103, hx103_0, hx103_1, hl103_1, hi103_1⟩ := at_T25 HR0.out x3_1 p103 q103
            cases e103
            have HR103_1 := Aside0.mk hi103_1
            have HC103_1 := Aside0.mk hl103_1
            clear hi103_1 hl103_1
            replace p103 := eq_true p103
            replace q103 := eq_true q103
            go_wp2
            go_roundg k1
            case measure => have := HK1.out; omega
            case rel => exact ⟨(wrap64 (x3_1 + 1)), (by first | rfl | (simp; done) | (simp [*]; done)), H', ⟨by have := HK1.out; omega⟩, by repeat (first | exact Drawn0.refl _ | apply Drawn0.step)⟩
        · rw [if_neg c3] at H
          exact absurd H (by simp)
      · rw [if_neg c2] at H
        have c2b0 : decide (x3_1 < (l0.length : Int)) = false := decide_eq_false c2
        clear c2
        obtain rfl := Option.some.inj H
        go_wp2
        go_ret
        exact ⟨by first | rfl | (simp; done) | (simp [*]; done), by repeat (first | exact Drawn0.refl _ | apply Drawn0.step)⟩
def slotmeshref33_Xor.l0 : Nat → List Int → List Int → List Int → Int → Option (List Int)
  | 0, _, _, _, _ => none
  | k + 1, x0, x1, x5, x6 => if x6 < 16 then (if 0 ≤ x6 then (if x6 < (x0.length : Int) then (if x6 < (x1.length : Int) then (if x5.length < 140737488355328 then (slotmeshref33_Xor.l0 k x0 x1 (x5 ++ [Go.bits .xor .u8 (rd x0 x6) (rd x1 x6)]) (wrap64 (x6 + 1))) else (none)) else (none)) else (none)) else (none)) else (some x5)
def slotmeshref33_Xor.f (k : Nat) (l0 : List Int) (l1 : List Int) : Option (List Int) := slotmeshref33_Xor.l0 k l0 l1 ([] : List Int) 0
def slotmeshref33_Xor.T5 : Bool × List (List Nat × List Nat) := (true, [([], []), ([], []), ([], []), ([1, 2], [1, 2]), ([3], [3]), ([], []), ([], []), ([5, 6], [5, 6]), ([7], [7]), ([4, 8], [4, 8]), ([9], [9]), ([0, 10], [0, 10]), ([11, 11, 0, 1, 2, 3, 4, 5, 6, 7, 8, 9, 10, 11], [0, 11])])
def slotmeshref33_Xor.B5 : List Nat := [0, 0, 0, 6, 14, 0, 0, 96, 224, 510, 1022, 2047, 4095]
theorem slotmeshref33_Xor.tab5 : rtab .any (opsOf Tryd.f26 5) = slotmeshref33_Xor.T5 := by kernel_rfl
theorem slotmeshref33_Xor.bits5 : waitsOk slotmeshref33_Xor.T5.2 slotmeshref33_Xor.B5 = true := by kernel_rfl
set_option maxHeartbeats 8000000 in
set_option maxRecDepth 100000 in
theorem slotmeshref33_Xor.calls (k : Nat) (A0 : Option Addr) (c0 : Nat) (l0 : List Int) (A1 : Option Addr) (c1 : Nat) (l1 : List Int) (r : List Int) (w : World) (hr0 : Kd.C (Kd.int .u8) w A0 l0.length l0) (hc0 : l0.length ≤ c0) (hr1 : Kd.C (Kd.int .u8) w A1 l1.length l1) (hc1 : l1.length ≤ c1) (h : slotmeshref33_Xor.f k l0 l1 = some r) :
    Calls Tryd.prog 26 #[.slice A0 l0.length c0, .slice A1 l1.length c1] w fun e w' => ∃ v0_ : Value, e = .returned (v0_) ∧ Kd.R (Kd.int .u8) 5 w' w.heap.size (fun _ => True) v0_ r ∧ Below w.heap.size w w' := by
  have HR0 := Aside0.mk hr0
  have HC0 := Aside0.mk hc0
  clear hr0 hc0
  have HR1 := Aside0.mk hr1
  have HC1 := Aside0.mk hc1
  clear hr1 hc1
  have HB := Aside0.mk (Below.refl w.heap.size w)
  have H : (slotmeshref33_Xor.l0 k l0 l1 ([] : List Int) 0) = some r := h
  clear h
  have H' := Aside0.mk H
  clear H
  go_enter Tryd.func26, Tryd.ntmps26
  go_wp2
  go_loopg [5, 6] k (fun kq v5 v6 w' => ∃ (x5_1 : List Int) (x6_1 : Int), v6 = .int .i64 x6_1 ∧ Aside0 (slotmeshref33_Xor.l0 kq l0 l1 x5_1 x6_1 = some r) ∧ Aside0 (kq ≤ k) ∧ Aside0 (Kd.R (Kd.int .u8) 5 w' w.heap.size (fun _ => True) v5 x5_1) ∧ Aside0 (Below w.heap.size w w'))
  case atStart => exact ⟨(([] : List Int)), (0), (by first | rfl | (simp; done) | (simp [*]; done)), H', ⟨Nat.le_refl _⟩, ⟨by first | exact Kd.R_nil _ _ _ _ _ | exact Kd.N_nil _ _ _ _ _ | exact Kd.V_nil _ _ _ _ _ | exact Kd.Q_nil _ _ _ _ _ | exact Kd.S_nil _ _ _ _ _⟩, ⟨by repeat (first | (with_reducible first | exact HB.out | apply below_alloc | apply pw_below_drewN | apply below_drew1) | exact HB.out)⟩⟩
  case round =>
    clear H'
    try clear c1
    try clear c2
    try clear p2
    obtain ⟨x5_1, x6_1, rfl, HA, HK1, HO_5, HB⟩ := hrel
    cases gk with
    | zero => exact absurd HA.out (by simp [slotmeshref33_Xor.l0])
    | succ k1 =>
      have H := HA.out
      clear HA
      simp only [slotmeshref33_Xor.l0] at H
      by_cases c3 : x6_1 < 16
      · rw [if_pos c3] at H
        have c3b0 : decide (x6_1 < 16) = true := decide_eq_true c3
        clear c3
        by_cases c4 : 0 ≤ x6_1
        · rw [if_pos c4] at H
          have c4b0 : decide (0 ≤ x6_1) = true := decide_eq_true c4
          clear c4
          by_cases c5 : x6_1 < (l0.length : Int)
          · rw [if_pos c5] at H
            have c5b0 : decide (x6_1 < (l0.length : Int)) = true := decide_eq_true c5
            clear c5
            by_cases c6 : x6_1 < (l1.length : Int)
            · rw [if_pos c6] at H
              have c6b0 : decide (x6_1 < (l1.length : Int)) = true := decide_eq_true c6
              clear c6
              by_cases c7 : x5_1.length < 140737488355328
              · rw [if_pos c7] at H
                have LMc7 := Aside0.mk c7
                clear c7
                obtain ⟨y106, hy106⟩ : ∃ y_ : List Int, y_ = (x5_1 ++ [Go.bits .xor .u8 (rd l0 x6_1) (rd l1 x6_1)]) := ⟨_, rfl⟩
                replace H : (slotmeshref33_Xor.l0 k1 l0 l1 y106 (wrap64 (x6_1 + 1))) = some r := by first | (rw [hy106]; with_reducible exact H) | (have H2_ := (Option.bind_some _ _).symm.trans H; rw [hy106]; with_reducible exact H2_) | (have H2_ := (Option.bind_some _ _).symm.trans H; with_reducible exact H2_) | with_reducible exact H | (rw [hy106]; exact H) | exact H
                have Ny106 := Aside0.mk hy106
                clear hy106
                have H' := Aside0.mk H
                clear H
                try go_wp2
                have n0_ := Aside0.mk (Kd.R_drew HO_5.out)
                have n1_ := Aside0.mk (below_drew1 HB.out)
                clear HO_5
                clear HB
                have HO_5 := n0_
                have HB := n1_
                clear n0_ n1_
                have p104 : 0 ≤ (x6_1 : Int) := of_decide_eq_true (by first | (with_reducible assumption) | assumption)
                have q104 : x6_1 < (l0.length : Int) := of_decide_eq_true (by first | (with_reducible assumption) | assumption)
                obtain ⟨ad104, e104, hx104_0⟩ := Kd.at_int HR0.out x6_1 p104 q104
                have hw104_0 := hx104_0
                cases e104
                replace hx104_0 := (HB.out.cell (World.block_lt_of_cell? w _ hx104_0)).trans hx104_0
                replace p104 := eq_true p104
                replace q104 := eq_true q104
                have p105 : 0 ≤ (x6_1 : Int) := of_decide_eq_true (by first | (with_reducible assumption) | assumption)
                have q105 : x6_1 < (l1.length : Int) := of_decide_eq_true (by first | (with_reducible assumption) | assumption)
                obtain ⟨ad105, e105, hx105_0⟩ := Kd.at_int HR1.out x6_1 p105 q105
                have hw105_0 := hx105_0
                cases e105
                replace hx105_0 := (HB.out.cell (World.block_lt_of_cell? w _ hx105_0)).trans hx105_0
                replace p105 := eq_true p105
                replace q105 := eq_true q105
                refine start_ (n := 13) (S := fun w' => w'.cell? (ad104.add (x6_1).toNat) = some (.int .u8 (rd l0 x6_1)) ∧ w'.cell? (ad105.add (x6_1).toNat) = some (.int .u8 (rd l1 x6_1))) (ds := []) (bl 13 0) (by kernel_rfl) rfl rfl ⟨((HB.out.cell (World.block_lt_of_cell? w _ hw104_0)).trans hw104_0), ((HB.out.cell (World.block_lt_of_cell? w _ hw105_0)).trans hw105_0)⟩ (fun hHeld => ?_); refine with_tabW slotmeshref33_Xor.tab5 slotmeshref33_Xor.bits5 (fun HT_ HW_ => ?_)
                generalize wr.drew = w8 at HO_5 HB hx104_0 hx105_0 hHeld ⊢
                refine pU 0 11 (bl 13 1) (any_of HT_.out (by kernel_rfl)) (h := ?_)
                refine pU 1 12 (bl 13 3) (any_of HT_.out (by kernel_rfl)) (h := ?_)
                refine pU 2 13 (bl 13 7) (any_of HT_.out (by kernel_rfl)) (h := ?_)
                refine pU 3 14 (bl 13 15) (any_of HT_.out (by kernel_rfl)) (h := ?_)
                refine pU 5 16 (bl 13 47) (any_of HT_.out (by kernel_rfl)) (h := ?_)
                refine pU 6 17 (bl 13 111) (any_of HT_.out (by kernel_rfl)) (h := ?_)
                refine pU 7 18 (bl 13 239) (any_of HT_.out (by kernel_rfl)) (h := ?_)
                refine tU 4 15 (bl 13 255) (take_ofW HT_.out HW_.out (by kernel_rfl)) hHeld (hy := by rintro w' ⟨s0, s1⟩; go_simp; with_reducible rfl) (h := ?_)
                refine tU 8 19 (bl 13 511) (take_ofW HT_.out HW_.out (by kernel_rfl)) hHeld (hy := by rintro w' ⟨s0, s1⟩; go_simp; with_reducible rfl) (h := ?_)
                refine pU 9 20 (bl 13 1023) (any_of HT_.out (by kernel_rfl)) (h := ?_)
                refine one_ (i := 10) (N := some 21) (bl 13 2047) rfl rfl (one_of HT_.out (by kernel_rfl)) (by decide) (fun K hK => ?_)
                refine value_ (w1 := ?_) (v := ?_) (by rfl) rfl ?_ ?_
                rotate_left 2
                · go_simp
                  constructor
                  · rfl
                  · rfl
                refine hK.out _ _ ⟨(World.cell?_alloc_lt _ _ _ (World.block_lt_of_cell? _ _ (((HB.out.cell (World.block_lt_of_cell? w _ hw104_0)).trans hw104_0)))).trans (((HB.out.cell (World.block_lt_of_cell? w _ hw104_0)).trans hw104_0)), (World.cell?_alloc_lt _ _ _ (World.block_lt_of_cell? _ _ (((HB.out.cell (World.block_lt_of_cell? w _ hw105_0)).trans hw105_0)))).trans (((HB.out.cell (World.block_lt_of_cell? w _ hw105_0)).trans hw105_0))⟩ (fun hHeld => ?_)
                clear hK K
                refine nU 21 (h := ?_)
                refine one_ (i := 11) (N := some 22) (bl 13 4095) rfl rfl (one_of HT_.out (by kernel_rfl)) (by decide) (fun K hK => ?_)
                refine Kd.R_append_step (Kd.int .u8) (w0 := w) w.heap.size (by rfl) (.tmp 11) (.tmp 21) 22 5 (.int .u8 0) 1 rfl Tryd.underlying22 info5 rfl (by decide) (by omega) u5 x5_1 (Go.bits .xor .u8 (rd l0 x6_1) (rd l1 x6_1)) [.int .u8 (Go.bits .xor .u8 (rd l0 x6_1) (rd l1 x6_1))] (fun _ => True) (fun _ => False) rfl rfl ?aP (fun _ hk => hk.elim) ?aF ?aO ?aB ?aS ?aL ?_
                (case aP => exact rfl)
                (case aB => exact (by repeat (first | (with_reducible first | exact HB.out | apply below_alloc | apply pw_below_drewN | apply below_drew1) | exact HB.out)))
                (case aF => exact (fun _ _ => trivial))
                (case aO => exact (by (with_reducible repeat (first | apply Kd.R_alloc | apply Kd.R_drewN | apply Kd.R_drew)); exact HO_5.out))
                (case aS => exact (below_size (by repeat (first | (with_reducible first | exact HB.out | apply below_alloc | apply pw_below_drewN | apply below_drew1) | exact HB.out))))
                (case aL => have := LMc7.out; omega)
                intro v107 w9 ho hb hg hat
                rw [← Ny106.out] at ho
                have n0_ := Aside0.mk (hb)
                have n1_ := Aside0.mk (ho)
                clear HB
                clear HO_5
                have HB := n0_
                have HO108 := n1_
                clear n0_ n1_
                clear ho hb hg hat
                refine hK.out _ _ ⟨((HB.out.cell (World.block_lt_of_cell? w _ hw104_0)).trans hw104_0), ((HB.out.cell (World.block_lt_of_cell? w _ hw105_0)).trans hw105_0)⟩ (fun hHeld => ?_)
                clear hK K
                refine nU 22 (h := ?_)
                refine pU 12 5 (bl 13 8191) (any_of HT_.out (by kernel_rfl)) (h := ?_)
                refine done_ (done_of HT_.out (by kernel_rfl)) ?_
                try go_wp2
                go_roundg k1
                case measure => have := HK1.out; omega
                case rel => exact ⟨(y106), (wrap64 (x6_1 + 1)), (by first | rfl | (simp; done) | (simp [*]; done)), H', ⟨by have := HK1.out; omega⟩, ⟨by (with_reducible repeat (first | apply Kd.R_alloc | apply Kd.R_drewN | apply Kd.R_drew)); exact HO108.out⟩, ⟨by repeat (first | (with_reducible first | exact HB.out | apply below_alloc | apply pw_below_drewN | apply below_drew1) | exact HB.out)⟩⟩
              · rw [if_neg c7] at H
                exact absurd H (by simp)
            · rw [if_neg c6] at H
              exact absurd H (by simp)
          · rw [if_neg c5] at H
            exact absurd H (by simp)
        · rw [if_neg c4] at H
          exact absurd H (by simp)
      · rw [if_neg c3] at H
        have c3b0 : decide (x6_1 < 16) = false := decide_eq_false c3
        clear c3
        obtain rfl := Option.some.inj H
        go_wp2
        go_ret
        exact ⟨_, by first | rfl | (simp [errW_none, errW_some] <;> rfl) | (simp [*, errW_none, errW_some] <;> rfl), by (with_reducible repeat (first | apply Kd.R_alloc | apply Kd.R_drewN | apply Kd.R_drew)); exact HO_5.out, by repeat (first | (with_reducible first | exact HB.out | apply below_alloc | apply pw_below_drewN | apply below_drew1) | exact HB.out)⟩
def slotmeshref33_Formed.f (a0_0 : Int) (l0_1 : List Int) : Option (Bool) := if a0_0 ≥ 1 then (if a0_0 < 65536 then (some ((l0_1.length : Int) == 16)) else (some false)) else (some false)
set_option maxHeartbeats 8000000 in
set_option maxRecDepth 100000 in
theorem slotmeshref33_Formed.calls (a0_0 : Int) (A0_1 : Option Addr) (c0_1 : Nat) (l0_1 : List Int) (r : Bool) (w : World) (hr0_1 : Kd.C (Kd.int .u8) w A0_1 l0_1.length l0_1) (hc0_1 : l0_1.length ≤ c0_1) (h : slotmeshref33_Formed.f a0_0 l0_1 = some r) :
    Calls Tryd.prog 52 #[.agg #[.int .i64 a0_0, .slice A0_1 l0_1.length c0_1]] w fun e w' => e = .returned (.bool r) ∧ Below w.heap.size w w' := by
  have hu52 := Tryd.underlying52
  have HR0_1 := Aside0.mk hr0_1
  have HC0_1 := Aside0.mk hc0_1
  clear hr0_1 hc0_1
  have HB := Aside0.mk (Below.refl w.heap.size w)
  have H : (if a0_0 ≥ 1 then (if a0_0 < 65536 then (some ((l0_1.length : Int) == 16)) else (some false)) else (some false)) = some r := h
  clear h
  by_cases c2 : a0_0 ≥ 1
  · rw [if_pos c2] at H
    have c2b0 : decide (1 ≤ a0_0) = true := decide_eq_true c2
    clear c2
    by_cases c3 : a0_0 < 65536
    · rw [if_pos c3] at H
      have c3b0 : decide (a0_0 < 65536) = true := decide_eq_true c3
      clear c3
      obtain rfl := Option.some.inj H
      go_enter Tryd.func52, Tryd.ntmps52
      go_wp2_with (first | ((with_reducible refine gate_dst (N := 1) rfl ?_); (try (refine gate_guard (by rfl) ?_; dsimp only)); refine box_event ?hg (N := 1) ?hd (cs := #[.int .i64 a0_0, .slice A0_1 l0_1.length c0_1]) (t := 52) ?hr ?_; (case hd => rfl); (case hg => rfl); (case hr => first | (go_simp; done) | (go_simp; rfl)); intro gb109 hg w4 hbox hb; have n0_ := Aside0.mk (below_step (by repeat (first | (with_reducible first | exact HB.out | apply below_alloc | apply pw_below_drewN | apply below_drew1) | exact HB.out)) hb); have n1_ := Aside0.mk (hbox); have n2_ := Aside0.mk ((by rw [hg]; exact (below_size (by repeat (first | (with_reducible first | exact HB.out | apply below_alloc | apply pw_below_drewN | apply below_drew1) | exact HB.out))) : w.heap.size ≤ gb109)); have n3_ := Aside0.mk ((by rw [hg]; exact (below_size (by repeat (first | (with_reducible first | exact HB.out | apply below_alloc | apply pw_below_drewN | apply below_drew1) | exact HB.out))) : w.heap.size ≤ gb109)); clear HB; have HB := n0_; have BK109 := n1_; have GW109 := n2_; have GE109 := n3_; clear n0_ n1_ n2_ n3_; clear hb hbox hg; have hcz5_0 : w4.cell? ⟨gb109, 0, none⟩ = some (.int .i64 a0_0) := (blk_cell BK109.out 0).trans rfl; have hcz5_1 : w4.cell? ⟨gb109, 1, none⟩ = some (.slice A0_1 l0_1.length c0_1) := (blk_cell BK109.out 1).trans rfl; have hfz5_0 := blk_frozen BK109.out 0; have hfz5_1 := blk_frozen BK109.out 1))
      go_ret
      exact ⟨by first | rfl | (simp [errW_none, errW_some] <;> rfl) | (simp [*, errW_none, errW_some] <;> rfl), by repeat (first | (with_reducible first | exact HB.out | apply below_alloc | apply pw_below_drewN | apply below_drew1 | refine below_set ?_ GE109.out) | exact HB.out)⟩
    · rw [if_neg c3] at H
      have c3b0 : decide (a0_0 < 65536) = false := decide_eq_false c3
      clear c3
      obtain rfl := Option.some.inj H
      go_enter Tryd.func52, Tryd.ntmps52
      go_wp2_with (first | ((with_reducible refine gate_dst (N := 1) rfl ?_); (try (refine gate_guard (by rfl) ?_; dsimp only)); refine box_event ?hg (N := 1) ?hd (cs := #[.int .i64 a0_0, .slice A0_1 l0_1.length c0_1]) (t := 52) ?hr ?_; (case hd => rfl); (case hg => rfl); (case hr => first | (go_simp; done) | (go_simp; rfl)); intro gb109 hg w6 hbox hb; have n0_ := Aside0.mk (below_step (by repeat (first | (with_reducible first | exact HB.out | apply below_alloc | apply pw_below_drewN | apply below_drew1) | exact HB.out)) hb); have n1_ := Aside0.mk (hbox); have n2_ := Aside0.mk ((by rw [hg]; exact (below_size (by repeat (first | (with_reducible first | exact HB.out | apply below_alloc | apply pw_below_drewN | apply below_drew1) | exact HB.out))) : w.heap.size ≤ gb109)); have n3_ := Aside0.mk ((by rw [hg]; exact (below_size (by repeat (first | (with_reducible first | exact HB.out | apply below_alloc | apply pw_below_drewN | apply below_drew1) | exact HB.out))) : w.heap.size ≤ gb109)); clear HB; have HB := n0_; have BK109 := n1_; have GW109 := n2_; have GE109 := n3_; clear n0_ n1_ n2_ n3_; clear hb hbox hg; have hcz7_0 : w6.cell? ⟨gb109, 0, none⟩ = some (.int .i64 a0_0) := (blk_cell BK109.out 0).trans rfl; have hcz7_1 : w6.cell? ⟨gb109, 1, none⟩ = some (.slice A0_1 l0_1.length c0_1) := (blk_cell BK109.out 1).trans rfl; have hfz7_0 := blk_frozen BK109.out 0; have hfz7_1 := blk_frozen BK109.out 1))
      go_ret
      exact ⟨by first | rfl | (simp [errW_none, errW_some] <;> rfl) | (simp [*, errW_none, errW_some] <;> rfl), by repeat (first | (with_reducible first | exact HB.out | apply below_alloc | apply pw_below_drewN | apply below_drew1 | refine below_set ?_ GE109.out) | exact HB.out)⟩
  · rw [if_neg c2] at H
    have c2b0 : decide (1 ≤ a0_0) = false := decide_eq_false c2
    clear c2
    obtain rfl := Option.some.inj H
    go_enter Tryd.func52, Tryd.ntmps52
    go_wp2_with (first | ((with_reducible refine gate_dst (N := 1) rfl ?_); (try (refine gate_guard (by rfl) ?_; dsimp only)); refine box_event ?hg (N := 1) ?hd (cs := #[.int .i64 a0_0, .slice A0_1 l0_1.length c0_1]) (t := 52) ?hr ?_; (case hd => rfl); (case hg => rfl); (case hr => first | (go_simp; done) | (go_simp; rfl)); intro gb109 hg w8 hbox hb; have n0_ := Aside0.mk (below_step (by repeat (first | (with_reducible first | exact HB.out | apply below_alloc | apply pw_below_drewN | apply below_drew1) | exact HB.out)) hb); have n1_ := Aside0.mk (hbox); have n2_ := Aside0.mk ((by rw [hg]; exact (below_size (by repeat (first | (with_reducible first | exact HB.out | apply below_alloc | apply pw_below_drewN | apply below_drew1) | exact HB.out))) : w.heap.size ≤ gb109)); have n3_ := Aside0.mk ((by rw [hg]; exact (below_size (by repeat (first | (with_reducible first | exact HB.out | apply below_alloc | apply pw_below_drewN | apply below_drew1) | exact HB.out))) : w.heap.size ≤ gb109)); clear HB; have HB := n0_; have BK109 := n1_; have GW109 := n2_; have GE109 := n3_; clear n0_ n1_ n2_ n3_; clear hb hbox hg; have hcz9_0 : w8.cell? ⟨gb109, 0, none⟩ = some (.int .i64 a0_0) := (blk_cell BK109.out 0).trans rfl; have hcz9_1 : w8.cell? ⟨gb109, 1, none⟩ = some (.slice A0_1 l0_1.length c0_1) := (blk_cell BK109.out 1).trans rfl; have hfz9_0 := blk_frozen BK109.out 0; have hfz9_1 := blk_frozen BK109.out 1))
    go_ret
    exact ⟨by first | rfl | (simp [errW_none, errW_some] <;> rfl) | (simp [*, errW_none, errW_some] <;> rfl), by repeat (first | (with_reducible first | exact HB.out | apply below_alloc | apply pw_below_drewN | apply below_drew1 | refine below_set ?_ GE109.out) | exact HB.out)⟩
def slotmeshref33_Leading.l0 : Nat → Int → Int → Option (Int)
  | 0, _, _ => none
  | k + 1, x0, x3 => if (wrap64 (x3 * 2)) ≤ x0 then (slotmeshref33_Leading.l0 k x0 (wrap64 (x3 * 2))) else (some x3)
def slotmeshref33_Leading.f (k : Nat) (a0 : Int) : Option (Int) := slotmeshref33_Leading.l0 k a0 1
set_option maxHeartbeats 8000000 in
set_option maxRecDepth 100000 in
theorem slotmeshref33_Leading.calls (k : Nat) (a0 : Int) (r : Int) (w : World) (h : slotmeshref33_Leading.f k a0 = some r) :
    Calls Tryd.prog 56 #[.int .i64 a0] w fun e w' => e = .returned (.int .i64 r) ∧ Drawn0 w w' := by
  have H : (slotmeshref33_Leading.l0 k a0 1) = some r := h
  clear h
  have H' := Aside0.mk H
  clear H
  go_enter Tryd.func56, Tryd.ntmps56
  go_wp2
  go_loopg [3] k (fun kq v3 w' => ∃ (x3_1 : Int), v3 = .int .i64 x3_1 ∧ Aside0 (slotmeshref33_Leading.l0 kq a0 x3_1 = some r) ∧ Aside0 (kq ≤ k) ∧ Drawn0 w w')
  case atStart => exact ⟨(1), (by first | rfl | (simp; done) | (simp [*]; done)), H', ⟨Nat.le_refl _⟩, by repeat (first | exact Drawn0.refl _ | apply Drawn0.step)⟩
  case round =>
    clear H'
    obtain ⟨x3_1, rfl, HA, HK1, ⟨m1, rfl⟩⟩ := hrel
    cases gk with
    | zero => exact absurd HA.out (by simp [slotmeshref33_Leading.l0])
    | succ k1 =>
      have H := HA.out
      clear HA
      simp only [slotmeshref33_Leading.l0] at H
      by_cases c2 : (wrap64 (x3_1 * 2)) ≤ a0
      · rw [if_pos c2] at H
        have c2b0 : decide ((wrap64 (x3_1 * 2)) ≤ a0) = true := decide_eq_true c2
        clear c2
        have H' := Aside0.mk H
        clear H
        go_wp2
        go_roundg k1
        case measure => have := HK1.out; omega
        case rel => exact ⟨(wrap64 (x3_1 * 2)), (by first | rfl | (simp; done) | (simp [*]; done)), H', ⟨by have := HK1.out; omega⟩, by repeat (first | exact Drawn0.refl _ | apply Drawn0.step)⟩
      · rw [if_neg c2] at H
        have c2b0 : decide ((wrap64 (x3_1 * 2)) ≤ a0) = false := decide_eq_false c2
        clear c2
        obtain rfl := Option.some.inj H
        go_wp2
        go_ret
        exact ⟨by first | rfl | (simp; done) | (simp [*]; done), by repeat (first | exact Drawn0.refl _ | apply Drawn0.step)⟩
end Go.Proofs.YtknlbeojdmeljaaDoor.P
namespace Go.Proofs.YtknlbeojdmeljaaDoor.P
open Go.RowKit Go.Proofs.YtknlbeojdmeljaaDoorW.PrintWords Go.Proofs.YtknlbeojdmeljaaDoorW.PrintLast Go.Proofs.YtknlbeojdmeljaaDoorW.PrintMore
attribute [local go_sem] max2_int min2_int max_two min_two max_three min_three max_four min_four   -- for this text's walks alone
set_option linter.unusedVariables false
set_option linter.unusedSimpArgs false
def slotmeshref33_reduce.l0 : Nat → List (S25) → Int → Int → List Int → Option (Int × List Int)
  | 0, _, _, _, _ => none
  | k + 1, x0, x5, x120000, x120001 => if x5 < (x0.length : Int) then (if 0 ≤ x5 then ((slotmeshref33_Leading.f k ((rd_T25 x0 x5).f0)).bind fun t122 => (if (Go.bits .and .i64 x120000 t122) = 0 then (slotmeshref33_reduce.l0 k x0 (wrap64 (x5 + 1)) x120000 x120001) else ((slotmeshref33_Xor.f k x120001 ((rd_T25 x0 x5).f1)).bind fun t125 => (slotmeshref33_reduce.l0 k x0 (wrap64 (x5 + 1)) (Go.bits .xor .i64 x120000 ((rd_T25 x0 x5).f0)) t125)))) else (none)) else (some (x120000, x120001))
def slotmeshref33_reduce.f (k : Nat) (l0 : List (S25)) (a1_0 : Int) (l1_1 : List Int) : Option (Int × List Int) := slotmeshref33_reduce.l0 k l0 0 a1_0 l1_1
def slotmeshref33_reduce.T4 : Bool × List (List Nat × List Nat) := (true, [([], []), ([0], [0]), ([], []), ([], []), ([2, 3], [2, 3]), ([4], [4]), ([5], [5]), ([6], [6]), ([1, 7], [1, 7]), ([8], [8])])
def slotmeshref33_reduce.B4 : List Nat := [0, 1, 0, 0, 12, 28, 60, 124, 255, 511]
theorem slotmeshref33_reduce.tab4 : rtab .any (opsOf Tryd.f53 4) = slotmeshref33_reduce.T4 := by kernel_rfl
theorem slotmeshref33_reduce.bits4 : waitsOk slotmeshref33_reduce.T4.2 slotmeshref33_reduce.B4 = true := by kernel_rfl
def slotmeshref33_reduce.T5 : Bool × List (List Nat × List Nat) := (true, [([], []), ([0], [0]), ([], []), ([], []), ([2, 3], [2, 3]), ([4], [4]), ([5], [5]), ([1, 6], [1, 6]), ([], []), ([8], [8]), ([], []), ([], []), ([10, 11], [10, 11]), ([12], [12]), ([13], [13]), ([9, 14], [9, 14]), ([7, 15], [7, 15]), ([16, 15, 0, 1, 2, 3, 4, 5, 6, 7, 8, 9, 10, 11, 12, 13, 14, 15, 16], [16])])
def slotmeshref33_reduce.B5 : List Nat := [0, 1, 0, 0, 12, 28, 60, 127, 0, 256, 0, 0, 3072, 7168, 15360, 32512, 65535, 131071]
theorem slotmeshref33_reduce.tab5 : rtab .any (opsOf Tryd.f53 5) = slotmeshref33_reduce.T5 := by kernel_rfl
theorem slotmeshref33_reduce.bits5 : waitsOk slotmeshref33_reduce.T5.2 slotmeshref33_reduce.B5 = true := by kernel_rfl
set_option maxHeartbeats 8000000 in
set_option maxRecDepth 100000 in
theorem slotmeshref33_reduce.calls (k : Nat) (A0 : Option Addr) (c0 : Nat) (l0 : List (S25)) (a1_0 : Int) (P1_1_ : Nat → Prop) (A1_1 : Option Addr) (c1_1 : Nat) (l1_1 : List Int) (r1 : Int) (r2 : List Int) (w : World) (hr0 : Kd.C k25 w A0 l0.length l0) (hc0 : l0.length ≤ c0) (hs1_1 : Kd.V (Kd.int .u8) 5 w w.heap.size (fun k_ => P1_1_ k_) (.slice A1_1 l1_1.length c1_1) l1_1) (h : slotmeshref33_reduce.f k l0 a1_0 l1_1 = some (r1, r2)) :
    Calls Tryd.prog 53 #[.slice A0 l0.length c0, .agg #[.int .i64 a1_0, .slice A1_1 l1_1.length c1_1]] w fun e w' => ∃ v1_ : Value, e = .returned (.agg #[.int .i64 r1, v1_]) ∧ Kd.V (Kd.int .u8) 5 w' w.heap.size (fun k_ => (P1_1_ k_ ∨ w.heap.size ≤ k_)) v1_ r2 ∧ Below w.heap.size w w' := by
  have hu52 := Tryd.underlying52
  have HR0 := Aside0.mk hr0
  have HC0 := Aside0.mk hc0
  clear hr0 hc0
  have HO1_1 := Aside0.mk (show Kd.V (Kd.int .u8) 5 w w.heap.size (fun k_ => (P1_1_ k_ ∨ w.heap.size ≤ k_)) (.slice A1_1 l1_1.length c1_1) l1_1 from Kd.V_mono hs1_1 (fun k_ hk => .inl hk))
  have HB := Aside0.mk (Below.refl w.heap.size w)
  have H : (slotmeshref33_reduce.l0 k l0 0 a1_0 l1_1) = some (r1, r2) := h
  clear h
  have H' := Aside0.mk H
  clear H
  go_enter Tryd.func53, Tryd.ntmps53
  go_wp2_with (first | ((with_reducible refine gate_dst (N := 3) rfl ?_); refine box_event ?hg (N := 3) ?hd (cs := #[.int .i64 a1_0, .slice A1_1 l1_1.length c1_1]) (t := 52) ?hr ?_; (case hd => rfl); (case hg => rfl); (case hr => first | (go_simp; done) | (go_simp; rfl)); intro gb119 hg w3 hbox hb; have n0_ := Aside0.mk (Kd.V_below (Kd.V_elderB (by (with_reducible repeat (first | apply Kd.V_alloc | apply Kd.V_drewN | apply Kd.V_drew)); exact HO1_1.out) gb119 (Nat.le_of_eq hg.symm)) hb); have n1_ := Aside0.mk (below_step (by repeat (first | (with_reducible first | exact HB.out | apply below_alloc | apply pw_below_drewN | apply below_drew1) | exact HB.out)) hb); have n2_ := Aside0.mk (hbox); have n3_ := Aside0.mk ((by rw [hg]; exact (below_size (by repeat (first | (with_reducible first | exact HB.out | apply below_alloc | apply pw_below_drewN | apply below_drew1) | exact HB.out))) : w.heap.size ≤ gb119)); have n4_ := Aside0.mk ((by rw [hg]; exact (below_size (by repeat (first | (with_reducible first | exact HB.out | apply below_alloc | apply pw_below_drewN | apply below_drew1) | exact HB.out))) : w.heap.size ≤ gb119)); clear HO1_1; clear HB; have HO1_1 := n0_; have HB := n1_; have BK119 := n2_; have GW119 := n3_; have GE119 := n4_; clear n0_ n1_ n2_ n3_ n4_; clear hb hbox hg) | ((with_reducible refine gate_dst (N := 4) rfl ?_); refine box_event ?hg (N := 4) ?hd (cs := #[.int .i64 0, .slice none 0 0]) (t := 52) ?hr ?_; (case hd => rfl); (case hg => rfl); (case hr => first | (go_simp; done) | (go_simp; rfl)); intro gb120 hg w4 hbox hb; have n0_ := Aside0.mk (Kd.V_below (Kd.V_elderB (by (with_reducible repeat (first | apply Kd.V_alloc | apply Kd.V_drewN | apply Kd.V_drew)); exact HO1_1.out) gb120 (Nat.le_of_eq hg.symm)) hb); have n1_ := Aside0.mk (blk_below (g := gb119) (o := .cells #[.int .i64 a1_0, .slice A1_1 l1_1.length c1_1] 52 (0, 0)) (by (with_reducible repeat (first | refine blk_drewN ?_ _ | refine blk_drew ?_ | refine blk_alloc ?_ _)); exact BK119.out) hb); have n2_ := Aside0.mk (below_step (by repeat (first | (with_reducible first | exact HB.out | apply below_alloc | apply pw_below_drewN | apply below_drew1 | refine below_set ?_ GE119.out) | exact HB.out)) hb); have n3_ := Aside0.mk (hbox); have n4_ := Aside0.mk ((by rw [hg]; exact (below_size (by repeat (first | (with_reducible first | exact HB.out | apply below_alloc | apply pw_below_drewN | apply below_drew1 | refine below_set ?_ GE119.out) | exact HB.out))) : w.heap.size ≤ gb120)); have n5_ := Aside0.mk ((by rw [hg]; exact (below_size (by repeat (first | (with_reducible first | exact HB.out | apply below_alloc | apply pw_below_drewN | apply below_drew1 | refine below_set ?_ GE119.out) | exact HB.out))) : w.heap.size ≤ gb120)); have n6_ := Aside0.mk ((by rw [hg]; exact Nat.ne_of_lt (blk_lt (g := gb119) (o := .cells #[.int .i64 a1_0, .slice A1_1 l1_1.length c1_1] 52 (0, 0)) (by (with_reducible repeat (first | refine blk_drewN ?_ _ | refine blk_drew ?_ | refine blk_alloc ?_ _)); exact BK119.out)) : gb119 ≠ gb120)); have n7_ := Aside0.mk ((by rw [hg]; exact Nat.ne_of_gt (blk_lt (g := gb119) (o := .cells #[.int .i64 a1_0, .slice A1_1 l1_1.length c1_1] 52 (0, 0)) (by (with_reducible repeat (first | refine blk_drewN ?_ _ | refine blk_drew ?_ | refine blk_alloc ?_ _)); exact BK119.out)) : gb120 ≠ gb119)); clear HO1_1; clear BK119; clear HB; have HO1_1 := n0_; have BK119 := n1_; have HB := n2_; have BK120 := n3_; have GW120 := n4_; have GE120 := n5_; have NB119_120 := n6_; have NB120_119 := n7_; clear n0_ n1_ n2_ n3_ n4_ n5_ n6_ n7_; clear hb hbox hg))
  go_loopg [5] k (fun kq v5 w' => ∃ (x5_1 : Int) (x120000_1 : Int) (x120001_1 : List Int) (u120001 : Value), v5 = .int .i64 x5_1 ∧ Aside0 (slotmeshref33_reduce.l0 kq l0 x5_1 x120000_1 x120001_1 = some (r1, r2)) ∧ Aside0 (kq ≤ k) ∧ Aside0 (Kd.V (Kd.int .u8) 5 w' w.heap.size (fun k_ => (P1_1_ k_ ∨ w.heap.size ≤ k_) ∧ k_ ≠ gb119 ∧ k_ ≠ gb120) u120001 x120001_1) ∧ Aside0 (w'.heap[gb119]? = some (.cells #[.int .i64 x120000_1, u120001] 52 (0, 0))) ∧ Aside0 (w'.heap[gb120]? = some (.cells #[.int .i64 0, (.slice none 0 0)] 52 (0, 0))) ∧ Aside0 (Below w.heap.size w w'))
  case atStart => exact ⟨(0), (a1_0), (l1_1), (.slice A1_1 l1_1.length c1_1), (by first | rfl | (simp; done) | (simp [*]; done)), H', ⟨Nat.le_refl _⟩, ⟨by (with_reducible repeat (first | apply Kd.V_alloc | apply Kd.V_drewN | apply Kd.V_drew)); exact Kd.V_mono HO1_1.out (fun _ hk => And.intro hk.1.1 (And.intro hk.1.2 hk.2))⟩, ⟨by (with_reducible repeat (first | refine blk_drewN ?_ _ | refine blk_drew ?_ | refine blk_alloc ?_ _)); exact BK119.out⟩, ⟨by (with_reducible repeat (first | refine blk_drewN ?_ _ | refine blk_drew ?_ | refine blk_alloc ?_ _)); exact BK120.out⟩, ⟨by repeat (first | (with_reducible first | exact HB.out | apply below_alloc | apply pw_below_drewN | apply below_drew1 | refine below_set ?_ GE119.out | refine below_set ?_ GE120.out) | exact HB.out)⟩⟩
  case round =>
    clear H'
    try clear c1
    try clear p2
    obtain ⟨x5_1, x120000_1, x120001_1, u120001, rfl, HA, HK1, HO_120001, BK119, BK120, HB⟩ := hrel
    cases gk with
    | zero => exact absurd HA.out (by simp [slotmeshref33_reduce.l0])
    | succ k1 =>
      have H := HA.out
      clear HA
      simp only [slotmeshref33_reduce.l0] at H
      by_cases c5 : x5_1 < (l0.length : Int)
      · rw [if_pos c5] at H
        have c5b0 : decide (x5_1 < (l0.length : Int)) = true := decide_eq_true c5
        clear c5
        by_cases c6 : 0 ≤ x5_1
        · rw [if_pos c6] at H
          have c6b0 : decide (0 ≤ x5_1) = true := decide_eq_true c6
          clear c6
          replace H := Option.bind_eq_some_iff.mp H
          obtain ⟨t122, A70, H⟩ := H
          replace H : (if (Go.bits .and .i64 x120000_1 t122) = 0 then (slotmeshref33_reduce.l0 k1 l0 (wrap64 (x5_1 + 1)) x120000_1 x120001_1) else ((slotmeshref33_Xor.f k1 x120001_1 ((rd_T25 l0 x5_1).f1)).bind fun t125 => (slotmeshref33_reduce.l0 k1 l0 (wrap64 (x5_1 + 1)) (Go.bits .xor .i64 x120000_1 ((rd_T25 l0 x5_1).f0)) t125))) = some (r1, r2) := H
          have A7 := Aside0.mk A70
          clear A70
          by_cases c8 : (Go.bits .and .i64 x120000_1 t122) = 0
          · rw [if_pos c8] at H
            have c8b0 : ((Go.bits .and .i64 x120000_1 t122) == 0) = true := beq_iff_eq.mpr c8
            have c8b1 : ((Go.bits .and .i64 x120000_1 t122) != 0) = false := bne_eq_false_iff_eq.mpr c8
            clear c8
            have H' := Aside0.mk H
            clear H
            try go_wp2
            have n0_ := Aside0.mk (Kd.V_drew HO_120001.out)
            have n1_ := Aside0.mk (blk_drew BK119.out)
            have n2_ := Aside0.mk (blk_drew BK120.out)
            have n3_ := Aside0.mk (below_drew1 HB.out)
            clear HO_120001
            clear BK119
            clear BK120
            clear HB
            have HO_120001 := n0_
            have BK119 := n1_
            have BK120 := n2_
            have HB := n3_
            clear n0_ n1_ n2_ n3_
            have p121 : 0 ≤ (x5_1 : Int) := of_decide_eq_true (by first | (with_reducible assumption) | assumption)
            have q121 : x5_1 < (l0.length : Int) := of_decide_eq_true (by first | (with_reducible assumption) | assumption)
            obtain ⟨ad121, A121_1, c121_1, e121, hx121_0, hx121_1, hl121_1, hi121_1⟩ := at_T25 HR0.out x5_1 p121 q121
            have hw121_1 := hx121_1
            have hw121_0 := hx121_0
            cases e121
            replace hx121_0 := (HB.out.cell (World.block_lt_of_cell? w _ hx121_0)).trans hx121_0
            replace hx121_1 := (HB.out.cell (World.block_lt_of_cell? w _ hx121_1)).trans hx121_1
            have HR121_1 := Aside0.mk hi121_1
            have HC121_1 := Aside0.mk hl121_1
            clear hi121_1 hl121_1
            replace p121 := eq_true p121
            replace q121 := eq_true q121
            refine start_ (n := 10) (S := fun w' => w'.cell? ⟨gb119, 0, none⟩ = some (.int .i64 x120000_1) ∧ w'.cell? ⟨gb119, 1, none⟩ = some (u120001) ∧ w'.cell? (ad121.add ((x5_1).toNat * 2)) = some (.int .i64 ((rd_T25 l0 x5_1).f0)) ∧ w'.cell? ⟨(ad121.add ((x5_1).toNat * 2)).block, (ad121.add ((x5_1).toNat * 2)).off + 1, none⟩ = some (.slice A121_1 ((rd_T25 l0 x5_1).f1).length c121_1)) (ds := []) (bl 10 0) (by kernel_rfl) rfl rfl ⟨(blk_cell BK119.out 0).trans rfl, (blk_cell BK119.out 1).trans rfl, ((HB.out.cell (World.block_lt_of_cell? w _ hw121_0)).trans hw121_0), ((HB.out.cell (World.block_lt_of_cell? w _ hw121_1)).trans hw121_1)⟩ (fun hHeld => ?_); refine with_tabW slotmeshref33_reduce.tab4 slotmeshref33_reduce.bits4 (fun HT_ HW_ => ?_)
            generalize wr.drew = w9 at HO_120001 BK119 BK120 HB HR121_1 hx121_0 hx121_1 hHeld ⊢
            refine pU 0 12 (bl 10 1) (any_of HT_.out (by kernel_rfl)) (h := ?_)
            refine pU 2 14 (bl 10 5) (any_of HT_.out (by kernel_rfl)) (h := ?_)
            refine pU 3 15 (bl 10 13) (any_of HT_.out (by kernel_rfl)) (h := ?_)
            refine pU 4 16 (bl 10 29) (any_of HT_.out (by kernel_rfl)) (h := ?_)
            refine pU 5 17 (bl 10 61) (any_of HT_.out (by kernel_rfl)) (h := ?_)
            refine tU 1 13 (bl 10 63) (take_ofW HT_.out HW_.out (by kernel_rfl)) hHeld (hy := by rintro w' ⟨s0, s1, s2, s3⟩; go_simp; with_reducible rfl) (h := ?_)
            refine tU 6 18 (bl 10 127) (take_ofW HT_.out HW_.out (by kernel_rfl)) hHeld (hy := by rintro w' ⟨s0, s1, s2, s3⟩; go_simp; with_reducible rfl) (h := ?_)
            refine one_ (i := 7) (N := some 19) (bl 10 255) rfl rfl (one_of HT_.out (by kernel_rfl)) (by decide) (fun K hK => ?_)
            refine goes_ Tryd.func56 (by kernel_rfl) rfl #[.int .i64 ((rd_T25 l0 x5_1).f0)] (by rfl) rfl rfl (by (try simp only [List.map_toArray, List.map_cons, List.map_nil]); first | done | rfl | (simp only [List.length_drop, List.length_take]; rfl)) ?_
            with_reducible refine (slotmeshref33_Leading.calls k1 ((rd_T25 l0 x5_1).f0) t122 _ A7.out).mono ?_
            rintro e w' ⟨rfl, ⟨nd, rfl⟩⟩
            refine ⟨_, rfl, ?_⟩
            refine hK.out _ _ ⟨(blk_cell BK119.out 0).trans rfl, (blk_cell BK119.out 1).trans rfl, ((HB.out.cell (World.block_lt_of_cell? w _ hw121_0)).trans hw121_0), ((HB.out.cell (World.block_lt_of_cell? w _ hw121_1)).trans hw121_1)⟩ (fun hHeld => ?_)
            clear hK K
            refine nU 19 (h := ?_)
            refine pU 8 20 (bl 10 511) (any_of HT_.out (by kernel_rfl)) (h := ?_)
            refine pU 9 21 (bl 10 1023) (any_of HT_.out (by kernel_rfl)) (h := ?_)
            refine done_ (done_of HT_.out (by kernel_rfl)) ?_
            try go_wp2
            go_roundg k1
            case measure => have := HK1.out; omega
            case rel => exact ⟨(wrap64 (x5_1 + 1)), (x120000_1), (x120001_1), (u120001), (by first | rfl | (simp; done) | (simp [*]; done)), H', ⟨by have := HK1.out; omega⟩, ⟨by (with_reducible repeat (first | apply Kd.V_alloc | apply Kd.V_drewN | apply Kd.V_drew)); exact HO_120001.out⟩, ⟨by (with_reducible repeat (first | refine blk_drewN ?_ _ | refine blk_drew ?_ | refine blk_alloc ?_ _)); exact BK119.out⟩, ⟨by (with_reducible repeat (first | refine blk_drewN ?_ _ | refine blk_drew ?_ | refine blk_alloc ?_ _)); exact BK120.out⟩, ⟨by repeat (first | (with_reducible first | exact HB.out | apply below_alloc | apply pw_below_drewN | apply below_drew1 | refine below_set ?_ GE119.out | refine below_set ?_ GE120.out) | exact HB.out)⟩⟩
          · rw [if_neg c8] at H
            have c8b0 : ((Go.bits .and .i64 x120000_1 t122) == 0) = false := beq_eq_false_iff_ne.mpr c8
            have c8b1 : ((Go.bits .and .i64 x120000_1 t122) != 0) = true := bne_iff_ne.mpr c8
            replace H := Option.bind_eq_some_iff.mp H
            obtain ⟨t125, A100, H⟩ := H
            replace H : (slotmeshref33_reduce.l0 k1 l0 (wrap64 (x5_1 + 1)) (Go.bits .xor .i64 x120000_1 ((rd_T25 l0 x5_1).f0)) t125) = some (r1, r2) := H
            have A10 := Aside0.mk A100
            clear A100
            have H' := Aside0.mk H
            clear H
            try go_wp2
            have n0_ := Aside0.mk (Kd.V_drew HO_120001.out)
            have n1_ := Aside0.mk (blk_drew BK119.out)
            have n2_ := Aside0.mk (blk_drew BK120.out)
            have n3_ := Aside0.mk (below_drew1 HB.out)
            clear HO_120001
            clear BK119
            clear BK120
            clear HB
            have HO_120001 := n0_
            have BK119 := n1_
            have BK120 := n2_
            have HB := n3_
            clear n0_ n1_ n2_ n3_
            have p121 : 0 ≤ (x5_1 : Int) := of_decide_eq_true (by first | (with_reducible assumption) | assumption)
            have q121 : x5_1 < (l0.length : Int) := of_decide_eq_true (by first | (with_reducible assumption) | assumption)
            obtain ⟨ad121, A121_1, c121_1, e121, hx121_0, hx121_1, hl121_1, hi121_1⟩ := at_T25 HR0.out x5_1 p121 q121
            have hw121_1 := hx121_1
            have hw121_0 := hx121_0
            cases e121
            replace hx121_0 := (HB.out.cell (World.block_lt_of_cell? w _ hx121_0)).trans hx121_0
            replace hx121_1 := (HB.out.cell (World.block_lt_of_cell? w _ hx121_1)).trans hx121_1
            have HR121_1 := Aside0.mk hi121_1
            have HC121_1 := Aside0.mk hl121_1
            clear hi121_1 hl121_1
            replace p121 := eq_true p121
            replace q121 := eq_true q121
            refine start_ (n := 10) (S := fun w' => w'.cell? ⟨gb119, 0, none⟩ = some (.int .i64 x120000_1) ∧ w'.cell? ⟨gb119, 1, none⟩ = some (u120001) ∧ w'.cell? (ad121.add ((x5_1).toNat * 2)) = some (.int .i64 ((rd_T25 l0 x5_1).f0)) ∧ w'.cell? ⟨(ad121.add ((x5_1).toNat * 2)).block, (ad121.add ((x5_1).toNat * 2)).off + 1, none⟩ = some (.slice A121_1 ((rd_T25 l0 x5_1).f1).length c121_1)) (ds := []) (bl 10 0) (by kernel_rfl) rfl rfl ⟨(blk_cell BK119.out 0).trans rfl, (blk_cell BK119.out 1).trans rfl, ((HB.out.cell (World.block_lt_of_cell? w _ hw121_0)).trans hw121_0), ((HB.out.cell (World.block_lt_of_cell? w _ hw121_1)).trans hw121_1)⟩ (fun hHeld => ?_); refine with_tabW slotmeshref33_reduce.tab4 slotmeshref33_reduce.bits4 (fun HT_ HW_ => ?_)
            generalize wr.drew = w11 at HO_120001 BK119 BK120 HB HR121_1 hx121_0 hx121_1 hHeld ⊢
            refine pU 0 12 (bl 10 1) (any_of HT_.out (by kernel_rfl)) (h := ?_)
            refine pU 2 14 (bl 10 5) (any_of HT_.out (by kernel_rfl)) (h := ?_)
            refine pU 3 15 (bl 10 13) (any_of HT_.out (by kernel_rfl)) (h := ?_)
            refine pU 4 16 (bl 10 29) (any_of HT_.out (by kernel_rfl)) (h := ?_)
            refine pU 5 17 (bl 10 61) (any_of HT_.out (by kernel_rfl)) (h := ?_)
            refine tU 1 13 (bl 10 63) (take_ofW HT_.out HW_.out (by kernel_rfl)) hHeld (hy := by rintro w' ⟨s0, s1, s2, s3⟩; go_simp; with_reducible rfl) (h := ?_)
            refine tU 6 18 (bl 10 127) (take_ofW HT_.out HW_.out (by kernel_rfl)) hHeld (hy := by rintro w' ⟨s0, s1, s2, s3⟩; go_simp; with_reducible rfl) (h := ?_)
            refine one_ (i := 7) (N := some 19) (bl 10 255) rfl rfl (one_of HT_.out (by kernel_rfl)) (by decide) (fun K hK => ?_)
            refine goes_ Tryd.func56 (by kernel_rfl) rfl #[.int .i64 ((rd_T25 l0 x5_1).f0)] (by rfl) rfl rfl (by (try simp only [List.map_toArray, List.map_cons, List.map_nil]); first | done | rfl | (simp only [List.length_drop, List.length_take]; rfl)) ?_
            with_reducible refine (slotmeshref33_Leading.calls k1 ((rd_T25 l0 x5_1).f0) t122 _ A7.out).mono ?_
            rintro e w' ⟨rfl, ⟨nd, rfl⟩⟩
            refine ⟨_, rfl, ?_⟩
            refine hK.out _ _ ⟨(blk_cell BK119.out 0).trans rfl, (blk_cell BK119.out 1).trans rfl, ((HB.out.cell (World.block_lt_of_cell? w _ hw121_0)).trans hw121_0), ((HB.out.cell (World.block_lt_of_cell? w _ hw121_1)).trans hw121_1)⟩ (fun hHeld => ?_)
            clear hK K
            refine nU 19 (h := ?_)
            refine pU 8 20 (bl 10 511) (any_of HT_.out (by kernel_rfl)) (h := ?_)
            refine pU 9 21 (bl 10 1023) (any_of HT_.out (by kernel_rfl)) (h := ?_)
            refine done_ (done_of HT_.out (by kernel_rfl)) ?_
            try go_wp2
            (try (rw [drewN_self w11]; generalize hq_ : World.drewN w11 _ = w11; have n0_ : Aside0 (Kd.V (Kd.int .u8) 5 w11 w.heap.size (fun k_ => (P1_1_ k_ ∨ w.heap.size ≤ k_) ∧ k_ ≠ gb119 ∧ k_ ≠ gb120) u120001 x120001_1) := ⟨by rw [← hq_]; exact (by (with_reducible repeat (first | apply Kd.V_alloc | apply Kd.V_drewN | apply Kd.V_drew)); exact HO_120001.out)⟩; have n1_ : Aside0 (w11.heap[gb119]? = some (.cells #[.int .i64 x120000_1, u120001] 52 (0, 0))) := ⟨by rw [← hq_]; exact (by (with_reducible repeat (first | refine blk_drewN ?_ _ | refine blk_drew ?_ | refine blk_alloc ?_ _)); exact BK119.out)⟩; have n2_ : Aside0 (w11.heap[gb120]? = some (.cells #[.int .i64 0, .slice none 0 0] 52 (0, 0))) := ⟨by rw [← hq_]; exact (by (with_reducible repeat (first | refine blk_drewN ?_ _ | refine blk_drew ?_ | refine blk_alloc ?_ _)); exact BK120.out)⟩; have n3_ : Aside0 (Below w.heap.size w w11) := ⟨by rw [← hq_]; exact (by repeat (first | (with_reducible first | exact HB.out | apply below_alloc | apply pw_below_drewN | apply below_drew1 | refine below_set ?_ GE119.out | refine below_set ?_ GE120.out) | exact HB.out))⟩; clear HO_120001 BK119 BK120 HB hq_; have HO_120001 := n0_; have BK119 := n1_; have BK120 := n2_; have HB := n3_; clear n0_ n1_ n2_ n3_))
            have n0_ := Aside0.mk (Kd.V_drew HO_120001.out)
            have n1_ := Aside0.mk (blk_drew BK119.out)
            have n2_ := Aside0.mk (blk_drew BK120.out)
            have n3_ := Aside0.mk (below_drew1 HB.out)
            clear HO_120001
            clear BK119
            clear BK120
            clear HB
            have HO_120001 := n0_
            have BK119 := n1_
            have BK120 := n2_
            have HB := n3_
            clear n0_ n1_ n2_ n3_
            have p123 : 0 ≤ (x5_1 : Int) := of_decide_eq_true (by first | (with_reducible assumption) | assumption)
            have q123 : x5_1 < (l0.length : Int) := of_decide_eq_true (by first | (with_reducible assumption) | assumption)
            obtain ⟨ad123, A123_1, c123_1, e123, hx123_0, hx123_1, hl123_1, hi123_1⟩ := at_T25 HR0.out x5_1 p123 q123
            have hw123_1 := hx123_1
            have hw123_0 := hx123_0
            obtain rfl : ad121 = ad123 := (by injection e123)
            replace hx123_0 := (HB.out.cell (World.block_lt_of_cell? w _ hx123_0)).trans hx123_0
            replace hx123_1 := (HB.out.cell (World.block_lt_of_cell? w _ hx123_1)).trans hx123_1
            have HR123_1 := Aside0.mk hi123_1
            have HC123_1 := Aside0.mk hl123_1
            clear hi123_1 hl123_1
            replace p123 := eq_true p123
            replace q123 := eq_true q123
            have p124 : 0 ≤ (x5_1 : Int) := of_decide_eq_true (by first | (with_reducible assumption) | assumption)
            have q124 : x5_1 < (l0.length : Int) := of_decide_eq_true (by first | (with_reducible assumption) | assumption)
            obtain ⟨ad124, A124_1, c124_1, e124, hx124_0, hx124_1, hl124_1, hi124_1⟩ := at_T25 HR0.out x5_1 p124 q124
            have hw124_1 := hx124_1
            have hw124_0 := hx124_0
            obtain rfl : ad121 = ad124 := (by injection e124)
            replace hx124_0 := (HB.out.cell (World.block_lt_of_cell? w _ hx124_0)).trans hx124_0
            replace hx124_1 := (HB.out.cell (World.block_lt_of_cell? w _ hx124_1)).trans hx124_1
            have HR124_1 := Aside0.mk hi124_1
            have HC124_1 := Aside0.mk hl124_1
            clear hi124_1 hl124_1
            replace p124 := eq_true p124
            replace q124 := eq_true q124
            have ea_ := Option.some.inj (hx123_1.symm.trans hx124_1)
            injection ea_ with ea_ en_ ec_
            subst ea_
            subst ec_
            clear en_
            obtain ⟨Ao13, co13, eo13⟩ := Kd.V_slice HO_120001.out
            (first | subst eo13 | (injection eo13 with f1_ f2_ f3_; have f4_ := f1_.symm; have f5_ := f3_.symm; clear f1_ f2_ f3_; subst f4_; subst f5_))
            refine start_ (n := 18) (S := fun w' => w'.cell? ⟨gb119, 0, none⟩ = some (.int .i64 x120000_1) ∧ w'.cell? ⟨gb119, 1, none⟩ = some (.slice Ao13 x120001_1.length co13) ∧ w'.cell? (ad121.add ((x5_1).toNat * 2)) = some (.int .i64 ((rd_T25 l0 x5_1).f0)) ∧ w'.cell? ⟨(ad121.add ((x5_1).toNat * 2)).block, (ad121.add ((x5_1).toNat * 2)).off + 1, none⟩ = some (.slice A123_1 ((rd_T25 l0 x5_1).f1).length c123_1) ∧ w'.cell? (ad121.add ((x5_1).toNat * 2)) = some (.int .i64 ((rd_T25 l0 x5_1).f0)) ∧ w'.cell? ⟨(ad121.add ((x5_1).toNat * 2)).block, (ad121.add ((x5_1).toNat * 2)).off + 1, none⟩ = some (.slice A123_1 ((rd_T25 l0 x5_1).f1).length c123_1)) (ds := [17]) (bl 18 0) (by kernel_rfl) rfl rfl ⟨(blk_cell BK119.out 0).trans rfl, (blk_cell BK119.out 1).trans rfl, ((HB.out.cell (World.block_lt_of_cell? w _ hw123_0)).trans hw123_0), ((HB.out.cell (World.block_lt_of_cell? w _ hw123_1)).trans hw123_1), ((HB.out.cell (World.block_lt_of_cell? w _ hw124_0)).trans hw124_0), ((HB.out.cell (World.block_lt_of_cell? w _ hw124_1)).trans hw124_1)⟩ (fun hHeld => ?_); refine with_tabW slotmeshref33_reduce.tab5 slotmeshref33_reduce.bits5 (fun HT_ HW_ => ?_)
            generalize w11.drew = w12 at HO_120001 BK119 BK120 HB HR123_1 HR124_1 hx123_0 hx123_1 hx124_0 hx124_1 hHeld ⊢
            refine pU 0 22 (bl 18 1) (any_of HT_.out (by kernel_rfl)) (h := ?_)
            refine pU 2 24 (bl 18 5) (any_of HT_.out (by kernel_rfl)) (h := ?_)
            refine pU 3 25 (bl 18 13) (any_of HT_.out (by kernel_rfl)) (h := ?_)
            refine pU 4 26 (bl 18 29) (any_of HT_.out (by kernel_rfl)) (h := ?_)
            refine pU 5 27 (bl 18 61) (any_of HT_.out (by kernel_rfl)) (h := ?_)
            refine pU 8 30 (bl 18 317) (any_of HT_.out (by kernel_rfl)) (h := ?_)
            refine pU 10 32 (bl 18 1341) (any_of HT_.out (by kernel_rfl)) (h := ?_)
            refine pU 11 33 (bl 18 3389) (any_of HT_.out (by kernel_rfl)) (h := ?_)
            refine pU 12 34 (bl 18 7485) (any_of HT_.out (by kernel_rfl)) (h := ?_)
            refine pU 13 35 (bl 18 15677) (any_of HT_.out (by kernel_rfl)) (h := ?_)
            refine tU 1 23 (bl 18 15679) (take_ofW HT_.out HW_.out (by kernel_rfl)) hHeld (hy := by rintro w' ⟨s0, s1, s2, s3, s4, s5⟩; go_simp; with_reducible rfl) (h := ?_)
            refine tU 6 28 (bl 18 15743) (take_ofW HT_.out HW_.out (by kernel_rfl)) hHeld (hy := by rintro w' ⟨s0, s1, s2, s3, s4, s5⟩; go_simp; with_reducible rfl) (h := ?_)
            refine pU 7 29 (bl 18 15871) (any_of HT_.out (by kernel_rfl)) (h := ?_)
            refine tU 9 31 (bl 18 16383) (take_ofW HT_.out HW_.out (by kernel_rfl)) hHeld (hy := by rintro w' ⟨s0, s1, s2, s3, s4, s5⟩; go_simp; with_reducible rfl) (h := ?_)
            refine tU 14 36 (bl 18 32767) (take_ofW HT_.out HW_.out (by kernel_rfl)) hHeld (hy := by rintro w' ⟨s0, s1, s2, s3, s4, s5⟩; go_simp; with_reducible rfl) (h := ?_)
            refine one_ (i := 15) (N := some 37) (bl 18 65535) rfl rfl (one_of HT_.out (by kernel_rfl)) (by decide) (fun K hK => ?_)
            refine goes_ Tryd.func26 (by kernel_rfl) rfl #[.slice Ao13 x120001_1.length co13, .slice A123_1 ((rd_T25 l0 x5_1).f1).length c123_1] (by rfl) rfl rfl (by (try simp only [List.map_toArray, List.map_cons, List.map_nil]); first | done | rfl | (simp only [List.length_drop, List.length_take]; rfl)) ?_
            with_reducible refine (slotmeshref33_Xor.calls k1 _ _ x120001_1 _ _ ((rd_T25 l0 x5_1).f1) t125 _ ?side1 ?side2 ?side3 ?side4 A10.out).mono ?_
            (case side1 => repeat (first | exact (Kd.V_reads' HO_120001.out).2.2 | (with_reducible refine Kd.C_alloc ?_ _) | (with_reducible refine Kd.C_drewN ?_ _) | (with_reducible refine Kd.C_drew ?_)))
            (case side2 => exact (Kd.V_reads' HO_120001.out).2.1)
            (case side3 => repeat (first | exact (Kd.C_below HR124_1.out HB.out) | (with_reducible refine Kd.C_alloc ?_ _) | (with_reducible refine Kd.C_drewN ?_ _) | (with_reducible refine Kd.C_drew ?_)))
            (case side4 => exact HC124_1.out)
            rintro e w14 ⟨v126, rfl, ho0, hb⟩
            refine ⟨_, rfl, ?_⟩
            have n0_ := Aside0.mk (Kd.V_elder' (by (with_reducible repeat (first | apply Kd.V_alloc | apply Kd.V_drewN | apply Kd.V_drew)); exact HO_120001.out) (Kd.R_base ho0) hb)
            have n1_ := Aside0.mk (Kd.R_lower (Kd.R_newM (M := fun k_ => (w.heap.size ≤ k_)) ho0 (below_size (by repeat (first | (with_reducible first | exact HB.out | apply below_alloc | apply pw_below_drewN | apply below_drew1 | refine below_set ?_ GE119.out | refine below_set ?_ GE120.out) | exact HB.out))) (fun k_ h_ => h_)) (below_size (by repeat (first | (with_reducible first | exact HB.out | apply below_alloc | apply pw_below_drewN | apply below_drew1 | refine below_set ?_ GE119.out | refine below_set ?_ GE120.out) | exact HB.out))))
            have n2_ := Aside0.mk (blk_below (g := gb119) (o := .cells #[.int .i64 x120000_1, .slice Ao13 x120001_1.length co13] 52 (0, 0)) (by (with_reducible repeat (first | refine blk_drewN ?_ _ | refine blk_drew ?_ | refine blk_alloc ?_ _)); exact BK119.out) hb)
            have n3_ := Aside0.mk (blk_below (g := gb120) (o := .cells #[.int .i64 0, .slice none 0 0] 52 (0, 0)) (by (with_reducible repeat (first | refine blk_drewN ?_ _ | refine blk_drew ?_ | refine blk_alloc ?_ _)); exact BK120.out) hb)
            have n4_ := Aside0.mk (below_step (by repeat (first | (with_reducible first | exact HB.out | apply below_alloc | apply pw_below_drewN | apply below_drew1 | refine below_set ?_ GE119.out | refine below_set ?_ GE120.out) | exact HB.out)) hb)
            clear HO_120001
            clear BK119
            clear BK120
            clear HB
            have HO_120001 := n0_
            have HO127 := n1_
            have BK119 := n2_
            have BK120 := n3_
            have HB := n4_
            clear n0_ n1_ n2_ n3_ n4_
            (try clear hb)
            (try clear hb2)
            (try clear hk)
            (try clear hi)
            (try clear ho0)
            obtain ⟨Ao15, co15, eo15⟩ := Kd.R_slice HO127.out
            (first | subst eo15 | (injection eo15 with f1_ f2_ f3_; have f4_ := f1_.symm; have f5_ := f3_.symm; clear f1_ f2_ f3_; subst f4_; subst f5_))
            refine hK.out _ _ ⟨(blk_cell BK119.out 0).trans rfl, (blk_cell BK119.out 1).trans rfl, ((HB.out.cell (World.block_lt_of_cell? w _ hw123_0)).trans hw123_0), ((HB.out.cell (World.block_lt_of_cell? w _ hw123_1)).trans hw123_1), ((HB.out.cell (World.block_lt_of_cell? w _ hw124_0)).trans hw124_0), ((HB.out.cell (World.block_lt_of_cell? w _ hw124_1)).trans hw124_1)⟩ (fun hHeld => ?_)
            clear hK K
            refine nU 37 (h := ?_)
            refine pU 16 38 (bl 18 131071) (any_of HT_.out (by kernel_rfl)) (h := ?_)
            refine last_ (i := 17) (N := none) (bl 18 262143) rfl rfl (one_of HT_.out (by kernel_rfl)) (by decide) (fun K hK => ?_)
            have hs16 : w14.cell? ⟨gb119, 0, none⟩ = some (.int .i64 x120000_1) := (blk_cell BK119.out 0).trans rfl
            have hfs16 := blk_frozen BK119.out 0
            have hns16_1 := NB120_119.out
            have hms16_1 := NB119_120.out
            have hs17 : w14.cell? ⟨gb119, 1, none⟩ = some (.slice Ao13 x120001_1.length co13) := (blk_cell BK119.out 1).trans rfl
            have hfs17 := blk_frozen BK119.out 1
            have hns17_1 := NB120_119.out
            have hms17_1 := NB119_120.out
            refine skip_ (w1 := ?_) (by rfl) rfl ?_ ?_
            rotate_left
            · go_simp
              rfl
            refine hK.out _ _ ?_
            clear hK K
            refine done_ (done_of HT_.out (by kernel_rfl)) ?_
            try go_wp2
            go_roundg k1
            case measure => have := HK1.out; omega
            case rel => exact ⟨(wrap64 (x5_1 + 1)), (Go.bits .xor .i64 x120000_1 ((rd_T25 l0 x5_1).f0)), (t125), (.slice Ao15 t125.length co15), (by first | rfl | (simp; done) | (simp [*]; done)), H', ⟨by have := HK1.out; omega⟩, ⟨Kd.V_mono (Kd.R_V (by (with_reducible repeat (first | apply Kd.R_alloc | apply Kd.R_drewN | apply Kd.R_drew)); exact Kd.R_mono (Kd.R_far (p := ⟨gb119, 1, none⟩) (Kd.R_far (p := ⟨gb119, 0, none⟩) (Kd.R_types (Kd.R_types (Kd.R_types HO127.out BK119.out (by decide)) BK120.out (by decide)) BK119.out (by decide)) (fun _ hk => hk.2) (.int .i64 (Go.bits .xor .i64 x120000_1 ((rd_T25 l0 x5_1).f0)))) (fun _ hk => hk.2) (.slice Ao15 t125.length co15)) (fun _ hk => And.intro hk.1.1.1.1 (And.intro hk.1.1.2 hk.1.2)))) (fun k_ hk => by first | exact ⟨(.inr (hk.1)), hk.2⟩ | exact (.inr (hk)))⟩, ⟨by (with_reducible repeat (first | refine blk_drewN ?_ _ | refine blk_drew ?_ | refine blk_alloc ?_ _)); refine blk_put (cs := #[.int .i64 (Go.bits .xor .i64 x120000_1 ((rd_T25 l0 x5_1).f0)), .slice Ao13 x120001_1.length co13]) ?_ 1 _ rfl; (with_reducible repeat (first | refine blk_drewN ?_ _ | refine blk_drew ?_ | refine blk_alloc ?_ _)); refine blk_put (cs := #[.int .i64 x120000_1, .slice Ao13 x120001_1.length co13]) ?_ 0 _ rfl; (with_reducible repeat (first | refine blk_drewN ?_ _ | refine blk_drew ?_ | refine blk_alloc ?_ _)); exact BK119.out⟩, ⟨by (with_reducible repeat (first | refine blk_drewN ?_ _ | refine blk_drew ?_ | refine blk_alloc ?_ _)); refine blk_far ?_ NB120_119.out _; (with_reducible repeat (first | refine blk_drewN ?_ _ | refine blk_drew ?_ | refine blk_alloc ?_ _)); refine blk_far ?_ NB120_119.out _; (with_reducible repeat (first | refine blk_drewN ?_ _ | refine blk_drew ?_ | refine blk_alloc ?_ _)); exact BK120.out⟩, ⟨by repeat (first | (with_reducible first | exact HB.out | apply below_alloc | apply pw_below_drewN | apply below_drew1 | refine below_set ?_ GE119.out | refine below_set ?_ GE120.out) | exact HB.out)⟩⟩
        · rw [if_neg c6] at H
          exact absurd H (by simp)
      · rw [if_neg c5] at H
        have c5b0 : decide (x5_1 < (l0.length : Int)) = false := decide_eq_false c5
        clear c5
        simp only [Option.some.injEq, Prod.mk.injEq] at H
        obtain ⟨rfl, rfl⟩ := H
        have hnb18 := NB119_120.out
        have hnc18 := NB120_119.out
        have hcz19_0 : wr.cell? ⟨gb119, 0, none⟩ = some (.int .i64 x120000_1) := (blk_cell BK119.out 0).trans rfl
        have hcz19_1 : wr.cell? ⟨gb119, 1, none⟩ = some (u120001) := (blk_cell BK119.out 1).trans rfl
        have hfz19_0 := blk_frozen BK119.out 0
        have hfz19_1 := blk_frozen BK119.out 1
        have hcz20_0 : wr.cell? ⟨gb120, 0, none⟩ = some (.int .i64 0) := (blk_cell BK120.out 0).trans rfl
        have hcz20_1 : wr.cell? ⟨gb120, 1, none⟩ = some (.slice none 0 0) := (blk_cell BK120.out 1).trans rfl
        have hfz20_0 := blk_frozen BK120.out 0
        have hfz20_1 := blk_frozen BK120.out 1
        obtain ⟨Ao21, co21, eo21⟩ := Kd.V_slice HO_120001.out
        subst eo21
        go_wp2
        refine bodyPost_ret (results_cell_row rfl _ _ gb120 52 #[.int .i64 x120000_1, .slice Ao21 x120001_1.length co21] (0, 0) _ rfl (by (with_reducible repeat (first | refine blk_drewN ?_ _ | refine blk_drew ?_ | refine blk_alloc ?_ _)); refine blk_put (cs := #[.int .i64 x120000_1, .slice none 0 0]) ?_ 1 _ rfl; (with_reducible repeat (first | refine blk_drewN ?_ _ | refine blk_drew ?_ | refine blk_alloc ?_ _)); refine blk_put (cs := #[.int .i64 0, .slice none 0 0]) ?_ 0 _ rfl; (with_reducible repeat (first | refine blk_drewN ?_ _ | refine blk_drew ?_ | refine blk_alloc ?_ _)); exact BK120.out) Tryd.underlying52 rfl (by kernel_rfl)) rfl ?_
        exact ⟨_, by first | rfl | (simp [errW_none, errW_some] <;> rfl) | (simp [*, errW_none, errW_some] <;> rfl), by (with_reducible repeat (first | apply Kd.V_alloc | apply Kd.V_drewN | apply Kd.V_drew)); exact Kd.V_mono (Kd.V_far (p := ⟨gb120, 1, none⟩) (Kd.V_far (p := ⟨gb120, 0, none⟩) (Kd.V_mono HO_120001.out (fun k_ hk => (⟨hk, hk.2.2⟩ : _ ∧ k_ ≠ gb120))) (fun _ hk => hk.2) (.int .i64 x120000_1)) (fun _ hk => hk.2) (.slice Ao21 x120001_1.length co21)) (fun _ hk => hk.1.1), by repeat (first | (with_reducible first | exact HB.out | apply below_alloc | apply pw_below_drewN | apply below_drew1 | refine below_set ?_ GE119.out | refine below_set ?_ GE120.out) | exact HB.out)⟩
def slotmeshref33_Zero.l0 : Nat → List Int → Int → Option (Bool)
  | 0, _, _ => none
  | k + 1, x0, x3 => if x3 < (x0.length : Int) then (if 0 ≤ x3 then (if (rd x0 x3) = 0 then (slotmeshref33_Zero.l0 k x0 (wrap64 (x3 + 1))) else (some false)) else (none)) else (some true)
def slotmeshref33_Zero.f (k : Nat) (l0 : List Int) : Option (Bool) := slotmeshref33_Zero.l0 k l0 0
set_option maxHeartbeats 8000000 in
set_option maxRecDepth 100000 in
theorem slotmeshref33_Zero.calls (k : Nat) (A0 : Option Addr) (c0 : Nat) (l0 : List Int) (r : Bool) (w : World) (hr0 : Kd.C (Kd.int .u8) w A0 l0.length l0) (hc0 : l0.length ≤ c0) (h : slotmeshref33_Zero.f k l0 = some r) :
    Calls Tryd.prog 54 #[.slice A0 l0.length c0] w fun e w' => e = .returned (.bool r) ∧ Drawn0 w w' := by
  have HR0 := Aside0.mk hr0
  have HC0 := Aside0.mk hc0
  clear hr0 hc0
  have H : (slotmeshref33_Zero.l0 k l0 0) = some r := h
  clear h
  have H' := Aside0.mk H
  clear H
  go_enter Tryd.func54, Tryd.ntmps54
  go_wp2
  go_loopg [3] k (fun kq v3 w' => ∃ (x3_1 : Int), v3 = .int .i64 x3_1 ∧ Aside0 (slotmeshref33_Zero.l0 kq l0 x3_1 = some r) ∧ Aside0 (kq ≤ k) ∧ Drawn0 w w')
  case atStart => exact ⟨(0), (by first | rfl | (simp; done) | (simp [*]; done)), H', ⟨Nat.le_refl _⟩, by repeat (first | exact Drawn0.refl _ | apply Drawn0.step)⟩
  case round =>
    clear H'
    obtain ⟨x3_1, rfl, HA, HK1, ⟨m1, rfl⟩⟩ := hrel
    cases gk with
    | zero => exact absurd HA.out (by simp [slotmeshref33_Zero.l0])
    | succ k1 =>
      have H := HA.out
      clear HA
      simp only [slotmeshref33_Zero.l0] at H
      by_cases c2 : x3_1 < (l0.length : Int)
      · rw [if_pos c2] at H
        have c2b0 : decide (x3_1 < (l0.length : Int)) = true := decide_eq_true c2
        clear c2
        by_cases c3 : 0 ≤ x3_1
        · rw [if_pos c3] at H
          have c3b0 : decide (0 ≤ x3_1) = true := decide_eq_true c3
          clear c3
          by_cases c4 : (rd l0 x3_1) = 0
          · rw [if_pos c4] at H
            have c4b0 : ((rd l0 x3_1) == 0) = true := beq_iff_eq.mpr c4
            have c4b1 : ((rd l0 x3_1) != 0) = false := bne_eq_false_iff_eq.mpr c4
            clear c4
            have H' := Aside0.mk H
            clear H
            have p128 : 0 ≤ (x3_1 : Int) := of_decide_eq_true (by first | (with_reducible assumption) | assumption)
            have q128 : x3_1 < (l0.length : Int) := of_decide_eq_true (by first | (with_reducible assumption) | assumption)
            obtain ⟨ad128, e128, hx128_0⟩ := Kd.at_int HR0.out x3_1 p128 q128
            cases e128
            replace p128 := eq_true p128
            replace q128 := eq_true q128
            go_wp2
            go_roundg k1
            case measure => have := HK1.out; omega
            case rel => exact ⟨(wrap64 (x3_1 + 1)), (by first | rfl | (simp; done) | (simp [*]; done)), H', ⟨by have := HK1.out; omega⟩, by repeat (first | exact Drawn0.refl _ | apply Drawn0.step)⟩
          · rw [if_neg c4] at H
            have c4b0 : ((rd l0 x3_1) == 0) = false := beq_eq_false_iff_ne.mpr c4
            have c4b1 : ((rd l0 x3_1) != 0) = true := bne_iff_ne.mpr c4
            obtain rfl := Option.some.inj H
            have p128 : 0 ≤ (x3_1 : Int) := of_decide_eq_true (by first | (with_reducible assumption) | assumption)
            have q128 : x3_1 < (l0.length : Int) := of_decide_eq_true (by first | (with_reducible assumption) | assumption)
            obtain ⟨ad128, e128, hx128_0⟩ := Kd.at_int HR0.out x3_1 p128 q128
            cases e128
            replace p128 := eq_true p128
            replace q128 := eq_true q128
            go_wp2
            go_ret
            exact ⟨by first | rfl | (simp; done) | (simp [*]; done), by repeat (first | exact Drawn0.refl _ | apply Drawn0.step)⟩
        · rw [if_neg c3] at H
          exact absurd H (by simp)
      · rw [if_neg c2] at H
        have c2b0 : decide (x3_1 < (l0.length : Int)) = false := decide_eq_false c2
        clear c2
        obtain rfl := Option.some.inj H
        go_wp2
        go_ret
        exact ⟨by first | rfl | (simp; done) | (simp [*]; done), by repeat (first | exact Drawn0.refl _ | apply Drawn0.step)⟩
def slotmeshref33_Copy.l0 : Nat → List (S25) → List (S25) → Int → Option ((List (S25)))
  | 0, _, _, _ => none
  | k + 1, x0, x3, x4 => if x4 < (x0.length : Int) then (if 0 ≤ x4 then (if ([] : List Int).length + ((rd_T25 x0 x4).f1).length < 140737488355328 then (if x3.length < 4398046511104 then (slotmeshref33_Copy.l0 k x0 (x3 ++ [(⟨(rd_T25 x0 x4).f0, (([] : List Int) ++ ((rd_T25 x0 x4).f1))⟩ : S25)]) (wrap64 (x4 + 1))) else (none)) else (none)) else (none)) else (some x3)
def slotmeshref33_Copy.f (k : Nat) (l0 : List (S25)) : Option ((List (S25))) := slotmeshref33_Copy.l0 k l0 ([] : List (S25)) 0
set_option maxHeartbeats 8000000 in
set_option maxRecDepth 100000 in
theorem slotmeshref33_Copy.calls (k : Nat) (A0 : Option Addr) (c0 : Nat) (l0 : List (S25)) (r : List (S25)) (w : World) (hr0 : Kd.C k25 w A0 l0.length l0) (hc0 : l0.length ≤ c0) (h : slotmeshref33_Copy.f k l0 = some r) :
    Calls Tryd.prog 55 #[.slice A0 l0.length c0] w fun e w' => ∃ v0_ : Value, e = .returned (v0_) ∧ Kd.S k25 52 w' w.heap.size (fun _ => True) v0_ r ∧ Below w.heap.size w w' := by
  have hu52 := Tryd.underlying52
  have HR0 := Aside0.mk hr0
  have HC0 := Aside0.mk hc0
  clear hr0 hc0
  have HB := Aside0.mk (Below.refl w.heap.size w)
  have H : (slotmeshref33_Copy.l0 k l0 ([] : List (S25)) 0) = some r := h
  clear h
  have H' := Aside0.mk H
  clear H
  go_enter Tryd.func55, Tryd.ntmps55
  go_wp2
  go_loopg [3, 4] k (fun kq v3 v4 w' => ∃ (x3_1 : List (S25)) (x4_1 : Int), v4 = .int .i64 x4_1 ∧ Aside0 (slotmeshref33_Copy.l0 kq l0 x3_1 x4_1 = some r) ∧ Aside0 (kq ≤ k) ∧ Aside0 (Kd.S k25 52 w' w.heap.size (fun _ => True) v3 x3_1) ∧ Aside0 (Below w.heap.size w w'))
  case atStart => exact ⟨(([] : List (S25))), (0), (by first | rfl | (simp; done) | (simp [*]; done)), H', ⟨Nat.le_refl _⟩, ⟨by first | exact Kd.S_nil _ _ _ _ _ | exact Kd.N_nil _ _ _ _ _ | exact Kd.V_nil _ _ _ _ _ | exact Kd.Q_nil _ _ _ _ _ | exact Kd.R_nil _ _ _ _ _⟩, ⟨by repeat (first | (with_reducible first | exact HB.out | apply below_alloc | apply pw_below_drewN | apply below_drew1) | exact HB.out)⟩⟩
  case round =>
    clear H'
    obtain ⟨x3_1, x4_1, rfl, HA, HK1, HO_3, HB⟩ := hrel
    cases gk with
    | zero => exact absurd HA.out (by simp [slotmeshref33_Copy.l0])
    | succ k1 =>
      have H := HA.out
      clear HA
      simp only [slotmeshref33_Copy.l0] at H
      by_cases c2 : x4_1 < (l0.length : Int)
      · rw [if_pos c2] at H
        have c2b0 : decide (x4_1 < (l0.length : Int)) = true := decide_eq_true c2
        clear c2
        by_cases c3 : 0 ≤ x4_1
        · rw [if_pos c3] at H
          have c3b0 : decide (0 ≤ x4_1) = true := decide_eq_true c3
          clear c3
          by_cases c4 : ([] : List Int).length + ((rd_T25 l0 x4_1).f1).length < 140737488355328
          · rw [if_pos c4] at H
            have LMc4 := Aside0.mk c4
            clear c4
            obtain ⟨y130, hy130⟩ : ∃ y_ : List Int, y_ = (([] : List Int) ++ ((rd_T25 l0 x4_1).f1)) := ⟨_, rfl⟩
            replace H : (if x3_1.length < 4398046511104 then (slotmeshref33_Copy.l0 k1 l0 (x3_1 ++ [(⟨(rd_T25 l0 x4_1).f0, y130⟩ : S25)]) (wrap64 (x4_1 + 1))) else (none)) = some r := by first | (rw [hy130]; with_reducible exact H) | (have H2_ := (Option.bind_some _ _).symm.trans H; rw [hy130]; with_reducible exact H2_) | (have H2_ := (Option.bind_some _ _).symm.trans H; with_reducible exact H2_) | with_reducible exact H | (rw [hy130]; exact H) | exact H
            have Ny130 := Aside0.mk hy130
            clear hy130
            by_cases c5 : x3_1.length < 4398046511104
            · rw [if_pos c5] at H
              have LMc5 := Aside0.mk c5
              clear c5
              obtain ⟨y134, hy134⟩ : ∃ y_ : List (S25), y_ = (x3_1 ++ [(⟨(rd_T25 l0 x4_1).f0, y130⟩ : S25)]) := ⟨_, rfl⟩
              replace H : (slotmeshref33_Copy.l0 k1 l0 y134 (wrap64 (x4_1 + 1))) = some r := by first | (rw [hy134]; with_reducible exact H) | (have H2_ := (Option.bind_some _ _).symm.trans H; rw [hy134]; with_reducible exact H2_) | (have H2_ := (Option.bind_some _ _).symm.trans H; with_reducible exact H2_) | with_reducible exact H | (rw [hy134]; exact H) | exact H
              have Ny134 := Aside0.mk hy134
              clear hy134
              have H' := Aside0.mk H
              clear H
              have p129 : 0 ≤ (x4_1 : Int) := of_decide_eq_true (by first | (with_reducible assumption) | assumption)
              have q129 : x4_1 < (l0.length : Int) := of_decide_eq_true (by first | (with_reducible assumption) | assumption)
              obtain ⟨ad129, A129_1, c129_1, e129, hx129_0, hx129_1, hl129_1, hi129_1⟩ := at_T25 HR0.out x4_1 p129 q129
              cases e129
              replace hx129_0 := (HB.out.cell (World.block_lt_of_cell? w _ hx129_0)).trans hx129_0
              replace hx129_1 := (HB.out.cell (World.block_lt_of_cell? w _ hx129_1)).trans hx129_1
              have HR129_1 := Aside0.mk hi129_1
              have HC129_1 := Aside0.mk hl129_1
              clear hi129_1 hl129_1
              replace p129 := eq_true p129
              replace q129 := eq_true q129
              go_wp2_with (first | ((with_reducible refine gate_builtin (b := .append) (xs := #[.tmp 12, .tmp 17]) rfl ?_); at_builtin; refine Kd.R_append_rows (Kd.int .u8) (w0 := w) w.heap.size rfl (.tmp 12) (.tmp 17) 22 5 (.int .u8 0) 1 rfl Tryd.underlying22 info5 rfl (by decide) (by omega) (.slice none 0 0) ([] : List Int) ((rd_T25 l0 x4_1).f1) _ _ _ (fun _ => True) (fun _ => False) rfl rfl ?aO ?aR (fun _ _ h => h) (fun _ h => h.elim) ?aF ?aB ?aS ?aL ?_; (case aR => repeat (first | exact (Kd.C_below HR129_1.out HB.out) | (with_reducible refine Kd.C_alloc ?_ _) | (with_reducible refine Kd.C_drewN ?_ _) | (with_reducible refine Kd.C_drew ?_))); (case aB => exact (by repeat (first | (with_reducible first | exact HB.out | apply below_alloc | apply pw_below_drewN | apply below_drew1) | exact HB.out))); (case aF => exact (fun _ _ => trivial)); (case aO => exact ((Kd.R_nil _ _ _ _ (fun _ => True)))); (case aS => exact (below_size (by repeat (first | (with_reducible first | exact HB.out | apply below_alloc | apply pw_below_drewN | apply below_drew1) | exact HB.out)))); (case aL => have := LMc4.out; omega); intro v131 w6 ho hb hg hat; rw [← Ny130.out] at ho; have n0_ := Aside0.mk (Kd.S_after (Kd.S_apart_nil (by (with_reducible repeat (first | apply Kd.S_alloc | apply Kd.S_drewN | apply Kd.S_drew)); exact HO_3.out)) hg hat); have n1_ := Aside0.mk (hb); have n2_ := Aside0.mk (ho); clear HO_3; clear HB; have HO_3 := n0_; have HB := n1_; have HO132 := n2_; clear n0_ n1_ n2_; clear ho hb hg hat; have p133 : 0 ≤ (x4_1 : Int) := of_decide_eq_true (by first | (with_reducible assumption) | assumption); have q133 : x4_1 < (l0.length : Int) := of_decide_eq_true (by first | (with_reducible assumption) | assumption); obtain ⟨ad133, A133_1, c133_1, e133, hx133_0, hx133_1, hl133_1, hi133_1⟩ := at_T25 HR0.out x4_1 p133 q133; obtain rfl : ad129 = ad133 := (by injection e133); replace hx133_0 := (HB.out.cell (World.block_lt_of_cell? w _ hx133_0)).trans hx133_0; replace hx133_1 := (HB.out.cell (World.block_lt_of_cell? w _ hx133_1)).trans hx133_1; have HR133_1 := Aside0.mk hi133_1; have HC133_1 := Aside0.mk hl133_1; clear hi133_1 hl133_1; replace p133 := eq_true p133; replace q133 := eq_true q133; obtain ⟨Ao7, co7, eo7⟩ := Kd.R_slice HO132.out; subst eo7) | ((with_reducible refine gate_builtin (b := .append) (xs := #[.tmp 19, .tmp 27]) rfl ?_); at_builtin; refine Kd.S_append k25 (w0 := w) w.heap.size rfl (.tmp 19) (.tmp 27) 23 52 (.agg #[(.int .i64 0), (.slice none 0 0)]) 32 rfl Tryd.underlying23 info25 rfl (by decide) (by omega) u3 x3_1 (⟨(rd_T25 l0 x4_1).f0, y130⟩ : S25) [.int .i64 ((rd_T25 l0 x4_1).f0), .slice Ao7 y130.length co7] (fun _ => True) (fun k_ => some k_ = (.slice Ao7 y130.length co7 : Value).ownBlock) rfl rfl ?aP (fun k_ hk_ => ((Kd.R_mono (ok' := fun k_ => ((fun _ => True)) k_ ∧ some k_ ≠ (u3 : Value).ownBlock) (Kd.R_apart' (HO132.out) (Kd.S_typed HO_3.out) (by decide)) (fun k_ hk => ⟨trivial, hk.2⟩))).1 k_ hk_.symm) ?aF ?aO ?aB ?aS ?aL ?_; (case aP => exact k25_mkM _ _ _ (⟨(rd_T25 l0 x4_1).f0, y130⟩ : S25) (Kd.R_mono (Kd.R_tight rfl (Kd.R_mono (ok' := fun k_ => ((fun _ => True)) k_ ∧ some k_ ≠ (u3 : Value).ownBlock) (Kd.R_apart' (HO132.out) (Kd.S_typed HO_3.out) (by decide)) (fun k_ hk => ⟨trivial, hk.2⟩))) (fun _ h_ => h_))); (case aB => exact (by repeat (first | (with_reducible first | exact HB.out | apply below_alloc | apply pw_below_drewN | apply below_drew1) | exact HB.out))); (case aF => exact (fun _ _ => trivial)); (case aO => exact (by (with_reducible repeat (first | apply Kd.S_alloc | apply Kd.S_drewN | apply Kd.S_drew)); exact Kd.S_mono HO_3.out (fun k_ hk => ⟨trivial, fun e_ => hk.2 e_⟩))); (case aS => exact (below_size (by repeat (first | (with_reducible first | exact HB.out | apply below_alloc | apply pw_below_drewN | apply below_drew1) | exact HB.out)))); (case aL => have := LMc5.out; omega); intro v135 w8 ho hb hg hat; rw [← Ny134.out] at ho; have n0_ := Aside0.mk (hb); have n1_ := Aside0.mk (ho); clear HB; clear HO_3; clear HO132; have HB := n0_; have HO136 := n1_; clear n0_ n1_; clear ho hb hg hat))
              go_roundg k1
              case measure => have := HK1.out; omega
              case rel => exact ⟨(y134), (wrap64 (x4_1 + 1)), (by first | rfl | (simp; done) | (simp [*]; done)), H', ⟨by have := HK1.out; omega⟩, ⟨by (with_reducible repeat (first | apply Kd.S_alloc | apply Kd.S_drewN | apply Kd.S_drew)); exact HO136.out⟩, ⟨by repeat (first | (with_reducible first | exact HB.out | apply below_alloc | apply pw_below_drewN | apply below_drew1) | exact HB.out)⟩⟩
            · rw [if_neg c5] at H
              exact absurd H (by simp)
          · rw [if_neg c4] at H
            exact absurd H (by simp)
        · rw [if_neg c3] at H
          exact absurd H (by simp)
      · rw [if_neg c2] at H
        have c2b0 : decide (x4_1 < (l0.length : Int)) = false := decide_eq_false c2
        clear c2
        obtain rfl := Option.some.inj H
        go_wp2
        go_ret
        exact ⟨_, by first | rfl | (simp [errW_none, errW_some] <;> rfl) | (simp [*, errW_none, errW_some] <;> rfl), by (with_reducible repeat (first | apply Kd.S_alloc | apply Kd.S_drewN | apply Kd.S_drew)); exact HO_3.out, by repeat (first | (with_reducible first | exact HB.out | apply below_alloc | apply pw_below_drewN | apply below_drew1) | exact HB.out)⟩
def slotmeshref33_Same.l0 : Nat → List (S25) → List (S25) → Int → Option (Bool)
  | 0, _, _, _ => none
  | k + 1, x0, x1, x5 => if x5 < (x0.length : Int) then (if 0 ≤ x5 then (if x5 < (x1.length : Int) then (if ((rd_T25 x0 x5).f0) = ((rd_T25 x1 x5).f0) then ((slotmeshref33_Bytes.f k ((rd_T25 x0 x5).f1) ((rd_T25 x1 x5).f1)).bind fun t141 => (if t141 = true then (slotmeshref33_Same.l0 k x0 x1 (wrap64 (x5 + 1))) else (some false))) else (some false)) else (none)) else (none)) else (some true)
def slotmeshref33_Same.f (k : Nat) (l0 : List (S25)) (l1 : List (S25)) : Option (Bool) := if (l0.length : Int) = (l1.length : Int) then (slotmeshref33_Same.l0 k l0 l1 0) else (some false)
set_option maxHeartbeats 8000000 in
set_option maxRecDepth 100000 in
theorem slotmeshref33_Same.calls (k : Nat) (A0 : Option Addr) (c0 : Nat) (l0 : List (S25)) (A1 : Option Addr) (c1 : Nat) (l1 : List (S25)) (r : Bool) (w : World) (hr0 : Kd.C k25 w A0 l0.length l0) (hc0 : l0.length ≤ c0) (hr1 : Kd.C k25 w A1 l1.length l1) (hc1 : l1.length ≤ c1) (h : slotmeshref33_Same.f k l0 l1 = some r) :
    Calls Tryd.prog 21 #[.slice A0 l0.length c0, .slice A1 l1.length c1] w fun e w' => e = .returned (.bool r) ∧ Drawn0 w w' := by
  have HR0 := Aside0.mk hr0
  have HC0 := Aside0.mk hc0
  clear hr0 hc0
  have HR1 := Aside0.mk hr1
  have HC1 := Aside0.mk hc1
  clear hr1 hc1
  have H : (if (l0.length : Int) = (l1.length : Int) then (slotmeshref33_Same.l0 k l0 l1 0) else (some false)) = some r := h
  clear h
  by_cases c3 : (l0.length : Int) = (l1.length : Int)
  · rw [if_pos c3] at H
    have c3b0 : ((l0.length : Int) == (l1.length : Int)) = true := beq_iff_eq.mpr c3
    have c3b1 : ((l0.length : Int) != (l1.length : Int)) = false := bne_eq_false_iff_eq.mpr c3
    have c3b2 : (l0.length == l1.length) = true := by first | simpa using c3 | (simp at c3 ⊢; omega)
    clear c3
    have H' := Aside0.mk H
    clear H
    go_enter Tryd.func21, Tryd.ntmps21
    go_wp2
    repeat (go_quiet (fail); try go_wp2)
    go_loopg [5] k (fun kq v5 w' => ∃ (x5_1 : Int), v5 = .int .i64 x5_1 ∧ Aside0 (slotmeshref33_Same.l0 kq l0 l1 x5_1 = some r) ∧ Aside0 (kq ≤ k) ∧ Drawn0 w w')
    case atStart => exact ⟨(0), (by first | rfl | (simp; done) | (simp [*]; done)), H', ⟨Nat.le_refl _⟩, by repeat (first | exact Drawn0.refl _ | apply Drawn0.step)⟩
    case round =>
      clear H'
      try clear c1
      try clear c2
      try clear p2
      try clear c3
      try clear c3b0
      try clear c3b1
      try clear c3b2
      obtain ⟨x5_1, rfl, HA, HK1, ⟨m1, rfl⟩⟩ := hrel
      cases gk with
      | zero => exact absurd HA.out (by simp [slotmeshref33_Same.l0])
      | succ k1 =>
        have H := HA.out
        clear HA
        simp only [slotmeshref33_Same.l0] at H
        by_cases c4 : x5_1 < (l0.length : Int)
        · rw [if_pos c4] at H
          have c4b0 : decide (x5_1 < (l0.length : Int)) = true := decide_eq_true c4
          clear c4
          by_cases c5 : 0 ≤ x5_1
          · rw [if_pos c5] at H
            have c5b0 : decide (0 ≤ x5_1) = true := decide_eq_true c5
            clear c5
            by_cases c6 : x5_1 < (l1.length : Int)
            · rw [if_pos c6] at H
              have c6b0 : decide (x5_1 < (l1.length : Int)) = true := decide_eq_true c6
              clear c6
              by_cases c7 : ((rd_T25 l0 x5_1).f0) = ((rd_T25 l1 x5_1).f0)
              · rw [if_pos c7] at H
                have c7b0 : (((rd_T25 l0 x5_1).f0) == ((rd_T25 l1 x5_1).f0)) = true := beq_iff_eq.mpr c7
                have c7b1 : (((rd_T25 l0 x5_1).f0) != ((rd_T25 l1 x5_1).f0)) = false := bne_eq_false_iff_eq.mpr c7
                clear c7
                replace H := Option.bind_eq_some_iff.mp H
                obtain ⟨t141, A80, H⟩ := H
                replace H : (if t141 = true then (slotmeshref33_Same.l0 k1 l0 l1 (wrap64 (x5_1 + 1))) else (some false)) = some r := H
                have A8 := Aside0.mk A80
                clear A80
                by_cases c9 : t141 = true
                · subst c9
                  have H1 : (slotmeshref33_Same.l0 k1 l0 l1 (wrap64 (x5_1 + 1))) = some r := by rw [if_pos rfl] at H; exact H
                  clear H
                  have H := H1
                  clear H1
                  have H' := Aside0.mk H
                  clear H
                  have p137 : 0 ≤ (x5_1 : Int) := of_decide_eq_true (by first | (with_reducible assumption) | assumption)
                  have q137 : x5_1 < (l0.length : Int) := of_decide_eq_true (by first | (with_reducible assumption) | assumption)
                  obtain ⟨ad137, A137_1, c137_1, e137, hx137_0, hx137_1, hl137_1, hi137_1⟩ := at_T25 HR0.out x5_1 p137 q137
                  cases e137
                  have HR137_1 := Aside0.mk hi137_1
                  have HC137_1 := Aside0.mk hl137_1
                  clear hi137_1 hl137_1
                  replace p137 := eq_true p137
                  replace q137 := eq_true q137
                  have p138 : 0 ≤ (x5_1 : Int) := of_decide_eq_true (by first | (with_reducible assumption) | assumption)
                  have q138 : x5_1 < (l1.length : Int) := of_decide_eq_true (by first | (with_reducible assumption) | assumption)
                  obtain ⟨ad138, A138_1, c138_1, e138, hx138_0, hx138_1, hl138_1, hi138_1⟩ := at_T25 HR1.out x5_1 p138 q138
                  cases e138
                  have HR138_1 := Aside0.mk hi138_1
                  have HC138_1 := Aside0.mk hl138_1
                  clear hi138_1 hl138_1
                  replace p138 := eq_true p138
                  replace q138 := eq_true q138
                  have p139 : 0 ≤ (x5_1 : Int) := of_decide_eq_true (by first | (with_reducible assumption) | assumption)
                  have q139 : x5_1 < (l0.length : Int) := of_decide_eq_true (by first | (with_reducible assumption) | assumption)
                  obtain ⟨ad139, A139_1, c139_1, e139, hx139_0, hx139_1, hl139_1, hi139_1⟩ := at_T25 HR0.out x5_1 p139 q139
                  obtain rfl : ad137 = ad139 := (by injection e139)
                  have HR139_1 := Aside0.mk hi139_1
                  have HC139_1 := Aside0.mk hl139_1
                  clear hi139_1 hl139_1
                  replace p139 := eq_true p139
                  replace q139 := eq_true q139
                  have ea_ := Option.some.inj (hx137_1.symm.trans hx139_1)
                  injection ea_ with ea_ en_ ec_
                  subst ea_
                  subst ec_
                  clear en_
                  have p140 : 0 ≤ (x5_1 : Int) := of_decide_eq_true (by first | (with_reducible assumption) | assumption)
                  have q140 : x5_1 < (l1.length : Int) := of_decide_eq_true (by first | (with_reducible assumption) | assumption)
                  obtain ⟨ad140, A140_1, c140_1, e140, hx140_0, hx140_1, hl140_1, hi140_1⟩ := at_T25 HR1.out x5_1 p140 q140
                  obtain rfl : ad138 = ad140 := (by injection e140)
                  have HR140_1 := Aside0.mk hi140_1
                  have HC140_1 := Aside0.mk hl140_1
                  clear hi140_1 hl140_1
                  replace p140 := eq_true p140
                  replace q140 := eq_true q140
                  have ea_ := Option.some.inj (hx138_1.symm.trans hx140_1)
                  injection ea_ with ea_ en_ ec_
                  subst ea_
                  subst ec_
                  clear en_
                  go_wp2_with (first | (go_at_call 22; (with_reducible refine (slotmeshref33_Bytes.calls k1 _ _ ((rd_T25 l0 x5_1).f1) _ _ ((rd_T25 l1 x5_1).f1) true _ ?side1 ?side2 ?side3 ?side4 A8.out).mono ?_); (case side1 => repeat (first | exact HR139_1.out | (with_reducible refine Kd.C_alloc ?_ _) | (with_reducible refine Kd.C_drewN ?_ _) | (with_reducible refine Kd.C_drew ?_))); (case side2 => exact HC139_1.out); (case side3 => repeat (first | exact HR140_1.out | (with_reducible refine Kd.C_alloc ?_ _) | (with_reducible refine Kd.C_drewN ?_ _) | (with_reducible refine Kd.C_drew ?_))); (case side4 => exact HC140_1.out); rintro e w' ⟨rfl, ⟨nd, rfl⟩⟩; (try first | exact ⟨rfl, _, World.drewN_drewN _ _ _⟩ | exact ⟨rfl, _, Eq.trans (World.drewN_drewN _ _ _) (congrArg (World.drewN _) (Nat.add_assoc _ _ _))⟩)))
                  repeat (go_quiet (first | (go_at_call 22; (with_reducible refine (slotmeshref33_Bytes.calls k1 _ _ ((rd_T25 l0 x5_1).f1) _ _ ((rd_T25 l1 x5_1).f1) true _ ?side1 ?side2 ?side3 ?side4 A8.out).mono ?_); (case side1 => repeat (first | exact HR139_1.out | (with_reducible refine Kd.C_alloc ?_ _) | (with_reducible refine Kd.C_drewN ?_ _) | (with_reducible refine Kd.C_drew ?_))); (case side2 => exact HC139_1.out); (case side3 => repeat (first | exact HR140_1.out | (with_reducible refine Kd.C_alloc ?_ _) | (with_reducible refine Kd.C_drewN ?_ _) | (with_reducible refine Kd.C_drew ?_))); (case side4 => exact HC140_1.out); rintro e w' ⟨rfl, ⟨nd, rfl⟩⟩; (try first | exact ⟨rfl, _, World.drewN_drewN _ _ _⟩ | exact ⟨rfl, _, Eq.trans (World.drewN_drewN _ _ _) (congrArg (World.drewN _) (Nat.add_assoc _ _ _))⟩))); try go_wp2_with (first | (go_at_call 22; (with_reducible refine (slotmeshref33_Bytes.calls k1 _ _ ((rd_T25 l0 x5_1).f1) _ _ ((rd_T25 l1 x5_1).f1) true _ ?side1 ?side2 ?side3 ?side4 A8.out).mono ?_); (case side1 => repeat (first | exact HR139_1.out | (with_reducible refine Kd.C_alloc ?_ _) | (with_reducible refine Kd.C_drewN ?_ _) | (with_reducible refine Kd.C_drew ?_))); (case side2 => exact HC139_1.out); (case side3 => repeat (first | exact HR140_1.out | (with_reducible refine Kd.C_alloc ?_ _) | (with_reducible refine Kd.C_drewN ?_ _) | (with_reducible refine Kd.C_drew ?_))); (case side4 => exact HC140_1.out); rintro e w' ⟨rfl, ⟨nd, rfl⟩⟩; (try first | exact ⟨rfl, _, World.drewN_drewN _ _ _⟩ | exact ⟨rfl, _, Eq.trans (World.drewN_drewN _ _ _) (congrArg (World.drewN _) (Nat.add_assoc _ _ _))⟩))))
                  go_roundg k1
                  case measure => have := HK1.out; omega
                  case rel => exact ⟨(wrap64 (x5_1 + 1)), (by first | rfl | (simp; done) | (simp [*]; done)), H', ⟨by have := HK1.out; omega⟩, by repeat (first | exact Drawn0.refl _ | apply Drawn0.step)⟩
                · replace c9 := Bool.eq_false_iff.mpr c9
                  subst c9
                  have H1 : (some false) = some r := by rw [if_neg (show ¬ (false = true) by decide)] at H; exact H
                  clear H
                  have H := H1
                  clear H1
                  obtain rfl := Option.some.inj H
                  have p137 : 0 ≤ (x5_1 : Int) := of_decide_eq_true (by first | (with_reducible assumption) | assumption)
                  have q137 : x5_1 < (l0.length : Int) := of_decide_eq_true (by first | (with_reducible assumption) | assumption)
                  obtain ⟨ad137, A137_1, c137_1, e137, hx137_0, hx137_1, hl137_1, hi137_1⟩ := at_T25 HR0.out x5_1 p137 q137
                  cases e137
                  have HR137_1 := Aside0.mk hi137_1
                  have HC137_1 := Aside0.mk hl137_1
                  clear hi137_1 hl137_1
                  replace p137 := eq_true p137
                  replace q137 := eq_true q137
                  have p138 : 0 ≤ (x5_1 : Int) := of_decide_eq_true (by first | (with_reducible assumption) | assumption)
                  have q138 : x5_1 < (l1.length : Int) := of_decide_eq_true (by first | (with_reducible assumption) | assumption)
                  obtain ⟨ad138, A138_1, c138_1, e138, hx138_0, hx138_1, hl138_1, hi138_1⟩ := at_T25 HR1.out x5_1 p138 q138
                  cases e138
                  have HR138_1 := Aside0.mk hi138_1
                  have HC138_1 := Aside0.mk hl138_1
                  clear hi138_1 hl138_1
                  replace p138 := eq_true p138
                  replace q138 := eq_true q138
                  have p139 : 0 ≤ (x5_1 : Int) := of_decide_eq_true (by first | (with_reducible assumption) | assumption)
                  have q139 : x5_1 < (l0.length : Int) := of_decide_eq_true (by first | (with_reducible assumption) | assumption)
                  obtain ⟨ad139, A139_1, c139_1, e139, hx139_0, hx139_1, hl139_1, hi139_1⟩ := at_T25 HR0.out x5_1 p139 q139
                  obtain rfl : ad137 = ad139 := (by injection e139)
                  have HR139_1 := Aside0.mk hi139_1
                  have HC139_1 := Aside0.mk hl139_1
                  clear hi139_1 hl139_1
                  replace p139 := eq_true p139
                  replace q139 := eq_true q139
                  have ea_ := Option.some.inj (hx137_1.symm.trans hx139_1)
                  injection ea_ with ea_ en_ ec_
                  subst ea_
                  subst ec_
                  clear en_
                  have p140 : 0 ≤ (x5_1 : Int) := of_decide_eq_true (by first | (with_reducible assumption) | assumption)
                  have q140 : x5_1 < (l1.length : Int) := of_decide_eq_true (by first | (with_reducible assumption) | assumption)
                  obtain ⟨ad140, A140_1, c140_1, e140, hx140_0, hx140_1, hl140_1, hi140_1⟩ := at_T25 HR1.out x5_1 p140 q140
                  obtain rfl : ad138 = ad140 := (by injection e140)
                  have HR140_1 := Aside0.mk hi140_1
                  have HC140_1 := Aside0.mk hl140_1
                  clear hi140_1 hl140_1
                  replace p140 := eq_true p140
                  replace q140 := eq_true q140
                  have ea_ := Option.some.inj (hx138_1.symm.trans hx140_1)
                  injection ea_ with ea_ en_ ec_
                  subst ea_
                  subst ec_
                  clear en_
                  go_wp2_with (first | (go_at_call 22; (with_reducible refine (slotmeshref33_Bytes.calls k1 _ _ ((rd_T25 l0 x5_1).f1) _ _ ((rd_T25 l1 x5_1).f1) false _ ?side1 ?side2 ?side3 ?side4 A8.out).mono ?_); (case side1 => repeat (first | exact HR139_1.out | (with_reducible refine Kd.C_alloc ?_ _) | (with_reducible refine Kd.C_drewN ?_ _) | (with_reducible refine Kd.C_drew ?_))); (case side2 => exact HC139_1.out); (case side3 => repeat (first | exact HR140_1.out | (with_reducible refine Kd.C_alloc ?_ _) | (with_reducible refine Kd.C_drewN ?_ _) | (with_reducible refine Kd.C_drew ?_))); (case side4 => exact HC140_1.out); rintro e w' ⟨rfl, ⟨nd, rfl⟩⟩; (try first | exact ⟨rfl, _, World.drewN_drewN _ _ _⟩ | exact ⟨rfl, _, Eq.trans (World.drewN_drewN _ _ _) (congrArg (World.drewN _) (Nat.add_assoc _ _ _))⟩)))
                  repeat (go_quiet (first | (go_at_call 22; (with_reducible refine (slotmeshref33_Bytes.calls k1 _ _ ((rd_T25 l0 x5_1).f1) _ _ ((rd_T25 l1 x5_1).f1) false _ ?side1 ?side2 ?side3 ?side4 A8.out).mono ?_); (case side1 => repeat (first | exact HR139_1.out | (with_reducible refine Kd.C_alloc ?_ _) | (with_reducible refine Kd.C_drewN ?_ _) | (with_reducible refine Kd.C_drew ?_))); (case side2 => exact HC139_1.out); (case side3 => repeat (first | exact HR140_1.out | (with_reducible refine Kd.C_alloc ?_ _) | (with_reducible refine Kd.C_drewN ?_ _) | (with_reducible refine Kd.C_drew ?_))); (case side4 => exact HC140_1.out); rintro e w' ⟨rfl, ⟨nd, rfl⟩⟩; (try first | exact ⟨rfl, _, World.drewN_drewN _ _ _⟩ | exact ⟨rfl, _, Eq.trans (World.drewN_drewN _ _ _) (congrArg (World.drewN _) (Nat.add_assoc _ _ _))⟩))); try go_wp2_with (first | (go_at_call 22; (with_reducible refine (slotmeshref33_Bytes.calls k1 _ _ ((rd_T25 l0 x5_1).f1) _ _ ((rd_T25 l1 x5_1).f1) false _ ?side1 ?side2 ?side3 ?side4 A8.out).mono ?_); (case side1 => repeat (first | exact HR139_1.out | (with_reducible refine Kd.C_alloc ?_ _) | (with_reducible refine Kd.C_drewN ?_ _) | (with_reducible refine Kd.C_drew ?_))); (case side2 => exact HC139_1.out); (case side3 => repeat (first | exact HR140_1.out | (with_reducible refine Kd.C_alloc ?_ _) | (with_reducible refine Kd.C_drewN ?_ _) | (with_reducible refine Kd.C_drew ?_))); (case side4 => exact HC140_1.out); rintro e w' ⟨rfl, ⟨nd, rfl⟩⟩; (try first | exact ⟨rfl, _, World.drewN_drewN _ _ _⟩ | exact ⟨rfl, _, Eq.trans (World.drewN_drewN _ _ _) (congrArg (World.drewN _) (Nat.add_assoc _ _ _))⟩))))
                  go_ret
                  exact ⟨by first | rfl | (simp; done) | (simp [*]; done), by repeat (first | exact Drawn0.refl _ | apply Drawn0.step)⟩
              · rw [if_neg c7] at H
                have c7b0 : (((rd_T25 l0 x5_1).f0) == ((rd_T25 l1 x5_1).f0)) = false := beq_eq_false_iff_ne.mpr c7
                have c7b1 : (((rd_T25 l0 x5_1).f0) != ((rd_T25 l1 x5_1).f0)) = true := bne_iff_ne.mpr c7
                obtain rfl := Option.some.inj H
                have p137 : 0 ≤ (x5_1 : Int) := of_decide_eq_true (by first | (with_reducible assumption) | assumption)
                have q137 : x5_1 < (l0.length : Int) := of_decide_eq_true (by first | (with_reducible assumption) | assumption)
                obtain ⟨ad137, A137_1, c137_1, e137, hx137_0, hx137_1, hl137_1, hi137_1⟩ := at_T25 HR0.out x5_1 p137 q137
                cases e137
                have HR137_1 := Aside0.mk hi137_1
                have HC137_1 := Aside0.mk hl137_1
                clear hi137_1 hl137_1
                replace p137 := eq_true p137
                replace q137 := eq_true q137
                have p138 : 0 ≤ (x5_1 : Int) := of_decide_eq_true (by first | (with_reducible assumption) | assumption)
                have q138 : x5_1 < (l1.length : Int) := of_decide_eq_true (by first | (with_reducible assumption) | assumption)
                obtain ⟨ad138, A138_1, c138_1, e138, hx138_0, hx138_1, hl138_1, hi138_1⟩ := at_T25 HR1.out x5_1 p138 q138
                cases e138
                have HR138_1 := Aside0.mk hi138_1
                have HC138_1 := Aside0.mk hl138_1
                clear hi138_1 hl138_1
                replace p138 := eq_true p138
                replace q138 := eq_true q138
                go_wp2
                repeat (go_quiet (fail); try go_wp2)
                go_ret
                exact ⟨by first | rfl | (simp; done) | (simp [*]; done), by repeat (first | exact Drawn0.refl _ | apply Drawn0.step)⟩
            · rw [if_neg c6] at H
              exact absurd H (by simp)
          · rw [if_neg c5] at H
            exact absurd H (by simp)
        · rw [if_neg c4] at H
          have c4b0 : decide (x5_1 < (l0.length : Int)) = false := decide_eq_false c4
          clear c4
          obtain rfl := Option.some.inj H
          go_wp2
          repeat (go_quiet (fail); try go_wp2)
          go_ret
          exact ⟨by first | rfl | (simp; done) | (simp [*]; done), by repeat (first | exact Drawn0.refl _ | apply Drawn0.step)⟩
  · rw [if_neg c3] at H
    have c3b0 : ((l0.length : Int) == (l1.length : Int)) = false := beq_eq_false_iff_ne.mpr c3
    have c3b1 : ((l0.length : Int) != (l1.length : Int)) = true := bne_iff_ne.mpr c3
    have c3b2 : (l0.length == l1.length) = false := by first | simpa using c3 | (simp at c3 ⊢; omega)
    obtain rfl := Option.some.inj H
    go_enter Tryd.func21, Tryd.ntmps21
    go_wp2
    repeat (go_quiet (fail); try go_wp2)
    go_ret
    exact ⟨by first | rfl | (simp; done) | (simp [*]; done), by repeat (first | exact Drawn0.refl _ | apply Drawn0.step)⟩
end Go.Proofs.YtknlbeojdmeljaaDoor.P
namespace Go.Proofs.YtknlbeojdmeljaaDoor.H
open Go.RowKit Go.Proofs.YtknlbeojdmeljaaDoorW.PrintWords Go.Proofs.YtknlbeojdmeljaaDoorW.PrintLast Go.Proofs.YtknlbeojdmeljaaDoorW.PrintMore Go.Proofs.YtknlbeojdmeljaaDoor.P
set_option linter.unusedVariables false
set_option linter.unusedSimpArgs false
def stepS (x : Nat × List Int) (r : S25) : Nat × List Int := if x.1 &&& lead r.f0.toNat ≠ 0 then (x.1 ^^^ r.f0.toNat, xorD x.2 r.f1) else x
def redS (l : List S25) (x : Nat × List Int) : Nat × List Int := l.foldl stepS x
theorem redE_redS (l : List FRow) : ∀ x, redE l x = redS (l.map Subtype.val) x := by
  induction l with
  | nil => intro x; rfl
  | cons r l ih => intro x; exact ih _
def z16 : List Int := List.replicate 16 0
theorem valid_fz {zs : List S25} (h : validS zs = true) : ∃ fz : List FRow, fz.map Subtype.val = zs := by
  unfold validS at h
  split at h
  · cases h
  · rename_i st hv
    exact ⟨zs.pmap (fun x h => ⟨x, h⟩) (val1_fine _ _ _ hv), by simp [List.map_pmap]⟩
theorem reduce_calls' (A : Option Addr) (cap : Nat) (zs : List S25) (hv : validS zs = true) (m : Nat) (hm : m < 65536) (d : List Int) (hd : d.length = 16) (w : World) (hr : Kd.C k25 w A zs.length zs) :
    Calls Tryd.prog 47 #[.slice A zs.length cap, .agg (.int .i64 (m : Int) :: bys d).toArray] w fun e w' => e = .returned (.agg (.int .i64 ((redS zs (m, d)).1 : Int) :: bys (redS zs (m, d)).2).toArray) ∧ Below w.heap.size w w' := by
  obtain ⟨fz, rfl⟩ := valid_fz hv
  have := reduce_calls A cap fz m hm d hd w (by simpa using hr)
  rw [redE_redS] at this
  simpa using this
theorem redS_ok {zs : List S25} (hv : validS zs = true) (x : Nat × List Int) (h : x.1 < 65536 ∧ x.2.length = 16) : (redS zs x).1 < 65536 ∧ (redS zs x).2.length = 16 := by
  obtain ⟨fz, rfl⟩ := valid_fz hv
  rw [← redE_redS]
  exact redE_ok _ _ h
theorem row_R {w : World} {g : Nat} {d : List Int} (base : Nat) (ok : Nat → Prop) (hd : d.length = 16) (hb : base ≤ g) (hk : ok g) (h : w.heap[g]? = some (.cells (bys d).toArray 5 (0, 0))) :
    Kd.R (Kd.int .u8) 5 w base ok (.slice (some ⟨g, 0, none⟩) 16 16) d := by
  refine Kd.R_of_own ⟨?_, .inr ⟨g, 16, (bys d).toArray, by rw [hd], hb, h, by omega, by decide, by simp [bys_len, hd], ?_⟩⟩ (fun k hk' => ?_)
  · simp [encs]
  · rw [hd]
    exact List.take_of_length_le (by simp [bys_len, hd])
  · simp [Value.ownBlock] at hk'
    exact hk' ▸ hk
theorem exec_field {P : Program} {a : Act} {o : Oper} {t : TypeId} {x : Operand} {i : Nat} {u v : Value} {w : World} (ho : o.op = .field t x i) (hx : a.eval x = u)
    (hrun : (Instr.field t u i).run P w = .ok v w) : (execOp a.eval o).run P w = .ok (.value v) w := by
  subst hx
  unfold execOp
  simp only [ho, Sem.run_bind]
  rw [hrun]
  rfl
theorem run_field25 (m : Int) (g : Nat) (w : World) : (Instr.field 52 (.agg #[.int .i64 m, .slice (some ⟨g, 0, none⟩) 16 16]) 1).run Tryd.prog w = .ok (.slice (some ⟨g, 0, none⟩) 16 16) w := by
  kernel_rfl
theorem zrow (m : Int) : (Value.int .i64 m :: bys z16).toArray = #[.int .i64 m, .int .u8 0, .int .u8 0, .int .u8 0, .int .u8 0, .int .u8 0, .int .u8 0, .int .u8 0, .int .u8 0, .int .u8 0, .int .u8 0, .int .u8 0, .int .u8 0, .int .u8 0, .int .u8 0, .int .u8 0, .int .u8 0] := rfl
def sumS (l : List S25) (mask : Int) : List Int × Bool :=
  if mask < 0 ∨ 65536 ≤ mask ∨ validS l = false then ([], false)
  else if (redS l (mask.toNat, z16)).1 ≠ 0 then ([], false) else ((redS l (mask.toNat, z16)).2, true)
end Go.Proofs.YtknlbeojdmeljaaDoor.H
namespace Go.Proofs.YtknlbeojdmeljaaDoor.H
open Go.RowKit Go.Proofs.YtknlbeojdmeljaaDoorW.PrintWords Go.Proofs.YtknlbeojdmeljaaDoorW.PrintLast Go.Proofs.YtknlbeojdmeljaaDoorW.PrintMore Go.Proofs.YtknlbeojdmeljaaDoor.P
set_option linter.unusedVariables false
set_option linter.unusedSimpArgs false
theorem exec_shl {P : Program} {a : Act} {o : Oper} {t s : TypeId} {x y : Operand} {u z v : Value} {w : World} (ho : o.op = .binOp .shl t x y s) (hx : a.eval x = u) (hy : a.eval y = z)
    (hrun : (Go.binOp .shl t u z).run P w = .ok v w) : (execOp a.eval o).run P w = .ok (.value v) w := by
  subst hx
  subst hy
  unfold execOp
  simp only [ho, Sem.run_bind]
  have : (eqGuard .shl t x y (a.eval x) (a.eval y)).run P w = .ok () w := rfl
  rw [this]
  simp only [Result.andThen]
  rw [hrun]
  rfl
theorem exec_neq {P : Program} {a : Act} {o : Oper} {t s : TypeId} {x y : Operand} {u z v : Value} {w : World} (ho : o.op = .binOp .neq t x y s) (hx : a.eval x = u) (hy : a.eval y = z)
    (hg : (eqGuard .neq t x y u z).run P w = .ok () w) (hrun : (Go.binOp .neq t u z).run P w = .ok v w) : (execOp a.eval o).run P w = .ok (.value v) w := by
  subst hx
  subst hy
  unfold execOp
  simp only [ho, Sem.run_bind]
  rw [hg]
  simp only [Result.andThen]
  rw [hrun]
  rfl
theorem neq_nil0 (w : World) : (Go.binOp .neq 22 (.slice none 0 0) (.slice none 0 0)).run Tryd.prog w = .ok (.bool false) w := by kernel_rfl
theorem neq_nil1 (g : Nat) (w : World) : (Go.binOp .neq 22 (.slice (some ⟨g, 0, none⟩) 16 16) (.slice none 0 0)).run Tryd.prog w = .ok (.bool true) w := by kernel_rfl
theorem wp_normal {P : Program} {c : Code} {K : Act → World → Prop} {Q : Exit → Act → World → Prop} {a : Act} {w : World} (h : c.wp P (Exit.then K (fun _ _ _ => False)) a w) : c.wp P (Exit.then K Q) a w := by
  intro b k cs
  obtain ⟨e, a1, w1, hq, harr⟩ := h b k cs
  cases e with
  | normal => exact ⟨.normal, a1, w1, hq, harr⟩
  | exit _ => exact hq.elim
  | goto _ => exact hq.elim
  | ret => exact hq.elim
  | panic _ => exact hq.elim
  | outgrown => exact hq.elim
theorem run_shl16 (w : World) : ∀ k : Nat, k < 16 → (Go.binOp .shl 3 (.int .i64 1) (.int .i64 ((k : Nat) : Int))).run Tryd.prog w = .ok (.int .i64 ((2 ^ k : Nat) : Int)) w
  | 0, _ => by kernel_rfl
  | 1, _ => by kernel_rfl
  | 2, _ => by kernel_rfl
  | 3, _ => by kernel_rfl
  | 4, _ => by kernel_rfl
  | 5, _ => by kernel_rfl
  | 6, _ => by kernel_rfl
  | 7, _ => by kernel_rfl
  | 8, _ => by kernel_rfl
  | 9, _ => by kernel_rfl
  | 10, _ => by kernel_rfl
  | 11, _ => by kernel_rfl
  | 12, _ => by kernel_rfl
  | 13, _ => by kernel_rfl
  | 14, _ => by kernel_rfl
  | 15, _ => by kernel_rfl
  | n + 16, h => absurd h (by omega)
theorem run_shl (i : Int) (k : Nat) (hk : i = (k : Int)) (h : k < 16) (w : World) : (Go.binOp .shl 3 (.int .i64 1) (.int .i64 i)).run Tryd.prog w = .ok (.int .i64 ((2 ^ k : Nat) : Int)) w := by
  subst hk
  exact run_shl16 w k h
theorem findS_none (k : Nat) (fz : List FRow) (h : ∀ y ∈ fz, y.m ≠ 2 ^ k) : (fz.map Subtype.val).find? (fun x => x.f0.toNat == 2 ^ k) = none := by
  rw [List.find?_eq_none]
  intro x hx
  obtain ⟨y, hy, rfl⟩ := List.mem_map.1 hx
  simpa [FRow.m] using h y hy
theorem findS_some (k : Nat) (p r : List FRow) (x : FRow) (h : ∀ y ∈ p, y.m ≠ 2 ^ k) (hx : x.m = 2 ^ k) : ((p ++ [x] ++ r).map Subtype.val).find? (fun x => x.f0.toNat == 2 ^ k) = some x.1 := by
  rw [List.map_append, List.map_append, List.find?_append, List.find?_append, findS_none k p h]
  have : (x.1.f0.toNat == 2 ^ k) = true := by simpa [FRow.m] using hx
  simp [this]
def solvedS (l : List S25) (i : Int) : List Int × Bool :=
  if i < 0 ∨ 16 ≤ i ∨ validS l = false then ([], false)
  else match l.find? (fun x => x.f0.toNat == 2 ^ i.toNat) with | some x => (x.f1, true) | none => ([], false)
set_option maxRecDepth 100000 in
set_option maxHeartbeats 400000 in
theorem solved_calls (A : Option Addr) (cap : Nat) (zs : List S25) (i : Int) (w : World) (hr : Kd.C k25 w A zs.length zs) :
    Calls Tryd.prog 37 #[.slice A zs.length cap, .int .i64 i] w fun e w' => ∃ v, e = .returned (.tuple #[v, .bool (solvedS zs i).2]) ∧ Kd.R (Kd.int .u8) 5 w' w.heap.size (fun _ => True) v (solvedS zs i).1 ∧ Below w.heap.size w w' := by
  have out : ∀ {w' : World} , Below w.heap.size w w' → (i < 0 ∨ 16 ≤ i ∨ validS zs = false) → ∃ v, Ending.returned (.tuple #[.slice none 0 0, .bool false]) = .returned (.tuple #[v, .bool (solvedS zs i).2]) ∧ Kd.R (Kd.int .u8) 5 w' w.heap.size (fun _ => True) v (solvedS zs i).1 ∧ Below w.heap.size w w' := by
    intro w' hb h
    have : solvedS zs i = ([], false) := if_pos h
    rw [this]
    exact ⟨_, rfl, Kd.R_nil _ _ _ _ _, hb⟩
  have hba : ∀ o : Obj, Below w.heap.size w (w.alloc o) := fun o => (Below.refl _ _).alloc (Nat.le_refl _) _
  by_cases h1 : i < 0
  · go_enter Tryd.func37, Tryd.ntmps37
    go_wp2
    refine wp_scope_straight ?_
    go_wp2
    simp only [Exit.noGoto]
    go_ret2
    exact out (hba _) (.inl h1)
  by_cases h2 : 16 ≤ i
  · go_enter Tryd.func37, Tryd.ntmps37
    go_wp2
    refine wp_scope_straight ?_
    go_wp2
    simp only [Exit.noGoto]
    go_ret2
    exact out (hba _) (.inr (.inl h2))
  by_cases h3 : validS zs = true
  rotate_left
  · go_enter Tryd.func37, Tryd.ntmps37
    go_wp2
    refine wp_scope_straight ?_
    have cI : (w.alloc (.cells #[.int .i64 i] 3)).cell? ⟨w.heap.size, 0, none⟩ = some (.int .i64 i) := (Boxed.new _ _ _).cell
    go_wp2_with (go_at_call 46; refine (valid_calls A cap zs _ (Kd.C_below hr (hba _))).mono ?_; rintro e w1 ⟨rfl, hb1⟩; have HB1 := Lib.hid hb1; clear hb1; rw [show validS zs = false by simpa using h3])
    simp only [Exit.noGoto]
    go_ret2
    exact out ((hba _).trans (HB1.out.mono (hba _).size)) (.inr (.inr (by simpa using h3)))
  obtain ⟨fz, hfz⟩ := valid_fz h3
  subst hfz
  obtain ⟨k, hk⟩ := Int.eq_ofNat_of_zero_le (show 0 ≤ i by omega)
  have hk16 : k < 16 := by omega
  have hs : solvedS (fz.map Subtype.val) i = match (fz.map Subtype.val).find? (fun x => x.f0.toNat == 2 ^ k) with | some x => (x.f1, true) | none => ([], false) := by
    unfold solvedS; rw [if_neg (by rw [h3]; simp; omega), hk]; rfl
  have HS := Lib.hid hs
  have HKK := Lib.hid hk
  have H3 := Lib.hid h3
  have hrl : Kd.C k25 w A fz.length (fz.map Subtype.val) := by simpa using hr
  have HR := Lib.hid hrl
  have hval : ∀ w', Below w.heap.size w w' → Calls Tryd.prog 46 #[.slice A fz.length cap] w' fun e u => e = .returned (.bool true) ∧ Below w'.heap.size w' u := by
    intro w' hb
    have := valid_calls A cap _ w' (Kd.C_below hr hb)
    rw [h3, List.length_map] at this
    exact this
  have HVL := Lib.hid hval
  have HRR := Lib.hid hr
  simp only [List.length_map]
  clear hs hk h3 hrl out hr hval
  refine (callsIn_wide (n := 3)).1 (callsIn_of_wp_marks Tryd.func37 rfl trivial (wpIn_wide.2 ?_) rfl)
  simp only [Tryd.ntmps37, List.size_toArray, List.length_cons, List.length_nil, Nat.reduceAdd, Nat.reduceSub, Array.replicate_succ, Array.replicate_zero, List.push_toArray, List.append_toArray, List.nil_append, List.cons_append]
  have cI : (w.alloc (.cells #[.int .i64 i] 3)).cell? ⟨w.heap.size, 0, none⟩ = some (.int .i64 i) := (Boxed.new _ _ _).cell
  have d1 : decide (i < 0) = false := decide_eq_false h1
  have d2 : decide (16 ≤ i) = false := decide_eq_false h2
  go_wp2
  refine wp_scope_straight ?_
  go_wp2_with (first
    | (go_at_call 46; refine (HVL.out _ (hba _)).mono ?_; rintro e w1 ⟨rfl, hb1⟩; have HB1 := Lib.hid hb1; have cI1 := hb1.cell (World.block_lt_of_cell? _ _ cI); clear hb1)
    | (go_at_call 48; refine (equations_calls _ _ _ _).mono ?_; rintro e w' ⟨rfl, rfl⟩))
  refine wp_label ?_
  go_wp2_with (go_at_call 48; refine (equations_calls _ _ _ _).mono ?_; rintro e w' ⟨rfl, rfl⟩)
  have hB1 : Below w.heap.size w w1 := (hba _).trans (HB1.out.mono (hba _).size)
  have hg6 : w.heap.size < w1.heap.size := by have := HB1.out.size; simp at this; omega
  have bI1 : Boxed w1 w.heap.size 3 (.int .i64 i) := (HB1.out.block _ (by simp)).trans (Boxed.new w 3 _)
  have sz0 : ((w1.alloc (.cells #[.slice none 0 0] 22)).alloc (.cells #[.slice A fz.length cap] 23)).heap.size = w1.heap.size + 1 + 1 := by simp
  have bI : Boxed ((w1.alloc (.cells #[.slice none 0 0] 22)).alloc (.cells #[.slice A fz.length cap] 23)) w.heap.size 3 (.int .i64 i) := (bI1.alloc _).alloc _
  have bO : Boxed ((w1.alloc (.cells #[.slice none 0 0] 22)).alloc (.cells #[.slice A fz.length cap] 23)) w1.heap.size 22 (.slice none 0 0) := (Boxed.new w1 22 _).alloc _
  have b5 : ((w1.alloc (.cells #[.slice none 0 0] 22)).alloc (.cells #[.slice A fz.length cap] 23)).heap[w1.heap.size + 1]? = some (.cells #[.slice A fz.length cap] 23 (0, 0)) := blk_new (by simp)
  have hB0 : Below w.heap.size w ((w1.alloc (.cells #[.slice none 0 0] 22)).alloc (.cells #[.slice A fz.length cap] 23)) := (hB1.alloc hB1.size _).alloc (by simp; omega) _
  generalize (w1.alloc (.cells #[.slice none 0 0] 22)).alloc (.cells #[.slice A fz.length cap] 23) = W0 at *
  clear hB1 bI1 HB1 cI1 cI d1 d2
  generalize w1.heap.size = g6 at *
  refine (wpIn_wide (n := 3)).1 (wpIn_rangeFunc_ownH (F := Fence.wide) (n := 3) rfl (by omega) (gf := 61) (lb := #[.pointer (some ⟨g6 + 1, 0, none⟩)]) rfl trivial (enters_of Tryd.func61 (by kernel_rfl) rfl)
    (iter_stops (fun x : FRow => x.1) (3 - 1) (g6 + 1) w.heap.size A cap fz W0 (by omega) (by omega) ((cell_of_row W0 _ 0 _ 23 (0, 0) b5).trans rfl) (fun W' h => Kd.C_below HR.out (hB0.trans h))) belowK_t (belowK_b (by omega)) (Below.refl _ _) (fun _ => rfl)
    (fun (pre : List FRow) W => (∀ y ∈ pre, y.m ≠ 2 ^ k) ∧ Boxed W w.heap.size 3 (.int .i64 i) ∧ Boxed W g6 22 (.slice none 0 0) ∧ Below w.heap.size w W ∧ W0.heap.size ≤ W.heap.size)
    (fun c (pre : List FRow) W => c = .exit 0 ∧ ∃ p x g, pre = p ++ [x] ∧ (∀ y ∈ p, y.m ≠ 2 ^ k) ∧ x.m = 2 ^ k ∧ Boxed W g6 22 (.slice (some ⟨g, 0, none⟩) 16 16) ∧ W0.heap.size ≤ g ∧ W.heap[g]? = some (.cells (bys x.1.f1).toArray 5 (0, 0)) ∧ Below w.heap.size w W)
    (fun s X Y row hs hg hr => by
      obtain ⟨h0, h1, h2, h3, h4⟩ := hs
      exact ⟨h0, boxed_keep h1 hg hr, boxed_keep h2 hg hr, h3.grown hg (by have := h3.size; omega) (fun k e => by have := (hr k e).1; omega), Nat.le_trans h4 hg.size⟩)
    (fun c s X Y row hs hg hr => by
      obtain ⟨hc, p, x, g, h0, h1, h2, h3, h4, h5, h6⟩ := hs
      exact ⟨hc, p, x, g, h0, h1, h2, boxed_keep h3 hg hr, h4, keep_block h5 hg hr, h6.grown hg (by have := h6.size; omega) (fun k e => by have := (hr k e).1; omega)⟩)
    ⟨(fun _ h => by cases h), bI, bO, hB0, Nat.le_refl _⟩
    (fun x a' Z => ∃ Bx, W0.heap.size ≤ Bx ∧ Z.heap[Bx]? = some (.cells (.int .i64 (x.m : Int) :: bys x.1.f1).toArray 76 (0, 0)) ∧ a' = { tmps := #[.slice A fz.length cap, .int .i64 i, undef, .pointer (some ⟨w.heap.size, 0, none⟩), .slice none 0 0, .bool false, .pointer (some ⟨g6, 0, none⟩), .pointer (some ⟨Bx, 0, none⟩), .int .i64 i, .bool false, .bool false, .int .i64 i, .bool false, .bool false, .bool false, .slice A fz.length cap, .bool true, .bool false, .bool false, .slice A fz.length cap, .func (.func 61) #[] #[.pointer (some ⟨g6 + 1, 0, none⟩)], .agg (.int .i64 (x.m : Int) :: bys x.1.f1).toArray, .bool true, undef, undef, undef, undef, undef, undef, undef, undef, undef, undef, undef], defers := [] })
    (fun x a' s X Y row hs hg hr => by obtain ⟨Bx, h1, h2, h3⟩ := hs; exact ⟨Bx, h1, keep_block h2 hg hr, h3⟩)
    ?assign ?body ?done ?stop)
  case assign =>
    intro l pre x U K hI hK
    have hsp := x.spec
    have he : encE x.1 = #[.agg (.int .i64 (x.m : Int) :: bys x.1.f1).toArray, .bool true] := by
      unfold encE; rw [pad16_of _ hsp.2.2, x.2, x.m_eq]
    rw [he]
    have hout : ¬ LetsOut (Exit.then K (fun _ _ _ => False)) := fun ⟨_, _, h⟩ => h
    refine plain_in (by rfl) hout ?_
    simp only [List.zip_toArray, List.zip_cons_cons, List.zip_nil_right, List.foldl_toArray, List.foldl_cons, List.foldl_nil, List.setIfInBounds_toArray, List.set_cons_zero, List.set_cons_succ]
    have hl17 : (Value.int .i64 (x.m : Int) :: bys x.1.f1).length = 17 := by rw [List.length_cons, bys_len, hsp.2.2]
    have H17 := Lib.hid hl17
    have hone : ∀ v ∈ Value.int .i64 (x.m : Int) :: bys x.1.f1, v.oneCell' = true := eq_one _ _
    have HK2 := Lib.hid hK
    have HI := Lib.hid hI
    clear hl17 hsp he hK hI
    go_wp2_with (first | (refine wpList_store_row rfl 76 _ _ rfl U.heap.size (.int .i64 (x.m : Int) :: bys x.1.f1) _ 76 rfl rfl (blk_new rfl) (by rw [H17.out]; rfl) (by rw [H17.out]; exact size53) hone ?_; intro w1 g1 g2 g3 g4))
    obtain ⟨i0, i1, i2, i4, i5⟩ := HI.out
    have hwW := i4.size
    have hB1 : Below w.heap.size U w1 := g4 _ _ hwW ((Below.refl _ _).alloc hwW _)
    have hn : ∀ k, k < U.heap.size → w1.heap[k]? = U.heap[k]? := fun k hk => (g2 k (by omega)).trans (Below.heap_alloc _ _ _ hk)
    exact HK2.out _ _ ((keeps_of_below ((Below.refl _ U).alloc (Nat.le_refl _) _) _).trans (keeps_of_cells (blk_new rfl) g2 g3 _)) hB1
      ⟨i0, (hn _ (by omega)).trans i1, (hn _ (by omega)).trans i2, i4.trans hB1, by rw [g3]; simp; omega⟩ ⟨U.heap.size, i5, g1, rfl⟩
  case body =>
    rintro l pre x a' U hl hrec ⟨hall, bI2, bO2, hB2, hz2⟩ ⟨Bx, hBx, hx, rfl⟩ hlen
    have hwW := hB2.size
    have hxs := x.spec
    have hi17 : (Tryd.prog.info? 76).map (·.size) = some (Value.int .i64 (x.m : Int) :: bys x.1.f1).length := by rw [List.length_cons, bys_len, hxs.2.2]; exact size53
    have c0 : U.cell? ⟨Bx, 0, none⟩ = some (.int .i64 (x.m : Int)) := (cell_of_row U _ 0 _ 76 (0, 0) hx).trans (by simp)
    have cI := bI2.cell
    have HX := Lib.hid hx
    have HXS := Lib.hid hxs
    have HI17 := Lib.hid hi17
    have HALL := Lib.hid hall
    have BI2 := Lib.hid bI2
    have BO2 := Lib.hid bO2
    clear hx hi17 hall bI2 bO2 hrec hxs bI bO b5
    refine wpIn_block ?_
    refine wpIn_seq_k (fun K1 hK1 => ?_)
    have hout : ¬ LetsOut (Exit.then K1 (Exit.inBlock 1 (ownPostG W0.heap.size (Below w.heap.size)
      (fun (pre : List FRow) W => (∀ y ∈ pre, y.m ≠ 2 ^ k) ∧ Boxed W w.heap.size 3 (.int .i64 i) ∧ Boxed W g6 22 (.slice none 0 0) ∧ Below w.heap.size w W ∧ W0.heap.size ≤ W.heap.size)
      (fun c (pre : List FRow) W => c = .exit 0 ∧ ∃ p x g, pre = p ++ [x] ∧ (∀ y ∈ p, y.m ≠ 2 ^ k) ∧ x.m = 2 ^ k ∧ Boxed W g6 22 (.slice (some ⟨g, 0, none⟩) 16 16) ∧ W0.heap.size ≤ g ∧ W.heap[g]? = some (.cells (bys x.1.f1).toArray 5 (0, 0)) ∧ Below w.heap.size w W) (pre ++ [x]) U))) := fun ⟨_, _, h⟩ => h
    refine start_in (m := 5) (S := (fun V => V.cell? ⟨Bx, 0, none⟩ = some (.int .i64 (x.m : Int)) ∧ V.cell? ⟨w.heap.size, 0, none⟩ = some (.int .i64 i) ∧ Below U.heap.size U V)) (ds := []) (bl 5 0) (by kernel_rfl) (by rfl) hout rfl rfl ⟨c0, cI, (Below.refl _ _).drew⟩ (fun hHeld => ?_)
    refine pU 0 23 (bl 5 1) (by kernel_rfl) (h := ?_)
    refine tU 1 24 (bl 5 3) (by kernel_rfl) hHeld (hy := by rintro w' ⟨s0, s1, s2⟩; go_simp; with_reducible rfl) (h := ?_)
    refine tU 2 25 (bl 5 7) (by kernel_rfl) hHeld (hy := by rintro w' ⟨s0, s1, s2⟩; go_simp; with_reducible rfl) (h := ?_)
    refine pure_ (i := 3) (N := some 26) (v := .int .i64 ((2 ^ k : Nat) : Int)) (a' := ?_) (bl 5 15) rfl rfl (by kernel_rfl) (fun _ _ _ h => h) (Or.inl ⟨by rfl, ?_⟩) ?_ ?_
    · intro w'
      exact exec_shl rfl rfl rfl (run_shl i k HKK.out hk16 w')
    rotate_left
    · simp only [Act.put, List.setIfInBounds_toArray, List.set_cons_zero, List.set_cons_succ, i64_w, i32_w]
      rfl
    refine pU 4 27 (bl 5 31) (by kernel_rfl) (h := ?_)
    refine done_ (by kernel_rfl) ?_
    obtain ⟨s0, s1, s3⟩ := hHeld
    refine hK1 _ _ ?_
    have hu := s3.size
    by_cases hbit : x.m = 2 ^ k
    · refine wpIn_cond_true (by show Value.bool _ = _; rw [hbit]; simp) ?_
      have hxb := (s3.block _ (Array.getElem?_eq_some_iff.1 HX.out).1).trans HX.out
      have S3 := Lib.hid s3
      have HB := Lib.hid hbit
      clear s0 s1 s3 hbit c0 cI
      refine wpIn_seq_k (fun K3 hK3 => ?_)
      refine plain_in (by rfl) (fun ⟨_, _, h⟩ => h) ?_
      go_wp2_with (first
        | (refine wpList_load_row rfl 76 _ rfl Bx rfl 76 (.int .i64 (x.m : Int) :: bys x.1.f1).toArray (0, 0) _ hxb Tryd.underlying76 rfl (by simp only [List.size_toArray]; exact HI17.out) ?_)
        | (refine Kd.event_run rfl (exec_field (x := .tmp 29) rfl rfl (run_field25 (x.m : Int) g u4)) ?_)
        | (go_at_call 49; refine (row_calls (x.m : Int) x.1.f1 HXS.out.2.2 _).mono ?_; rintro e u4 ⟨g, hg1, rfl, hg3, hb4⟩; have hsz4 := hb4.size; have bO4 := boxed_block (boxed_block BO2.out S3.out) hb4; have cO4 := bO4.cell; have fO4 := bO4.frozen; have BO4 := Lib.hid bO4; have HG1 := Lib.hid hg1; have HG3 := Lib.hid hg3; have HB4 := Lib.hid hb4; clear hg1 hg3 hb4 bO4 hxb))
      refine wpIn_exit ?_
      rw [Exit.inBlock, if_neg (by decide)]
      have h3u := S3.out.size
      have hbw := ((S3.out.trans (HB4.out.mono h3u)).mono hwW).setCell (p := ⟨g6, 0, none⟩) (by simp; omega) (.slice (some ⟨g, 0, none⟩) 16 16)
      have hg1 := HG1.out
      refine ⟨((keeps_of_below S3.out _).trans (keeps_of_below HB4.out _)).trans (keeps_set BO4.out _ _), rfl, pre, x, g, rfl, HALL.out, HB.out, BO4.out.set _, by omega, ?_, hB2.trans hbw⟩
      rw [Below.heap_setCell _ _ _ _ (by simp; omega)]
      exact HG3.out
    · refine wpIn_cond_false (by show Value.bool _ = _; congr 1; simp; exact_mod_cast hbit) (wpIn_skip ?_)
      refine ⟨keeps_of_below s3 _, s3.mono hwW, ?_⟩
      dsimp only
      refine ⟨fun y hy => ?_, boxed_block BI2.out s3, boxed_block BO2.out s3, hB2.trans (s3.mono hwW), by omega⟩
      rcases List.mem_append.1 hy with hy | hy
      · exact HALL.out y hy
      · rw [List.mem_singleton.1 hy]; exact hbit
  case done =>
    rintro D xs W hD hxs ⟨hall, bI3, bO3, hB3, hz3⟩ hKm
    rw [hxs] at hall
    have cO := bO3.cell
    have hsol : solvedS (fz.map Subtype.val) i = ([], false) := by rw [HS.out, findS_none k fz hall]
    have HSOL := Lib.hid hsol
    have HKm := Lib.hid hKm
    clear hsol hKm bI3 bO3 hall hxs bI bO b5
    go_wp2
    refine wp_normal ?_
    refine start_ (n := 5) (S := (fun V => V.cell? ⟨g6, 0, none⟩ = some (.slice none 0 0) ∧ Below W.heap.size W V)) (ds := []) (bl 5 0) (by kernel_rfl) rfl rfl ⟨cO, (Below.refl _ _).drew⟩ (fun hHeld => ?_)
    refine tU 0 31 (bl 5 1) (by kernel_rfl) hHeld (hy := by rintro w' ⟨s0, s1⟩; go_simp; with_reducible rfl) (h := ?_)
    refine pU 3 4 (bl 5 9) (by kernel_rfl) (h := ?_)
    refine tU 1 32 (bl 5 11) (by kernel_rfl) hHeld (hy := by rintro w' ⟨s0, s1⟩; go_simp; with_reducible rfl) (h := ?_)
    refine pure_ (i := 2) (N := some 33) (v := .bool false) (a' := ?_) (bl 5 15) rfl rfl (by kernel_rfl) (fun _ _ _ h => h) (Or.inl ⟨by rfl, ?_⟩) ?_ ?_
    · intro w'
      exact exec_neq rfl rfl rfl rfl (neq_nil0 w')
    rotate_left
    · simp only [Act.put, List.setIfInBounds_toArray, List.set_cons_zero, List.set_cons_succ, i64_w, i32_w]
      rfl
    refine pU 4 5 (bl 5 31) (by kernel_rfl) (h := ?_)
    refine done_ (by kernel_rfl) ?_
    go_wp2
    have hKw : W.drew.heap[D]? = some (.deferred (some [])) := HKm.out
    have hBw : Below w.heap.size w W.drew := hB3.drew
    refine ⟨by simp, .inl ⟨_, _, rfl, run_takeDeferred hKw, ?_⟩⟩
    refine ⟨.tuple #[.slice none 0 0, .bool false], by simp [results, Tryd.results37, go_sem], ?_⟩
    rw [HSOL.out]
    have hfin := hBw.trans (belowK_b (w := w) (Nat.le_refl _) W.drew D _ (.deferred none) (by omega) hKw rfl rfl)
    exact ⟨_, rfl, Kd.R_nil _ _ _ _ _, hfin⟩
  case stop =>
    rintro D c pre W hD ⟨r, hr⟩ ⟨rfl, p, x, g, rfl, h0, h1, bO3, hg, hx, hB3⟩ hKm
    have hsol : solvedS (fz.map Subtype.val) i = (x.1.f1, true) := by rw [HS.out, ← hr, findS_some k p r x h0 h1]
    have hd16 := x.spec.2.2
    refine wpIn_exit ?_
    rw [Exit.inBlock, if_pos rfl]
    have cO := bO3.cell
    have HSOL := Lib.hid hsol
    have HKm := Lib.hid hKm
    have HX := Lib.hid hx
    clear hsol hKm bO3 h0 h1 hr bI bO b5 hx
    go_wp2
    refine wp_normal ?_
    refine start_ (n := 5) (S := (fun V => V.cell? ⟨g6, 0, none⟩ = some (.slice (some ⟨g, 0, none⟩) 16 16) ∧ Below W.heap.size W V)) (ds := []) (bl 5 0) (by kernel_rfl) rfl rfl ⟨cO, (Below.refl _ _).drew⟩ (fun hHeld => ?_)
    refine tU 0 31 (bl 5 1) (by kernel_rfl) hHeld (hy := by rintro w' ⟨s0, s1⟩; go_simp; with_reducible rfl) (h := ?_)
    refine pU 3 4 (bl 5 9) (by kernel_rfl) (h := ?_)
    refine tU 1 32 (bl 5 11) (by kernel_rfl) hHeld (hy := by rintro w' ⟨s0, s1⟩; go_simp; with_reducible rfl) (h := ?_)
    refine pure_ (i := 2) (N := some 33) (v := .bool true) (a' := ?_) (bl 5 15) rfl rfl (by kernel_rfl) (fun _ _ _ h => h) (Or.inl ⟨by rfl, ?_⟩) ?_ ?_
    · intro w'
      exact exec_neq rfl rfl rfl rfl (neq_nil1 g w')
    rotate_left
    · simp only [Act.put, List.setIfInBounds_toArray, List.set_cons_zero, List.set_cons_succ, i64_w, i32_w]
      rfl
    refine pU 4 5 (bl 5 31) (by kernel_rfl) (h := ?_)
    refine done_ (by kernel_rfl) ?_
    go_wp2
    have hKw : W.drew.heap[D]? = some (.deferred (some [])) := HKm.out
    have hBw : Below w.heap.size w W.drew := hB3.drew
    refine ⟨by simp, .inl ⟨_, _, rfl, run_takeDeferred hKw, ?_⟩⟩
    refine ⟨.tuple #[.slice (some ⟨g, 0, none⟩) 16 16, .bool true], by simp [results, Tryd.results37, go_sem], ?_⟩
    rw [HSOL.out]
    have hfin := hBw.trans (belowK_b (w := w) (Nat.le_refl _) W.drew D _ (.deferred none) (by omega) hKw rfl rfl)
    refine ⟨_, rfl, row_R _ _ hd16 (by omega) trivial ?_, hfin⟩
    have hgd : g ≠ D := by rintro rfl; have h1 := HX.out; have h2 := HKm.out; rw [h1] at h2; cases h2
    exact (World.putObj_heap_other (by omega)).trans HX.out
end Go.Proofs.YtknlbeojdmeljaaDoor.H
