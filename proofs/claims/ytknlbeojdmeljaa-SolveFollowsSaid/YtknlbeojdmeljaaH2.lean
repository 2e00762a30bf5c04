import Derived.Test.YtknlbeojdmeljaaH1
import Derived.Test.YtknlbeojdmeljaaWLast
import Derived.OrdersIn
/-! In a round of a range over a function (the fence is the wide one): a region without a defer statement is walked as everywhere. -/
namespace Go.Proofs.Ytknlbeojdmeljaa.H
open Go.RowKit Go.Proofs.YtknlbeojdmeljaaW.PrintWords Go.Proofs.YtknlbeojdmeljaaW.PrintLast
set_option linter.unusedVariables false
set_option linter.unusedSimpArgs false

section
variable {P : Program} {l0 n : Nat} {ops : Array Oper} {Q : Exit → Act → World → Prop}

theorem calls_round {f : FuncId} {args : Array Value} {w : World} {R : Ending → World → Prop} (h : Calls P f args w R) : CallsIn (Fence.wide.inRound l0) n P f args w R :=
  CallsIn.inRound l0 (callsIn_wide.2 h)

theorem rows_round {row : String} {args : Array Value} {w : World} {R : Value → World → Prop} (h : Rows P row args w R) : RowsIn (Fence.wide.inRound l0) n P row args w R := fun c cs _ => by
  obtain ⟨v, w', r, s⟩ := h c cs
  exact ⟨v, w', r, by rw [fenced_inRound]; exact stepsIn_wide.2 s⟩

theorem upon_round {o : Oper} {a : Act} {K K' : Act → World → Prop} (hK : ∀ a w, K a w → K' a w) {r : Result Next} (h : o.upon P a K Q r) : o.uponIn (Fence.wide.inRound l0) n P a K' Q r := by
  cases r with
  | ok v w =>
    cases v with
    | value v => exact hK _ _ h
    | skip => exact hK _ _ h
    | defer d => exact hK _ _ h
    | enter f args =>
      refine ⟨fun hd => by simp [Fence.wide] at hd, calls_round (Calls.mono h ?_)⟩
      intro e w' he
      cases e with
      | returned v => exact hK _ _ he
      | panicked c => exact he
      | outgrown => exact he
    | row r args => exact ⟨fun hd => by simp [Fence.wide] at hd, rows_round (Rows.mono h fun v w' hv => hK _ _ hv)⟩
    | round l f tmps a b => exact h.elim
    | _ => exact h
  | halt h' w =>
    cases h' <;> exact h

theorem op_round {o : Oper} {a : Act} {w : World} {K K' : Act → World → Prop} (hnd : ∀ c, o.op ≠ .defer c) (hK : ∀ a w, K a w → K' a w) (h : o.wp P a w K Q) : o.wpIn (Fence.wide.inRound l0) n P a w K' Q :=
  ⟨fun _ _ => trivial, by rw [Oper.semAt_eq _ _ _ hnd]; exact upon_round hK h⟩

theorem wpOp_round (hout : ¬ LetsOut Q) {i : Nat} {a : Act} {w : World} {K K' : Act → World → Prop} (hnd : ∀ (j : Nat) (o : Oper) c, ops[j]? = some o → o.op ≠ .defer c) (hK : ∀ a w, K a w → K' a w) (h : wpOp P ops Q i K a w) : wpOpIn (Fence.wide.inRound l0) n P ops Q i K' a w := by
  unfold wpOp at h
  unfold wpOpIn
  cases hi : ops[i]? with
  | none => simp only [hi] at h ⊢; exact hK _ _ h
  | some o =>
    simp only [hi] at h ⊢
    by_cases hw : Region.wanted o (yielded ops a.tmps) = true
    · rw [if_pos hw] at h ⊢
      rcases h with h | h
      · exact op_round (fun c => hnd i o c hi) hK h
      · exact absurd h.2 hout
    · rw [if_neg hw] at h ⊢
      exact ⟨fun _ _ => trivial, hK _ _ h⟩

theorem any_round (hout : ¬ LetsOut Q) {md : Region.Mode} (hnd : ∀ (j : Nat) (o : Oper) c, ops[j]? = some o → o.op ≠ .defer c) : ∀ (fuel : Nat) (listed : Array Bool) (a : Act) (w : World), wpAny P md ops Q fuel listed a w → wpAnyIn (Fence.wide.inRound l0) n P md ops Q fuel listed a w
  | 0, _, _, _, h => h
  | fuel + 1, listed, a, w, h => ⟨h.1, fun i hi => wpOp_round hout hnd (fun a w hh => any_round hout hnd fuel _ a w hh) (h.2 i hi)⟩

def noDefer (ops : Array Oper) : Bool := ops.toList.all fun o => match o.op with | .defer _ => false | _ => true
theorem noDefer_spec (h : noDefer ops = true) : ∀ (j : Nat) (o : Oper) c, ops[j]? = some o → o.op ≠ .defer c := fun j o c hj hc => by
  unfold noDefer at h
  rw [List.all_eq_true] at h
  have := h o (by simpa using Array.mem_of_getElem? hj)
  rw [hc] at this
  cases this

/-- A region that draws its order, in a round. -/
theorem start_in {id m : Nat} {a : Act} {w : World} {S : World → Prop} {ds : List Nat} (l : Array Bool) (hm : P.follows .mixedOrders = true) (hnd : noDefer ops = true) (hout : ¬ LetsOut Q) (hn : ops.size = m) (hl : Array.replicate m false = l) (hS : S w.drew)
    (h : S w.drew → wpAnyLast P .any ops Q S ds m l a w.drew) : (Code.region id ops true).wpIn (Fence.wide.inRound l0) n P Q a w := by
  subst hn
  subst hl
  exact wpIn_region_any hm (any_round hout (noDefer_spec hnd) _ _ _ _ (wpAny_of_last _ _ _ _ (h hS)))

theorem ops_round (hout : ¬ LetsOut Q) (hnd : ∀ (j : Nat) (o : Oper) c, ops[j]? = some o → o.op ≠ .defer c) : ∀ (l : List Nat) (a : Act) (w : World), wpOps P ops Q l a w → wpOpsIn (Fence.wide.inRound l0) n P ops Q l a w
  | [], _, _, h => h
  | i :: r, a, w, h => by
    rw [wpOpsIn_cons]
    rw [wpOps_cons] at h
    exact wpOp_round hout hnd (fun a w hh => ops_round hout hnd r a w hh) h

/-- A plain region, in a round. -/
theorem plain_in {id : Nat} {l : List Oper} {a : Act} {w : World} (hnd : noDefer l.toArray = true) (hout : ¬ LetsOut Q) (h : wpList P l.toArray Q l a w) : (Code.region id l.toArray false).wpIn (Fence.wide.inRound l0) n P Q a w :=
  wpIn_region (ops_round hout (noDefer_spec hnd) _ _ _ (by
    rw [List.range_eq_range']
    have := wpOps_eq_wpList (P := P) (ops := l.toArray) (Q := Q) l 0 (by simp)
    simp only [List.size_toArray]
    rw [this]
    exact h))
end
end Go.Proofs.Ytknlbeojdmeljaa.H
namespace Go.Proofs.Ytknlbeojdmeljaa.H
open Go.RowKit Go.Proofs.YtknlbeojdmeljaaW.PrintWords Go.Proofs.YtknlbeojdmeljaaW.PrintLast
set_option linter.unusedVariables false
section
variable {P : Program} {ops : Array Oper} {op oi : Oper} {a : Act} {w : World} {K : Act → World → Prop} {Q : Exit → Act → World → Prop}
/-- A whole row is stored, in a region that draws its order. -/
theorem skip_row (hw : Region.wanted oi (yielded ops a.tmps) = true) (hN : oi.dst = none) (ty : TypeId) (x y : Operand) (ho : oi.op = .store ty x y)
    (g : Nat) (cells : List Value) (C : Array Value) (t : TypeId) (hx : a.eval x = .pointer (some ⟨g, 0, none⟩)) (hy : a.eval y = .agg cells.toArray)
    (hb : w.heap[g]? = some (.cells C t (0, 0))) (hs : C.size = cells.length) (hi : (P.info? ty).map (·.size) = some cells.length) (h1 : ∀ v ∈ cells, v.oneCell' = true)
    (h : ∀ w1 : World, w1.heap[g]? = some (.cells cells.toArray t (0, 0)) → (∀ k, k ≠ g → w1.heap[k]? = w.heap[k]?) → w1.heap.size = w.heap.size → (∀ (B : Nat) (w0 : World), B ≤ g → Below B w0 w → Below B w0 w1) → K a w1) :
    if Region.wanted oi (yielded ops a.tmps) = true then Oper.wp P oi a w K Q else K (a.put none undef) w := by
  refine skip_ (w1 := w.setCells g 0 cells.toArray.toList) hw hN ?_ ?_
  · unfold execOp
    simp only [ho, hx, hy, Instr.storeAt, Instr.sureAddr, Sem.run_bind, Sem.run_pure, Result.andThen_ok, run_storeVar_mid w g 0 ty cells.toArray (there_of_row hb 0 _ (by simp [hs])) (by simpa using hi) (all_oneCell_toArray h1)]
  · exact h _ (setCells_row hb cells hs) (fun k hk => heap_setCells_other g k hk _ _ _) (size_setCells _ _ _ _) (fun B w0 hB h0 => below_setCells _ _ _ _ h0 hB)
/-- A whole row is read, in a region that draws its order. -/
theorem row_if {S : World → Prop} (hw : Region.wanted op (yielded ops a.tmps) = true) (ty : TypeId) (x : Operand) (ho : op.op = .load ty x)
    (g : Nat) (hx : a.eval x = .pointer (some ⟨g, 0, none⟩)) (cs : List Value) (t : TypeId) (d : TypeDesc) (hS : ∀ w, S w → w.heap[g]? = some (.cells cs.toArray t (0, 0)))
    (hu : P.underlying ty = some d) (hd : d.isRow = true) (hi : (P.info? ty).map (·.size) = some cs.length) : YieldsIf P ops S op (.agg cs.toArray) a :=
  yieldsIf_load_mid hw ty x ho g 0 hx cs d (fun w hs => rangeAt_of_row (hS w hs) 0 cs (fun j hj => by simp)) hu hd hi
end
end Go.Proofs.Ytknlbeojdmeljaa.H
namespace Go.Proofs.Ytknlbeojdmeljaa.H
open Go.RowKit Go.Proofs.YtknlbeojdmeljaaW.PrintWords Go.Proofs.YtknlbeojdmeljaaW.PrintLast Go.Proofs.Ytknlbeojdmeljaa.P
set_option linter.unusedVariables false
set_option linter.unusedSimpArgs false

def zer (n : Nat) : List Value := List.replicate n (.int .u8 0)
/-- the first 16 bytes, filled up with zeros -/
def pad16 (ds : List Int) : List Int := ds.take 16 ++ List.replicate (16 - ds.length) 0
theorem pad16_len (ds : List Int) : (pad16 ds).length = 16 := by
  simp only [pad16, List.length_append, List.length_take, List.length_replicate]
  omega
theorem pad16_of (ds : List Int) (h : ds.length = 16) : pad16 ds = ds := by
  simp [pad16, h, List.take_of_length_le (show ds.length ≤ 16 by omega)]
theorem blk_newd {w : World} {o : Obj} {n : Nat} (h : n = w.heap.size) : ((w.alloc o).drew).heap[n]? = some o := blk_new h
theorem below3d (w : World) (a b c : Obj) : Below w.heap.size w ((((w.alloc a).alloc b).alloc c).drew) := ((((Below.refl _ _).alloc (Nat.le_refl _) _).alloc (by simp) _).alloc (by simp; omega) _).drew
theorem splice16 (m : Int) (ds : List Int) : splice (Value.int .i64 m :: zer 16) 1 ((bys ds).take 16) = Value.int .i64 m :: bys (pad16 ds) := by
  have hl : ((bys ds).take 16).length = min 16 ds.length := by rw [List.length_take, bys_len]
  unfold splice
  rw [hl]
  simp only [List.take_succ_cons, List.take_zero, List.singleton_append, Nat.add_comm 1, List.drop_succ_cons, zer, List.drop_replicate]
  congr 1
  unfold pad16 bys
  rw [List.map_append, List.map_take, List.map_replicate]
  congr 2
  omega
def fineB (m : Int) (ds : List Int) : Bool := decide (1 ≤ m) && (decide (m < 65536) && decide (ds.length = 16))

theorem results_row_tmp {P : Program} {fn : Func} {p u : Tmp} {ty : TypeId} (h : fn.results = #[.cell p ty, .tmp u]) (tmps : Array Value) (w : World) (g : Nat) (t : TypeId) (cs : Array Value) (fr : Nat × Nat) (d : TypeDesc)
    (hp : tmps.getD p undef = .pointer (some ⟨g, 0, none⟩)) (hg : w.heap[g]? = some (.cells cs t fr))
    (hu : P.underlying ty = some d) (hd : (match d with | .struct _ | .array _ _ => true | _ => false) = true) (hi : (P.info? ty).map (·.size) = some cs.size) :
    (results fn tmps).run P w = .ok (.tuple #[.agg cs, tmps.getD u undef]) w := by
  have hp' : tmps[p]?.getD undef = .pointer (some ⟨g, 0, none⟩) := by simpa using hp
  simp [results, h, hp', asAddr, run_loadVar_row w g t ty cs fr d hg hu hd hi]

set_option maxRecDepth 100000 in
set_option maxHeartbeats 1000000 in
theorem formed_calls (m : Int) (A : Option Addr) (cap : Nat) (ds : List Int) (w : World) (hr : Kd.C (Kd.int .u8) w A ds.length ds) :
    Calls Try.prog 28 #[.agg #[.int .i64 m, .slice A ds.length cap]] w fun e w' => e = .returned (.tuple #[.agg (.int .i64 m :: bys (pad16 ds)).toArray, .bool (fineB m ds)]) ∧ Below w.heap.size w w' := by
  obtain ⟨cs, hcs⟩ : ∃ cs, cs = (bys ds).take 16 := ⟨_, rfl⟩
  have hcl : cs.length = Nat.min ds.length 16 := by rw [hcs, List.length_take, bys_len, Nat.min_comm]
  have h1 : ∀ v ∈ cs, v.oneCell' = true := fun v hv => bys_one ds v (List.mem_of_mem_take (by rw [hcs] at hv; exact hv))
  have HC := Lib.hid hcs
  have HL := Lib.hid hcl
  have hfit : 1 + cs.length ≤ (Value.int .i64 m :: zer 16).length := by
    have : Nat.min ds.length 16 ≤ 16 := Nat.min_le_right _ _
    rw [hcl]; simp only [zer, List.length_cons, List.length_replicate]; omega
  have HF := Lib.hid hfit
  have HP := Lib.hid (show ∀ W' : World, Below w.heap.size w W' → 0 < cs.length → ∃ ad, A = some ad ∧ ∀ j v, cs[j]? = some v → W'.cell? (ad.add j) = some v from by
    intro W' hb h0
    have hr2 := Kd.C_below hr hb
    obtain ⟨_, _, hh⟩ := Kd.reads_of_C (d := (0 : Int)) hr2
    have hpos : 0 < ds.length := by
      have : Nat.min ds.length 16 ≤ ds.length := Nat.min_le_left _ _
      omega
    obtain ⟨ad, e, hc⟩ := hh hpos
    refine ⟨ad, e, fun j v hv => ?_⟩
    rw [hcs, List.getElem?_take] at hv
    split at hv
    · have hj : j < (bys ds).length := (List.getElem?_eq_some_iff.1 hv).1
      rw [bys_len] at hj
      rw [hc j hj]
      have := bys_at ds j hj
      simp only [List.getElem?_toArray] at this
      rw [this] at hv
      exact hv
    · cases hv)
  clear hcs hcl hfit hr
  go_enter Try.func28, Try.ntmps28
  go_wp2_with fail
  go_region_law (refine step_copy_splice rfl (.tmp 9) (.tmp 11) 23 23 rfl 5 Try.underlying23 elem5 _ _ 16 16 _ _ rfl rfl (w.heap.size + 1 + 1) 1 (.int .i64 m :: zer 16) 53 (by exact blk_newd (by simp)) cs HL.out (fun h => ⟨rfl, HP.out _ (below3d _ _ _ _) h⟩) HF.out h1 (w.heap.size + 1 + 1) _ (Below.refl _ _) (Nat.le_refl _) ?_; intro w' hg' hb')
  obtain ⟨E, hE⟩ : ∃ E, E = Value.int .i64 m :: bys (pad16 ds) := ⟨_, rfl⟩
  have hE1 : w'.heap[w.heap.size + 1 + 1]? = some (.cells E.toArray 53 (0, 0)) := by
    rw [hg'.out, hE, HC.out, splice16]
  have hEl : E.length = 17 := by rw [hE, List.length_cons, bys_len, pad16_len]
  have hbx : w'.heap[w.heap.size]? = some (.cells #[.int .i64 m, .slice A ds.length cap] 25 (0, 0)) := by
    rw [hb'.block _ (by omega), heap_drew, Below.heap_alloc _ _ _ (by simp; omega), Below.heap_alloc _ _ _ (by simp)]; exact blk_new rfl
  have hrs : ∃ C, w'.heap[w.heap.size + 1]? = some (.cells C 53 (0, 0)) ∧ C.size = 17 := by
    refine ⟨_, by rw [hb'.block _ (by omega), heap_drew, Below.heap_alloc _ _ _ (by simp)]; exact blk_new (by simp), by rfl⟩
  obtain ⟨C, hC, hCs⟩ := hrs
  have k0 : w'.cell? ⟨w.heap.size, 0, none⟩ = some (.int .i64 m) := (cell_of_row w' _ 0 _ 25 (0, 0) hbx).trans rfl
  have k1 : w'.cell? ⟨w.heap.size, 1, none⟩ = some (.slice A ds.length cap) := (cell_of_row w' _ 1 _ 25 (0, 0) hbx).trans rfl
  have hsz : w.heap.size + 1 + 1 < w'.heap.size := by have := hb'.size; simp at this; omega
  have hbel : Below w.heap.size w w' := (below3d w _ _ _).trans (hb'.mono (by omega))
  have hi : (Try.prog.info? 53).map (·.size) = some E.length := by rw [hEl]; exact size53
  have hone : ∀ v ∈ E, v.oneCell' = true := by rw [hE]; exact eq_one m _
  have HI := Lib.hid hi
  have HB := Lib.hid hb'
  have HG := Lib.hid hg'
  have HE := Lib.hid hE
  have HEl := Lib.hid hEl
  have HE1 := Lib.hid hE1
  have HC' := Lib.hid hC
  have HBX := Lib.hid hbx
  have HCs := Lib.hid hCs
  have HBe := Lib.hid hbel
  clear hb' hg' hE hE1 hC hbx hCs hbel hi hEl
  by_cases p1 : 1 ≤ m
  · have p1' : decide (1 ≤ m) = true := by simpa using p1
    by_cases p2 : m < 65536
    · have p2' : decide (m < 65536) = true := by simpa using p2
      go_wp2_with fail
      refine start_ (n := 17) (S := (fun W => W.cell? ⟨w.heap.size, 0, none⟩ = some (.int .i64 m) ∧ W.cell? ⟨w.heap.size, 1, none⟩ = some (.slice A ds.length cap) ∧ W.heap[w.heap.size + 1 + 1]? = some (.cells E.toArray 53 (0, 0)) ∧ (∃ C, W.heap[w.heap.size + 1]? = some (.cells C 53 (0, 0)) ∧ C.size = 17) ∧ Below w.heap.size w W ∧ W.heap.size = w'.heap.size)) (ds := []) #[false, false, false, false, false, false, false, false, false, false, false, false, false, false, false, false, false] (by kernel_rfl) rfl rfl ⟨k0, k1, HE1.out, ⟨C, HC'.out, HCs.out⟩, HBe.out.drew, rfl⟩ (fun hHeld => ?_)
      refine pure_ (i := 1) (N := some 14) (v := ?_) (a' := ?_) #[false, true, false, false, false, false, false, false, false, false, false, false, false, false, false, false, false] rfl rfl (by kernel_rfl) (fun _ _ _ h => h) (Or.inl ⟨by rfl, ?_⟩) ?_ ?_
      rotate_left
      · intro w'
        go_simp
        with_reducible rfl
      rotate_left
      · simp only [Act.put, List.setIfInBounds_toArray, List.set_cons_zero, List.set_cons_succ, i64_w, i32_w]
        rfl
      refine take_ (i := 0) (N := some 13) (v := _) (a' := ?_) #[true, true, false, false, false, false, false, false, false, false, false, false, false, false, false, false, false] rfl rfl (by kernel_rfl) (fun _ _ _ h => h) (row_if (by rfl) 53 _ rfl (w.heap.size + 1 + 1) rfl E 53 _ (fun _ hS => hS.2.2.1) Try.underlying53 rfl HI.out) hHeld ?_ ?_
      rotate_left
      · simp only [Act.put, List.setIfInBounds_toArray, List.set_cons_zero, List.set_cons_succ, i64_w, i32_w]
        rfl
      refine take_ (i := 2) (N := some 15) (v := ?_) (a' := ?_) #[true, true, true, false, false, false, false, false, false, false, false, false, false, false, false, false, false] rfl rfl (by kernel_rfl) (fun _ _ _ h => h) (Or.inl ⟨by rfl, ?_⟩) hHeld ?_ ?_
      rotate_left
      · rintro w' ⟨s0, s1, s2, s3, s4, s5⟩
        go_simp
        with_reducible rfl
      rotate_left
      · simp only [Act.put, List.setIfInBounds_toArray, List.set_cons_zero, List.set_cons_succ, i64_w, i32_w]
        rfl
      refine pure_ (i := 3) (N := some 16) (v := ?_) (a' := ?_) #[true, true, true, true, false, false, false, false, false, false, false, false, false, false, false, false, false] rfl rfl (by kernel_rfl) (fun _ _ _ h => h) (Or.inl ⟨by rfl, ?_⟩) ?_ ?_
      rotate_left
      · intro w'
        go_simp
        with_reducible rfl
      rotate_left
      · simp only [Act.put, List.setIfInBounds_toArray, List.set_cons_zero, List.set_cons_succ, i64_w, i32_w]
        rfl
      refine pure_ (i := 4) (N := some 17) (v := ?_) (a' := ?_) #[true, true, true, true, true, false, false, false, false, false, false, false, false, false, false, false, false] rfl rfl (by kernel_rfl) (fun _ _ _ h => h) (Or.inl ⟨by rfl, ?_⟩) ?_ ?_
      rotate_left
      · intro w'
        go_simp
        with_reducible rfl
      rotate_left
      · simp only [Act.put, List.setIfInBounds_toArray, List.set_cons_zero, List.set_cons_succ, i64_w, i32_w]
        rfl
      refine pure_ (i := 5) (N := some 18) (v := ?_) (a' := ?_) #[true, true, true, true, true, true, false, false, false, false, false, false, false, false, false, false, false] rfl rfl (by kernel_rfl) (fun _ _ _ h => h) (Or.inl ⟨by rfl, ?_⟩) ?_ ?_
      rotate_left
      · intro w'
        go_simp
        with_reducible rfl
      rotate_left
      · simp only [Act.put, List.setIfInBounds_toArray, List.set_cons_zero, List.set_cons_succ, i64_w, i32_w]
        rfl
      refine take_ (i := 6) (N := some 19) (v := ?_) (a' := ?_) #[true, true, true, true, true, true, true, false, false, false, false, false, false, false, false, false, false] rfl rfl (by kernel_rfl) (fun _ _ _ h => h) (Or.inl ⟨by rfl, ?_⟩) hHeld ?_ ?_
      rotate_left
      · rintro w' ⟨s0, s1, s2, s3, s4, s5⟩
        go_simp
        with_reducible rfl
      rotate_left
      · simp only [Act.put, List.setIfInBounds_toArray, List.set_cons_zero, List.set_cons_succ, i64_w, i32_w]
        rfl
      refine pure_ (i := 7) (N := some 20) (v := ?_) (a' := ?_) #[true, true, true, true, true, true, true, true, false, false, false, false, false, false, false, false, false] rfl rfl (by kernel_rfl) (fun _ _ _ h => h) (Or.inl ⟨by rfl, ?_⟩) ?_ ?_
      rotate_left
      · intro w'
        go_simp
        with_reducible rfl
      rotate_left
      · simp only [Act.put, List.setIfInBounds_toArray, List.set_cons_zero, List.set_cons_succ, i64_w, i32_w]
        rfl
      refine pure_ (i := 8) (N := some 21) (v := ?_) (a' := ?_) #[true, true, true, true, true, true, true, true, true, false, false, false, false, false, false, false, false] rfl rfl (by kernel_rfl) (fun _ _ _ h => h) (Or.inl ⟨by rfl, ?_⟩) ?_ ?_
      rotate_left
      · intro w'
        go_simp
        with_reducible rfl
      rotate_left
      · simp only [Act.put, List.setIfInBounds_toArray, List.set_cons_zero, List.set_cons_succ, i64_w, i32_w]
        rfl
      refine pure_ (i := 9) (N := some 22) (v := ?_) (a' := ?_) #[true, true, true, true, true, true, true, true, true, true, false, false, false, false, false, false, false] rfl rfl (by kernel_rfl) (fun _ _ _ h => h) (Or.inl ⟨by rfl, ?_⟩) ?_ ?_
      rotate_left
      · intro w'
        go_simp
        with_reducible rfl
      rotate_left
      · simp only [Act.put, List.setIfInBounds_toArray, List.set_cons_zero, List.set_cons_succ, i64_w, i32_w]
        rfl
      refine pure_ (i := 10) (N := some 23) (v := ?_) (a' := ?_) #[true, true, true, true, true, true, true, true, true, true, true, false, false, false, false, false, false] rfl rfl (by kernel_rfl) (fun _ _ _ h => h) (Or.inl ⟨by rfl, ?_⟩) ?_ ?_
      rotate_left
      · intro w'
        go_simp
        with_reducible rfl
      rotate_left
      · simp only [Act.put, List.setIfInBounds_toArray, List.set_cons_zero, List.set_cons_succ, i64_w, i32_w]
        rfl
      refine take_ (i := 11) (N := some 24) (v := ?_) (a' := ?_) #[true, true, true, true, true, true, true, true, true, true, true, true, false, false, false, false, false] rfl rfl (by kernel_rfl) (fun _ _ _ h => h) (Or.inl ⟨by rfl, ?_⟩) hHeld ?_ ?_
      rotate_left
      · rintro w' ⟨s0, s1, s2, s3, s4, s5⟩
        go_simp
        with_reducible rfl
      rotate_left
      · simp only [Act.put, List.setIfInBounds_toArray, List.set_cons_zero, List.set_cons_succ, i64_w, i32_w]
        rfl
      refine pure_ (i := 12) (N := some 25) (v := ?_) (a' := ?_) #[true, true, true, true, true, true, true, true, true, true, true, true, true, false, false, false, false] rfl rfl (by kernel_rfl) (fun _ _ _ h => h) (Or.inl ⟨by rfl, ?_⟩) ?_ ?_
      rotate_left
      · intro w'
        go_simp
        with_reducible rfl
      rotate_left
      · simp only [Act.put, List.setIfInBounds_toArray, List.set_cons_zero, List.set_cons_succ, i64_w, i32_w]
        rfl
      refine pure_ (i := 13) (N := some 26) (v := ?_) (a' := ?_) #[true, true, true, true, true, true, true, true, true, true, true, true, true, true, false, false, false] rfl rfl (by kernel_rfl) (fun _ _ _ h => h) (Or.inl ⟨by rfl, ?_⟩) ?_ ?_
      rotate_left
      · intro w'
        go_simp
        with_reducible rfl
      rotate_left
      · simp only [Act.put, List.setIfInBounds_toArray, List.set_cons_zero, List.set_cons_succ, i64_w, i32_w]
        rfl
      refine pure_ (i := 14) (N := some 27) (v := ?_) (a' := ?_) #[true, true, true, true, true, true, true, true, true, true, true, true, true, true, true, false, false] rfl rfl (by kernel_rfl) (fun _ _ _ h => h) (Or.inl ⟨by rfl, ?_⟩) ?_ ?_
      rotate_left
      · intro w'
        go_simp
        with_reducible rfl
      rotate_left
      · simp only [Act.put, List.setIfInBounds_toArray, List.set_cons_zero, List.set_cons_succ, i64_w, i32_w]
        rfl
      refine one_ (i := 15) (N := none) #[true, true, true, true, true, true, true, true, true, true, true, true, true, true, true, true, false] rfl rfl (by kernel_rfl) (by decide) (fun K hK => ?_)
      obtain ⟨s0, s1, s2, ⟨C1, s3, s3'⟩, s4, s5⟩ := hHeld
      refine skip_row (by rfl) rfl 53 _ _ rfl (w.heap.size + 1) E C1 53 rfl rfl s3 (by rw [s3', HEl.out]) HI.out hone ?_
      intro w1 q1 q2 q3 q4
      have t0 := (World.cell?_of_block (w := w'.drew) (q2 w.heap.size (by omega)) : w1.cell? ⟨w.heap.size, 0, none⟩ = _).trans s0
      have t1 := (World.cell?_of_block (w := w'.drew) (q2 w.heap.size (by omega)) : w1.cell? ⟨w.heap.size, 1, none⟩ = _).trans s1
      refine hK.out _ _ ⟨t0, t1, (q2 _ (by omega)).trans s2, ⟨_, q1, by simp [HEl.out]⟩, q4 _ _ (by omega) s4, q3.trans s5⟩ (fun hHeld => ?_)
      have Q1 := Lib.hid q1
      have Q4 := Lib.hid (q4 _ _ (by omega) s4)
      clear hK K q1 q2 q3 q4 s0 s1 s2 s3 s3' s4 s5 t0 t1
      refine pure_ (i := 16) (N := some 3) (v := ?_) (a' := ?_) #[true, true, true, true, true, true, true, true, true, true, true, true, true, true, true, true, true] rfl rfl (by kernel_rfl) (fun _ _ _ h => h) (Or.inl ⟨by rfl, ?_⟩) ?_ ?_
      rotate_left
      · intro w'
        go_simp
        with_reducible rfl
      rotate_left
      · simp only [Act.put, List.setIfInBounds_toArray, List.set_cons_zero, List.set_cons_succ, i64_w, i32_w]
        rfl
      refine done_ (by kernel_rfl) ?_
      go_wp2
      rw [HE.out] at Q1
      refine bodyPost_ret (results_row_tmp rfl _ _ (w.heap.size + 1) 53 _ (0, 0) _ rfl Q1.out Try.underlying53 rfl (by simp [size53, bys_len, pad16_len])) rfl ⟨?_, Q4.out⟩
      have ef : fineB m ds = ((ds.length : Int) == 16) := by simp only [fineB, p1', p2', Bool.true_and]; rw [Bool.eq_iff_iff]; simp; omega
      show Ending.returned (.tuple #[.agg (.int .i64 m :: bys (pad16 ds)).toArray, .bool ((ds.length : Int) == 16)]) = _
      rw [ef]
    · have p2' : decide (m < 65536) = false := by simpa using p2
      go_wp2_with fail
      refine start_ (n := 17) (S := (fun W => W.cell? ⟨w.heap.size, 0, none⟩ = some (.int .i64 m) ∧ W.cell? ⟨w.heap.size, 1, none⟩ = some (.slice A ds.length cap) ∧ W.heap[w.heap.size + 1 + 1]? = some (.cells E.toArray 53 (0, 0)) ∧ (∃ C, W.heap[w.heap.size + 1]? = some (.cells C 53 (0, 0)) ∧ C.size = 17) ∧ Below w.heap.size w W ∧ W.heap.size = w'.heap.size)) (ds := []) #[false, false, false, false, false, false, false, false, false, false, false, false, false, false, false, false, false] (by kernel_rfl) rfl rfl ⟨k0, k1, HE1.out, ⟨C, HC'.out, HCs.out⟩, HBe.out.drew, rfl⟩ (fun hHeld => ?_)
      refine pure_ (i := 1) (N := some 14) (v := ?_) (a' := ?_) #[false, true, false, false, false, false, false, false, false, false, false, false, false, false, false, false, false] rfl rfl (by kernel_rfl) (fun _ _ _ h => h) (Or.inl ⟨by rfl, ?_⟩) ?_ ?_
      rotate_left
      · intro w'
        go_simp
        with_reducible rfl
      rotate_left
      · simp only [Act.put, List.setIfInBounds_toArray, List.set_cons_zero, List.set_cons_succ, i64_w, i32_w]
        rfl
      refine take_ (i := 0) (N := some 13) (v := _) (a' := ?_) #[true, true, false, false, false, false, false, false, false, false, false, false, false, false, false, false, false] rfl rfl (by kernel_rfl) (fun _ _ _ h => h) (row_if (by rfl) 53 _ rfl (w.heap.size + 1 + 1) rfl E 53 _ (fun _ hS => hS.2.2.1) Try.underlying53 rfl HI.out) hHeld ?_ ?_
      rotate_left
      · simp only [Act.put, List.setIfInBounds_toArray, List.set_cons_zero, List.set_cons_succ, i64_w, i32_w]
        rfl
      refine take_ (i := 2) (N := some 15) (v := ?_) (a' := ?_) #[true, true, true, false, false, false, false, false, false, false, false, false, false, false, false, false, false] rfl rfl (by kernel_rfl) (fun _ _ _ h => h) (Or.inl ⟨by rfl, ?_⟩) hHeld ?_ ?_
      rotate_left
      · rintro w' ⟨s0, s1, s2, s3, s4, s5⟩
        go_simp
        with_reducible rfl
      rotate_left
      · simp only [Act.put, List.setIfInBounds_toArray, List.set_cons_zero, List.set_cons_succ, i64_w, i32_w]
        rfl
      refine pure_ (i := 3) (N := some 16) (v := ?_) (a' := ?_) #[true, true, true, true, false, false, false, false, false, false, false, false, false, false, false, false, false] rfl rfl (by kernel_rfl) (fun _ _ _ h => h) (Or.inl ⟨by rfl, ?_⟩) ?_ ?_
      rotate_left
      · intro w'
        go_simp
        with_reducible rfl
      rotate_left
      · simp only [Act.put, List.setIfInBounds_toArray, List.set_cons_zero, List.set_cons_succ, i64_w, i32_w]
        rfl
      refine pure_ (i := 4) (N := some 17) (v := ?_) (a' := ?_) #[true, true, true, true, true, false, false, false, false, false, false, false, false, false, false, false, false] rfl rfl (by kernel_rfl) (fun _ _ _ h => h) (Or.inl ⟨by rfl, ?_⟩) ?_ ?_
      rotate_left
      · intro w'
        go_simp
        with_reducible rfl
      rotate_left
      · simp only [Act.put, List.setIfInBounds_toArray, List.set_cons_zero, List.set_cons_succ, i64_w, i32_w]
        rfl
      refine pure_ (i := 5) (N := some 18) (v := ?_) (a' := ?_) #[true, true, true, true, true, true, false, false, false, false, false, false, false, false, false, false, false] rfl rfl (by kernel_rfl) (fun _ _ _ h => h) (Or.inl ⟨by rfl, ?_⟩) ?_ ?_
      rotate_left
      · intro w'
        go_simp
        with_reducible rfl
      rotate_left
      · simp only [Act.put, List.setIfInBounds_toArray, List.set_cons_zero, List.set_cons_succ, i64_w, i32_w]
        rfl
      refine take_ (i := 6) (N := some 19) (v := ?_) (a' := ?_) #[true, true, true, true, true, true, true, false, false, false, false, false, false, false, false, false, false] rfl rfl (by kernel_rfl) (fun _ _ _ h => h) (Or.inl ⟨by rfl, ?_⟩) hHeld ?_ ?_
      rotate_left
      · rintro w' ⟨s0, s1, s2, s3, s4, s5⟩
        go_simp
        with_reducible rfl
      rotate_left
      · simp only [Act.put, List.setIfInBounds_toArray, List.set_cons_zero, List.set_cons_succ, i64_w, i32_w]
        rfl
      refine pure_ (i := 7) (N := some 20) (v := ?_) (a' := ?_) #[true, true, true, true, true, true, true, true, false, false, false, false, false, false, false, false, false] rfl rfl (by kernel_rfl) (fun _ _ _ h => h) (Or.inl ⟨by rfl, ?_⟩) ?_ ?_
      rotate_left
      · intro w'
        go_simp
        with_reducible rfl
      rotate_left
      · simp only [Act.put, List.setIfInBounds_toArray, List.set_cons_zero, List.set_cons_succ, i64_w, i32_w]
        rfl
      refine pure_ (i := 8) (N := some 21) (v := ?_) (a' := ?_) #[true, true, true, true, true, true, true, true, true, false, false, false, false, false, false, false, false] rfl rfl (by kernel_rfl) (fun _ _ _ h => h) (Or.inl ⟨by rfl, ?_⟩) ?_ ?_
      rotate_left
      · intro w'
        go_simp
        with_reducible rfl
      rotate_left
      · simp only [Act.put, List.setIfInBounds_toArray, List.set_cons_zero, List.set_cons_succ, i64_w, i32_w]
        rfl
      refine pure_ (i := 9) (N := some 22) (v := ?_) (a' := ?_) #[true, true, true, true, true, true, true, true, true, true, false, false, false, false, false, false, false] rfl rfl (by kernel_rfl) (fun _ _ _ h => h) (Or.inl ⟨by rfl, ?_⟩) ?_ ?_
      rotate_left
      · intro w'
        go_simp
        with_reducible rfl
      rotate_left
      · simp only [Act.put, List.setIfInBounds_toArray, List.set_cons_zero, List.set_cons_succ, i64_w, i32_w]
        rfl
      refine pure_ (i := 10) (N := some 23) (v := undef) (a' := ?_) #[true, true, true, true, true, true, true, true, true, true, true, false, false, false, false, false, false] rfl rfl (by kernel_rfl) (fun _ _ _ h => h) (Or.inr ⟨by rfl, rfl⟩) ?_ ?_
      rotate_left
      · simp only [Act.put, List.setIfInBounds_toArray, List.set_cons_zero, List.set_cons_succ, i64_w, i32_w]
        rfl
      refine pure_ (i := 11) (N := some 24) (v := undef) (a' := ?_) #[true, true, true, true, true, true, true, true, true, true, true, true, false, false, false, false, false] rfl rfl (by kernel_rfl) (fun _ _ _ h => h) (Or.inr ⟨by rfl, rfl⟩) ?_ ?_
      rotate_left
      · simp only [Act.put, List.setIfInBounds_toArray, List.set_cons_zero, List.set_cons_succ, i64_w, i32_w]
        rfl
      refine pure_ (i := 12) (N := some 25) (v := undef) (a' := ?_) #[true, true, true, true, true, true, true, true, true, true, true, true, true, false, false, false, false] rfl rfl (by kernel_rfl) (fun _ _ _ h => h) (Or.inr ⟨by rfl, rfl⟩) ?_ ?_
      rotate_left
      · simp only [Act.put, List.setIfInBounds_toArray, List.set_cons_zero, List.set_cons_succ, i64_w, i32_w]
        rfl
      refine pure_ (i := 13) (N := some 26) (v := undef) (a' := ?_) #[true, true, true, true, true, true, true, true, true, true, true, true, true, true, false, false, false] rfl rfl (by kernel_rfl) (fun _ _ _ h => h) (Or.inr ⟨by rfl, rfl⟩) ?_ ?_
      rotate_left
      · simp only [Act.put, List.setIfInBounds_toArray, List.set_cons_zero, List.set_cons_succ, i64_w, i32_w]
        rfl
      refine pure_ (i := 14) (N := some 27) (v := ?_) (a' := ?_) #[true, true, true, true, true, true, true, true, true, true, true, true, true, true, true, false, false] rfl rfl (by kernel_rfl) (fun _ _ _ h => h) (Or.inl ⟨by rfl, ?_⟩) ?_ ?_
      rotate_left
      · intro w'
        go_simp
        with_reducible rfl
      rotate_left
      · simp only [Act.put, List.setIfInBounds_toArray, List.set_cons_zero, List.set_cons_succ, i64_w, i32_w]
        rfl
      refine one_ (i := 15) (N := none) #[true, true, true, true, true, true, true, true, true, true, true, true, true, true, true, true, false] rfl rfl (by kernel_rfl) (by decide) (fun K hK => ?_)
      obtain ⟨s0, s1, s2, ⟨C1, s3, s3'⟩, s4, s5⟩ := hHeld
      refine skip_row (by rfl) rfl 53 _ _ rfl (w.heap.size + 1) E C1 53 rfl rfl s3 (by rw [s3', HEl.out]) HI.out hone ?_
      intro w1 q1 q2 q3 q4
      have t0 := (World.cell?_of_block (w := w'.drew) (q2 w.heap.size (by omega)) : w1.cell? ⟨w.heap.size, 0, none⟩ = _).trans s0
      have t1 := (World.cell?_of_block (w := w'.drew) (q2 w.heap.size (by omega)) : w1.cell? ⟨w.heap.size, 1, none⟩ = _).trans s1
      refine hK.out _ _ ⟨t0, t1, (q2 _ (by omega)).trans s2, ⟨_, q1, by simp [HEl.out]⟩, q4 _ _ (by omega) s4, q3.trans s5⟩ (fun hHeld => ?_)
      have Q1 := Lib.hid q1
      have Q4 := Lib.hid (q4 _ _ (by omega) s4)
      clear hK K q1 q2 q3 q4 s0 s1 s2 s3 s3' s4 s5 t0 t1
      refine pure_ (i := 16) (N := some 3) (v := ?_) (a' := ?_) #[true, true, true, true, true, true, true, true, true, true, true, true, true, true, true, true, true] rfl rfl (by kernel_rfl) (fun _ _ _ h => h) (Or.inl ⟨by rfl, ?_⟩) ?_ ?_
      rotate_left
      · intro w'
        go_simp
        with_reducible rfl
      rotate_left
      · simp only [Act.put, List.setIfInBounds_toArray, List.set_cons_zero, List.set_cons_succ, i64_w, i32_w]
        rfl
      refine done_ (by kernel_rfl) ?_
      go_wp2
      rw [HE.out] at Q1
      refine bodyPost_ret (results_row_tmp rfl _ _ (w.heap.size + 1) 53 _ (0, 0) _ rfl Q1.out Try.underlying53 rfl (by simp [size53, bys_len, pad16_len])) rfl ⟨?_, Q4.out⟩
      have ef : fineB m ds = false := by simp only [fineB, p1', p2', Bool.true_and, Bool.false_and]
      show Ending.returned (.tuple #[.agg (.int .i64 m :: bys (pad16 ds)).toArray, .bool false]) = _
      rw [ef]
  · have p1' : decide (1 ≤ m) = false := by simpa using p1
    go_wp2_with fail
    refine start_ (n := 17) (S := (fun W => W.cell? ⟨w.heap.size, 0, none⟩ = some (.int .i64 m) ∧ W.cell? ⟨w.heap.size, 1, none⟩ = some (.slice A ds.length cap) ∧ W.heap[w.heap.size + 1 + 1]? = some (.cells E.toArray 53 (0, 0)) ∧ (∃ C, W.heap[w.heap.size + 1]? = some (.cells C 53 (0, 0)) ∧ C.size = 17) ∧ Below w.heap.size w W ∧ W.heap.size = w'.heap.size)) (ds := []) #[false, false, false, false, false, false, false, false, false, false, false, false, false, false, false, false, false] (by kernel_rfl) rfl rfl ⟨k0, k1, HE1.out, ⟨C, HC'.out, HCs.out⟩, HBe.out.drew, rfl⟩ (fun hHeld => ?_)
    refine pure_ (i := 1) (N := some 14) (v := ?_) (a' := ?_) #[false, true, false, false, false, false, false, false, false, false, false, false, false, false, false, false, false] rfl rfl (by kernel_rfl) (fun _ _ _ h => h) (Or.inl ⟨by rfl, ?_⟩) ?_ ?_
    rotate_left
    · intro w'
      go_simp
      with_reducible rfl
    rotate_left
    · simp only [Act.put, List.setIfInBounds_toArray, List.set_cons_zero, List.set_cons_succ, i64_w, i32_w]
      rfl
    refine take_ (i := 0) (N := some 13) (v := _) (a' := ?_) #[true, true, false, false, false, false, false, false, false, false, false, false, false, false, false, false, false] rfl rfl (by kernel_rfl) (fun _ _ _ h => h) (row_if (by rfl) 53 _ rfl (w.heap.size + 1 + 1) rfl E 53 _ (fun _ hS => hS.2.2.1) Try.underlying53 rfl HI.out) hHeld ?_ ?_
    rotate_left
    · simp only [Act.put, List.setIfInBounds_toArray, List.set_cons_zero, List.set_cons_succ, i64_w, i32_w]
      rfl
    refine take_ (i := 2) (N := some 15) (v := ?_) (a' := ?_) #[true, true, true, false, false, false, false, false, false, false, false, false, false, false, false, false, false] rfl rfl (by kernel_rfl) (fun _ _ _ h => h) (Or.inl ⟨by rfl, ?_⟩) hHeld ?_ ?_
    rotate_left
    · rintro w' ⟨s0, s1, s2, s3, s4, s5⟩
      go_simp
      with_reducible rfl
    rotate_left
    · simp only [Act.put, List.setIfInBounds_toArray, List.set_cons_zero, List.set_cons_succ, i64_w, i32_w]
      rfl
    refine pure_ (i := 3) (N := some 16) (v := ?_) (a' := ?_) #[true, true, true, true, false, false, false, false, false, false, false, false, false, false, false, false, false] rfl rfl (by kernel_rfl) (fun _ _ _ h => h) (Or.inl ⟨by rfl, ?_⟩) ?_ ?_
    rotate_left
    · intro w'
      go_simp
      with_reducible rfl
    rotate_left
    · simp only [Act.put, List.setIfInBounds_toArray, List.set_cons_zero, List.set_cons_succ, i64_w, i32_w]
      rfl
    refine pure_ (i := 4) (N := some 17) (v := ?_) (a' := ?_) #[true, true, true, true, true, false, false, false, false, false, false, false, false, false, false, false, false] rfl rfl (by kernel_rfl) (fun _ _ _ h => h) (Or.inl ⟨by rfl, ?_⟩) ?_ ?_
    rotate_left
    · intro w'
      go_simp
      with_reducible rfl
    rotate_left
    · simp only [Act.put, List.setIfInBounds_toArray, List.set_cons_zero, List.set_cons_succ, i64_w, i32_w]
      rfl
    refine pure_ (i := 5) (N := some 18) (v := undef) (a' := ?_) #[true, true, true, true, true, true, false, false, false, false, false, false, false, false, false, false, false] rfl rfl (by kernel_rfl) (fun _ _ _ h => h) (Or.inr ⟨by rfl, rfl⟩) ?_ ?_
    rotate_left
    · simp only [Act.put, List.setIfInBounds_toArray, List.set_cons_zero, List.set_cons_succ, i64_w, i32_w]
      rfl
    refine pure_ (i := 6) (N := some 19) (v := undef) (a' := ?_) #[true, true, true, true, true, true, true, false, false, false, false, false, false, false, false, false, false] rfl rfl (by kernel_rfl) (fun _ _ _ h => h) (Or.inr ⟨by rfl, rfl⟩) ?_ ?_
    rotate_left
    · simp only [Act.put, List.setIfInBounds_toArray, List.set_cons_zero, List.set_cons_succ, i64_w, i32_w]
      rfl
    refine pure_ (i := 7) (N := some 20) (v := undef) (a' := ?_) #[true, true, true, true, true, true, true, true, false, false, false, false, false, false, false, false, false] rfl rfl (by kernel_rfl) (fun _ _ _ h => h) (Or.inr ⟨by rfl, rfl⟩) ?_ ?_
    rotate_left
    · simp only [Act.put, List.setIfInBounds_toArray, List.set_cons_zero, List.set_cons_succ, i64_w, i32_w]
      rfl
    refine pure_ (i := 8) (N := some 21) (v := ?_) (a' := ?_) #[true, true, true, true, true, true, true, true, true, false, false, false, false, false, false, false, false] rfl rfl (by kernel_rfl) (fun _ _ _ h => h) (Or.inl ⟨by rfl, ?_⟩) ?_ ?_
    rotate_left
    · intro w'
      go_simp
      with_reducible rfl
    rotate_left
    · simp only [Act.put, List.setIfInBounds_toArray, List.set_cons_zero, List.set_cons_succ, i64_w, i32_w]
      rfl
    refine pure_ (i := 9) (N := some 22) (v := ?_) (a' := ?_) #[true, true, true, true, true, true, true, true, true, true, false, false, false, false, false, false, false] rfl rfl (by kernel_rfl) (fun _ _ _ h => h) (Or.inl ⟨by rfl, ?_⟩) ?_ ?_
    rotate_left
    · intro w'
      go_simp
      with_reducible rfl
    rotate_left
    · simp only [Act.put, List.setIfInBounds_toArray, List.set_cons_zero, List.set_cons_succ, i64_w, i32_w]
      rfl
    refine pure_ (i := 10) (N := some 23) (v := undef) (a' := ?_) #[true, true, true, true, true, true, true, true, true, true, true, false, false, false, false, false, false] rfl rfl (by kernel_rfl) (fun _ _ _ h => h) (Or.inr ⟨by rfl, rfl⟩) ?_ ?_
    rotate_left
    · simp only [Act.put, List.setIfInBounds_toArray, List.set_cons_zero, List.set_cons_succ, i64_w, i32_w]
      rfl
    refine pure_ (i := 11) (N := some 24) (v := undef) (a' := ?_) #[true, true, true, true, true, true, true, true, true, true, true, true, false, false, false, false, false] rfl rfl (by kernel_rfl) (fun _ _ _ h => h) (Or.inr ⟨by rfl, rfl⟩) ?_ ?_
    rotate_left
    · simp only [Act.put, List.setIfInBounds_toArray, List.set_cons_zero, List.set_cons_succ, i64_w, i32_w]
      rfl
    refine pure_ (i := 12) (N := some 25) (v := undef) (a' := ?_) #[true, true, true, true, true, true, true, true, true, true, true, true, true, false, false, false, false] rfl rfl (by kernel_rfl) (fun _ _ _ h => h) (Or.inr ⟨by rfl, rfl⟩) ?_ ?_
    rotate_left
    · simp only [Act.put, List.setIfInBounds_toArray, List.set_cons_zero, List.set_cons_succ, i64_w, i32_w]
      rfl
    refine pure_ (i := 13) (N := some 26) (v := undef) (a' := ?_) #[true, true, true, true, true, true, true, true, true, true, true, true, true, true, false, false, false] rfl rfl (by kernel_rfl) (fun _ _ _ h => h) (Or.inr ⟨by rfl, rfl⟩) ?_ ?_
    rotate_left
    · simp only [Act.put, List.setIfInBounds_toArray, List.set_cons_zero, List.set_cons_succ, i64_w, i32_w]
      rfl
    refine pure_ (i := 14) (N := some 27) (v := ?_) (a' := ?_) #[true, true, true, true, true, true, true, true, true, true, true, true, true, true, true, false, false] rfl rfl (by kernel_rfl) (fun _ _ _ h => h) (Or.inl ⟨by rfl, ?_⟩) ?_ ?_
    rotate_left
    · intro w'
      go_simp
      with_reducible rfl
    rotate_left
    · simp only [Act.put, List.setIfInBounds_toArray, List.set_cons_zero, List.set_cons_succ, i64_w, i32_w]
      rfl
    refine one_ (i := 15) (N := none) #[true, true, true, true, true, true, true, true, true, true, true, true, true, true, true, true, false] rfl rfl (by kernel_rfl) (by decide) (fun K hK => ?_)
    obtain ⟨s0, s1, s2, ⟨C1, s3, s3'⟩, s4, s5⟩ := hHeld
    refine skip_row (by rfl) rfl 53 _ _ rfl (w.heap.size + 1) E C1 53 rfl rfl s3 (by rw [s3', HEl.out]) HI.out hone ?_
    intro w1 q1 q2 q3 q4
    have t0 := (World.cell?_of_block (w := w'.drew) (q2 w.heap.size (by omega)) : w1.cell? ⟨w.heap.size, 0, none⟩ = _).trans s0
    have t1 := (World.cell?_of_block (w := w'.drew) (q2 w.heap.size (by omega)) : w1.cell? ⟨w.heap.size, 1, none⟩ = _).trans s1
    refine hK.out _ _ ⟨t0, t1, (q2 _ (by omega)).trans s2, ⟨_, q1, by simp [HEl.out]⟩, q4 _ _ (by omega) s4, q3.trans s5⟩ (fun hHeld => ?_)
    have Q1 := Lib.hid q1
    have Q4 := Lib.hid (q4 _ _ (by omega) s4)
    clear hK K q1 q2 q3 q4 s0 s1 s2 s3 s3' s4 s5 t0 t1
    refine pure_ (i := 16) (N := some 3) (v := ?_) (a' := ?_) #[true, true, true, true, true, true, true, true, true, true, true, true, true, true, true, true, true] rfl rfl (by kernel_rfl) (fun _ _ _ h => h) (Or.inl ⟨by rfl, ?_⟩) ?_ ?_
    rotate_left
    · intro w'
      go_simp
      with_reducible rfl
    rotate_left
    · simp only [Act.put, List.setIfInBounds_toArray, List.set_cons_zero, List.set_cons_succ, i64_w, i32_w]
      rfl
    refine done_ (by kernel_rfl) ?_
    go_wp2
    rw [HE.out] at Q1
    refine bodyPost_ret (results_row_tmp rfl _ _ (w.heap.size + 1) 53 _ (0, 0) _ rfl Q1.out Try.underlying53 rfl (by simp [size53, bys_len, pad16_len])) rfl ⟨?_, Q4.out⟩
    have ef : fineB m ds = false := by simp only [fineB, p1', Bool.false_and]
    show Ending.returned (.tuple #[.agg (.int .i64 m :: bys (pad16 ds)).toArray, .bool false]) = _
    rw [ef]
end Go.Proofs.Ytknlbeojdmeljaa.H
