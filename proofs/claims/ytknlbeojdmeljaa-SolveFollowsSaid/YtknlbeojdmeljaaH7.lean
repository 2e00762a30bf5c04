import Derived.Test.YtknlbeojdmeljaaH6
namespace Go.Proofs.Ytknlbeojdmeljaa.H
open Go.RowKit Go.Proofs.YtknlbeojdmeljaaW.PrintWords Go.Proofs.YtknlbeojdmeljaaW.PrintLast Go.Proofs.YtknlbeojdmeljaaW.PrintMore Go.Proofs.Ytknlbeojdmeljaa.P
set_option linter.unusedVariables false
set_option linter.unusedSimpArgs false

theorem exec_shl {P : Program} {a : Act} {o : Oper} {t s : TypeId} {x y : Operand} {u z v : Value} {w : World} (ho : o.op = .binOp .shl t x y s) (hx : a.eval x = u) (hy : a.eval y = z)
    (hrun : (Go.binOp .shl t u z).run P w = .ok v w) : (execOp a.eval o).run P w = .ok (.value v) w := by
  subst hx
  subst hy
  unfold execOp
  simp only [ho, Sem.run_bind]
  have : (eqGuard .shl t x y (a.eval x) (a.eval y)).run P w = .ok () w := rfl
  rw [this]
  simp only [Result.andThen]
  rw [hrun]
  rfl
theorem exec_neq {P : Program} {a : Act} {o : Oper} {t s : TypeId} {x y : Operand} {u z v : Value} {w : World} (ho : o.op = .binOp .neq t x y s) (hx : a.eval x = u) (hy : a.eval y = z)
    (hg : (eqGuard .neq t x y u z).run P w = .ok () w) (hrun : (Go.binOp .neq t u z).run P w = .ok v w) : (execOp a.eval o).run P w = .ok (.value v) w := by
  subst hx
  subst hy
  unfold execOp
  simp only [ho, Sem.run_bind]
  rw [hg]
  simp only [Result.andThen]
  rw [hrun]
  rfl
theorem neq_nil0 (w : World) : (Go.binOp .neq 23 (.slice none 0 0) (.slice none 0 0)).run Try.prog w = .ok (.bool false) w := by kernel_rfl
theorem neq_nil1 (g : Nat) (w : World) : (Go.binOp .neq 23 (.slice (some ⟨g, 0, none⟩) 16 16) (.slice none 0 0)).run Try.prog w = .ok (.bool true) w := by kernel_rfl
theorem wp_normal {P : Program} {c : Code} {K : Act → World → Prop} {Q : Exit → Act → World → Prop} {a : Act} {w : World} (h : c.wp P (Exit.then K (fun _ _ _ => False)) a w) : c.wp P (Exit.then K Q) a w := by
  intro b k cs
  obtain ⟨e, a1, w1, hq, harr⟩ := h b k cs
  cases e with
  | normal => exact ⟨.normal, a1, w1, hq, harr⟩
  | exit _ => exact hq.elim
  | goto _ => exact hq.elim
  | ret => exact hq.elim
  | panic _ => exact hq.elim
  | outgrown => exact hq.elim
theorem run_shl16 (w : World) : ∀ k : Nat, k < 16 → (Go.binOp .shl 3 (.int .i64 1) (.int .i64 ((k : Nat) : Int))).run Try.prog w = .ok (.int .i64 ((2 ^ k : Nat) : Int)) w
  | 0, _ => by kernel_rfl
  | 1, _ => by kernel_rfl
  | 2, _ => by kernel_rfl
  | 3, _ => by kernel_rfl
  | 4, _ => by kernel_rfl
  | 5, _ => by kernel_rfl
  | 6, _ => by kernel_rfl
  | 7, _ => by kernel_rfl
  | 8, _ => by kernel_rfl
  | 9, _ => by kernel_rfl
  | 10, _ => by kernel_rfl
  | 11, _ => by kernel_rfl
  | 12, _ => by kernel_rfl
  | 13, _ => by kernel_rfl
  | 14, _ => by kernel_rfl
  | 15, _ => by kernel_rfl
  | n + 16, h => absurd h (by omega)
theorem run_shl (i : Int) (k : Nat) (hk : i = (k : Int)) (h : k < 16) (w : World) : (Go.binOp .shl 3 (.int .i64 1) (.int .i64 i)).run Try.prog w = .ok (.int .i64 ((2 ^ k : Nat) : Int)) w := by
  subst hk
  exact run_shl16 w k h
theorem findS_none (k : Nat) (fz : List FRow) (h : ∀ y ∈ fz, y.m ≠ 2 ^ k) : (fz.map Subtype.val).find? (fun x => x.f0.toNat == 2 ^ k) = none := by
  rw [List.find?_eq_none]
  intro x hx
  obtain ⟨y, hy, rfl⟩ := List.mem_map.1 hx
  simpa [FRow.m] using h y hy
theorem findS_some (k : Nat) (p r : List FRow) (x : FRow) (h : ∀ y ∈ p, y.m ≠ 2 ^ k) (hx : x.m = 2 ^ k) : ((p ++ [x] ++ r).map Subtype.val).find? (fun x => x.f0.toNat == 2 ^ k) = some x.1 := by
  rw [List.map_append, List.map_append, List.find?_append, List.find?_append, findS_none k p h]
  have : (x.1.f0.toNat == 2 ^ k) = true := by simpa [FRow.m] using hx
  simp [this]

def solvedS (l : List S25) (i : Int) : List Int × Bool :=
  if i < 0 ∨ 16 ≤ i ∨ validS l = false then ([], false)
  else match l.find? (fun x => x.f0.toNat == 2 ^ i.toNat) with | some x => (x.f1, true) | none => ([], false)

set_option maxRecDepth 100000 in
set_option maxHeartbeats 400000 in
theorem solved_calls (A : Option Addr) (cap : Nat) (zs : List S25) (i : Int) (w : World) (hr : Kd.C k25 w A zs.length zs) :
    Calls Try.prog 14 #[.slice A zs.length cap, .int .i64 i] w fun e w' => ∃ v, e = .returned (.tuple #[v, .bool (solvedS zs i).2]) ∧ Kd.R (Kd.int .u8) 5 w' w.heap.size (fun _ => True) v (solvedS zs i).1 ∧ Below w.heap.size w w' := by
  have out : ∀ {w' : World} , Below w.heap.size w w' → (i < 0 ∨ 16 ≤ i ∨ validS zs = false) → ∃ v, Ending.returned (.tuple #[.slice none 0 0, .bool false]) = .returned (.tuple #[v, .bool (solvedS zs i).2]) ∧ Kd.R (Kd.int .u8) 5 w' w.heap.size (fun _ => True) v (solvedS zs i).1 ∧ Below w.heap.size w w' := by
    intro w' hb h
    have : solvedS zs i = ([], false) := if_pos h
    rw [this]
    exact ⟨_, rfl, Kd.R_nil _ _ _ _ _, hb⟩
  have hba : ∀ o : Obj, Below w.heap.size w (w.alloc o) := fun o => (Below.refl _ _).alloc (Nat.le_refl _) _
  by_cases h1 : i < 0
  · go_enter Try.func14, Try.ntmps14
    go_wp2
    refine wp_scope_straight ?_
    go_wp2
    simp only [Exit.noGoto]
    go_ret2
    exact out (hba _) (.inl h1)
  by_cases h2 : 16 ≤ i
  · go_enter Try.func14, Try.ntmps14
    go_wp2
    refine wp_scope_straight ?_
    go_wp2
    simp only [Exit.noGoto]
    go_ret2
    exact out (hba _) (.inr (.inl h2))
  by_cases h3 : validS zs = true
  rotate_left
  · go_enter Try.func14, Try.ntmps14
    go_wp2
    refine wp_scope_straight ?_
    have cI : (w.alloc (.cells #[.int .i64 i] 3)).cell? ⟨w.heap.size, 0, none⟩ = some (.int .i64 i) := (Boxed.new _ _ _).cell
    go_wp2_with (go_at_call 20; refine (valid_calls A cap zs _ (Kd.C_below hr (hba _))).mono ?_; rintro e w1 ⟨rfl, hb1⟩; have HB1 := Lib.hid hb1; clear hb1; rw [show validS zs = false by simpa using h3])
    simp only [Exit.noGoto]
    go_ret2
    exact out ((hba _).trans (HB1.out.mono (hba _).size)) (.inr (.inr (by simpa using h3)))
  obtain ⟨fz, hfz⟩ := valid_fz h3
  subst hfz
  obtain ⟨k, hk⟩ := Int.eq_ofNat_of_zero_le (show 0 ≤ i by omega)
  have hk16 : k < 16 := by omega
  have hs : solvedS (fz.map Subtype.val) i = match (fz.map Subtype.val).find? (fun x => x.f0.toNat == 2 ^ k) with | some x => (x.f1, true) | none => ([], false) := by
    unfold solvedS; rw [if_neg (by rw [h3]; simp; omega), hk]; rfl
  have HS := Lib.hid hs
  have HKK := Lib.hid hk
  have H3 := Lib.hid h3
  have hrl : Kd.C k25 w A fz.length (fz.map Subtype.val) := by simpa using hr
  have HR := Lib.hid hrl
  have hval : ∀ w', Below w.heap.size w w' → Calls Try.prog 20 #[.slice A fz.length cap] w' fun e u => e = .returned (.bool true) ∧ Below w'.heap.size w' u := by
    intro w' hb
    have := valid_calls A cap _ w' (Kd.C_below hr hb)
    rw [h3, List.length_map] at this
    exact this
  have HVL := Lib.hid hval
  have HRR := Lib.hid hr
  simp only [List.length_map]
  clear hs hk h3 hrl out hr hval
  refine (callsIn_wide (n := 3)).1 (callsIn_of_wp_marks Try.func14 rfl trivial (wpIn_wide.2 ?_) rfl)
  simp only [Try.ntmps14, List.size_toArray, List.length_cons, List.length_nil, Nat.reduceAdd, Nat.reduceSub, Array.replicate_succ, Array.replicate_zero, List.push_toArray, List.append_toArray, List.nil_append, List.cons_append]
  have cI : (w.alloc (.cells #[.int .i64 i] 3)).cell? ⟨w.heap.size, 0, none⟩ = some (.int .i64 i) := (Boxed.new _ _ _).cell
  have d1 : decide (i < 0) = false := decide_eq_false h1
  have d2 : decide (16 ≤ i) = false := decide_eq_false h2
  go_wp2
  refine wp_scope_straight ?_
  go_wp2_with (first
    | (go_at_call 20; refine (HVL.out _ (hba _)).mono ?_; rintro e w1 ⟨rfl, hb1⟩; have HB1 := Lib.hid hb1; have cI1 := hb1.cell (World.block_lt_of_cell? _ _ cI); clear hb1)
    | (go_at_call 30; refine (equations_calls _ _ _ _).mono ?_; rintro e w' ⟨rfl, rfl⟩))
  refine wp_label ?_
  go_wp2_with (go_at_call 30; refine (equations_calls _ _ _ _).mono ?_; rintro e w' ⟨rfl, rfl⟩)
  have hB1 : Below w.heap.size w w1 := (hba _).trans (HB1.out.mono (hba _).size)
  have hg6 : w.heap.size < w1.heap.size := by have := HB1.out.size; simp at this; omega
  have bI1 : Boxed w1 w.heap.size 3 (.int .i64 i) := (HB1.out.block _ (by simp)).trans (Boxed.new w 3 _)
  have sz0 : ((w1.alloc (.cells #[.slice none 0 0] 23)).alloc (.cells #[.slice A fz.length cap] 22)).heap.size = w1.heap.size + 1 + 1 := by simp
  have bI : Boxed ((w1.alloc (.cells #[.slice none 0 0] 23)).alloc (.cells #[.slice A fz.length cap] 22)) w.heap.size 3 (.int .i64 i) := (bI1.alloc _).alloc _
  have bO : Boxed ((w1.alloc (.cells #[.slice none 0 0] 23)).alloc (.cells #[.slice A fz.length cap] 22)) w1.heap.size 23 (.slice none 0 0) := (Boxed.new w1 23 _).alloc _
  have b5 : ((w1.alloc (.cells #[.slice none 0 0] 23)).alloc (.cells #[.slice A fz.length cap] 22)).heap[w1.heap.size + 1]? = some (.cells #[.slice A fz.length cap] 22 (0, 0)) := blk_new (by simp)
  have hB0 : Below w.heap.size w ((w1.alloc (.cells #[.slice none 0 0] 23)).alloc (.cells #[.slice A fz.length cap] 22)) := (hB1.alloc hB1.size _).alloc (by simp; omega) _
  generalize (w1.alloc (.cells #[.slice none 0 0] 23)).alloc (.cells #[.slice A fz.length cap] 22) = W0 at *
  clear hB1 bI1 HB1 cI1 cI d1 d2
  generalize w1.heap.size = g6 at *
  refine (wpIn_wide (n := 3)).1 (wpIn_rangeFunc_ownH (F := Fence.wide) (n := 3) rfl (by omega) (gf := 38) (lb := #[.pointer (some ⟨g6 + 1, 0, none⟩)]) rfl trivial (enters_of Try.func38 (by kernel_rfl) rfl)
    (iter_stops (fun x : FRow => x.1) (3 - 1) (g6 + 1) w.heap.size A cap fz W0 (by omega) (by omega) ((cell_of_row W0 _ 0 _ 22 (0, 0) b5).trans rfl) (fun W' h => Kd.C_below HR.out (hB0.trans h))) belowK_t (belowK_b (by omega)) (Below.refl _ _) (fun _ => rfl)
    (fun (pre : List FRow) W => (∀ y ∈ pre, y.m ≠ 2 ^ k) ∧ Boxed W w.heap.size 3 (.int .i64 i) ∧ Boxed W g6 23 (.slice none 0 0) ∧ Below w.heap.size w W ∧ W0.heap.size ≤ W.heap.size)
    (fun c (pre : List FRow) W => c = .exit 0 ∧ ∃ p x g, pre = p ++ [x] ∧ (∀ y ∈ p, y.m ≠ 2 ^ k) ∧ x.m = 2 ^ k ∧ Boxed W g6 23 (.slice (some ⟨g, 0, none⟩) 16 16) ∧ W0.heap.size ≤ g ∧ W.heap[g]? = some (.cells (bys x.1.f1).toArray 5 (0, 0)) ∧ Below w.heap.size w W)
    (fun s X Y row hs hg hr => by
      obtain ⟨h0, h1, h2, h3, h4⟩ := hs
      exact ⟨h0, boxed_keep h1 hg hr, boxed_keep h2 hg hr, h3.grown hg (by have := h3.size; omega) (fun k e => by have := (hr k e).1; omega), Nat.le_trans h4 hg.size⟩)
    (fun c s X Y row hs hg hr => by
      obtain ⟨hc, p, x, g, h0, h1, h2, h3, h4, h5, h6⟩ := hs
      exact ⟨hc, p, x, g, h0, h1, h2, boxed_keep h3 hg hr, h4, keep_block h5 hg hr, h6.grown hg (by have := h6.size; omega) (fun k e => by have := (hr k e).1; omega)⟩)
    ⟨(fun _ h => by cases h), bI, bO, hB0, Nat.le_refl _⟩
    (fun x a' Z => ∃ Bx, W0.heap.size ≤ Bx ∧ Z.heap[Bx]? = some (.cells (.int .i64 (x.m : Int) :: bys x.1.f1).toArray 53 (0, 0)) ∧ a' = { tmps := #[.slice A fz.length cap, .int .i64 i, undef, .pointer (some ⟨w.heap.size, 0, none⟩), .slice none 0 0, .bool false, .pointer (some ⟨g6, 0, none⟩), .pointer (some ⟨Bx, 0, none⟩), .int .i64 i, .bool false, .bool false, .int .i64 i, .bool false, .bool false, .bool false, .slice A fz.length cap, .bool true, .bool false, .bool false, .slice A fz.length cap, .func (.func 38) #[] #[.pointer (some ⟨g6 + 1, 0, none⟩)], .agg (.int .i64 (x.m : Int) :: bys x.1.f1).toArray, .bool true, undef, undef, undef, undef, undef, undef, undef, undef, undef, undef, undef], defers := [] })
    (fun x a' s X Y row hs hg hr => by obtain ⟨Bx, h1, h2, h3⟩ := hs; exact ⟨Bx, h1, keep_block h2 hg hr, h3⟩)
    ?assign ?body ?done ?stop)
  case assign =>
    intro l pre x U K hI hK
    have hsp := x.spec
    have he : encE x.1 = #[.agg (.int .i64 (x.m : Int) :: bys x.1.f1).toArray, .bool true] := by
      unfold encE; rw [pad16_of _ hsp.2.2, x.2, x.m_eq]
    rw [he]
    have hout : ¬ LetsOut (Exit.then K (fun _ _ _ => False)) := fun ⟨_, _, h⟩ => h
    refine plain_in (by rfl) hout ?_
    simp only [List.zip_toArray, List.zip_cons_cons, List.zip_nil_right, List.foldl_toArray, List.foldl_cons, List.foldl_nil, List.setIfInBounds_toArray, List.set_cons_zero, List.set_cons_succ]
    have hl17 : (Value.int .i64 (x.m : Int) :: bys x.1.f1).length = 17 := by rw [List.length_cons, bys_len, hsp.2.2]
    have H17 := Lib.hid hl17
    have hone : ∀ v ∈ Value.int .i64 (x.m : Int) :: bys x.1.f1, v.oneCell' = true := eq_one _ _
    have HK2 := Lib.hid hK
    have HI := Lib.hid hI
    clear hl17 hsp he hK hI
    go_wp2_with (first | (refine wpList_store_row rfl 53 _ _ rfl U.heap.size (.int .i64 (x.m : Int) :: bys x.1.f1) _ 53 rfl rfl (blk_new rfl) (by rw [H17.out]; rfl) (by rw [H17.out]; exact size53) hone ?_; intro w1 g1 g2 g3 g4))
    obtain ⟨i0, i1, i2, i4, i5⟩ := HI.out
    have hwW := i4.size
    have hB1 : Below w.heap.size U w1 := g4 _ _ hwW ((Below.refl _ _).alloc hwW _)
    have hn : ∀ k, k < U.heap.size → w1.heap[k]? = U.heap[k]? := fun k hk => (g2 k (by omega)).trans (Below.heap_alloc _ _ _ hk)
    exact HK2.out _ _ ((keeps_of_below ((Below.refl _ U).alloc (Nat.le_refl _) _) _).trans (keeps_of_cells (blk_new rfl) g2 g3 _)) hB1
      ⟨i0, (hn _ (by omega)).trans i1, (hn _ (by omega)).trans i2, i4.trans hB1, by rw [g3]; simp; omega⟩ ⟨U.heap.size, i5, g1, rfl⟩
  case body =>
    rintro l pre x a' U hl hrec ⟨hall, bI2, bO2, hB2, hz2⟩ ⟨Bx, hBx, hx, rfl⟩ hlen
    have hwW := hB2.size
    have hxs := x.spec
    have hi17 : (Try.prog.info? 53).map (·.size) = some (Value.int .i64 (x.m : Int) :: bys x.1.f1).length := by rw [List.length_cons, bys_len, hxs.2.2]; exact size53
    have c0 : U.cell? ⟨Bx, 0, none⟩ = some (.int .i64 (x.m : Int)) := (cell_of_row U _ 0 _ 53 (0, 0) hx).trans (by simp)
    have cI := bI2.cell
    have HX := Lib.hid hx
    have HXS := Lib.hid hxs
    have HI17 := Lib.hid hi17
    have HALL := Lib.hid hall
    have BI2 := Lib.hid bI2
    have BO2 := Lib.hid bO2
    clear hx hi17 hall bI2 bO2 hrec hxs bI bO b5
    refine wpIn_block ?_
    refine wpIn_seq_k (fun K1 hK1 => ?_)
    have hout : ¬ LetsOut (Exit.then K1 (Exit.inBlock 1 (ownPostG W0.heap.size (Below w.heap.size)
      (fun (pre : List FRow) W => (∀ y ∈ pre, y.m ≠ 2 ^ k) ∧ Boxed W w.heap.size 3 (.int .i64 i) ∧ Boxed W g6 23 (.slice none 0 0) ∧ Below w.heap.size w W ∧ W0.heap.size ≤ W.heap.size)
      (fun c (pre : List FRow) W => c = .exit 0 ∧ ∃ p x g, pre = p ++ [x] ∧ (∀ y ∈ p, y.m ≠ 2 ^ k) ∧ x.m = 2 ^ k ∧ Boxed W g6 23 (.slice (some ⟨g, 0, none⟩) 16 16) ∧ W0.heap.size ≤ g ∧ W.heap[g]? = some (.cells (bys x.1.f1).toArray 5 (0, 0)) ∧ Below w.heap.size w W) (pre ++ [x]) U))) := fun ⟨_, _, h⟩ => h
    refine start_in (m := 5) (S := (fun V => V.cell? ⟨Bx, 0, none⟩ = some (.int .i64 (x.m : Int)) ∧ V.cell? ⟨w.heap.size, 0, none⟩ = some (.int .i64 i) ∧ Below U.heap.size U V)) (ds := []) #[false, false, false, false, false] (by kernel_rfl) (by rfl) hout rfl rfl ⟨c0, cI, (Below.refl _ _).drew⟩ (fun hHeld => ?_)
    refine pure_ (i := 0) (N := some 23) (v := ?_) (a' := ?_) #[true, false, false, false, false] rfl rfl (by kernel_rfl) (fun _ _ _ h => h) (Or.inl ⟨by rfl, ?_⟩) ?_ ?_
    rotate_left
    · intro w'
      go_simp
      with_reducible rfl
    rotate_left
    · simp only [Act.put, List.setIfInBounds_toArray, List.set_cons_zero, List.set_cons_succ, i64_w, i32_w]
      rfl
    refine take_ (i := 1) (N := some 24) (v := ?_) (a' := ?_) #[true, true, false, false, false] rfl rfl (by kernel_rfl) (fun _ _ _ h => h) (Or.inl ⟨by rfl, ?_⟩) hHeld ?_ ?_
    rotate_left
    · rintro w' ⟨s0, s1, s2⟩
      go_simp
      with_reducible rfl
    rotate_left
    · simp only [Act.put, List.setIfInBounds_toArray, List.set_cons_zero, List.set_cons_succ, i64_w, i32_w]
      rfl
    refine take_ (i := 2) (N := some 25) (v := ?_) (a' := ?_) #[true, true, true, false, false] rfl rfl (by kernel_rfl) (fun _ _ _ h => h) (Or.inl ⟨by rfl, ?_⟩) hHeld ?_ ?_
    rotate_left
    · rintro w' ⟨s0, s1, s2⟩
      go_simp
      with_reducible rfl
    rotate_left
    · simp only [Act.put, List.setIfInBounds_toArray, List.set_cons_zero, List.set_cons_succ, i64_w, i32_w]
      rfl
    refine pure_ (i := 3) (N := some 26) (v := .int .i64 ((2 ^ k : Nat) : Int)) (a' := ?_) #[true, true, true, true, false] rfl rfl (by kernel_rfl) (fun _ _ _ h => h) (Or.inl ⟨by rfl, ?_⟩) ?_ ?_
    · intro w'
      exact exec_shl rfl rfl rfl (run_shl i k HKK.out hk16 w')
    rotate_left
    · simp only [Act.put, List.setIfInBounds_toArray, List.set_cons_zero, List.set_cons_succ, i64_w, i32_w]
      rfl
    refine pure_ (i := 4) (N := some 27) (v := ?_) (a' := ?_) #[true, true, true, true, true] rfl rfl (by kernel_rfl) (fun _ _ _ h => h) (Or.inl ⟨by rfl, ?_⟩) ?_ ?_
    rotate_left
    · intro w'
      go_simp
      with_reducible rfl
    rotate_left
    · simp only [Act.put, List.setIfInBounds_toArray, List.set_cons_zero, List.set_cons_succ, i64_w, i32_w]
      rfl
    refine done_ (by kernel_rfl) ?_
    obtain ⟨s0, s1, s3⟩ := hHeld
    refine hK1 _ _ ?_
    have hu := s3.size
    by_cases hbit : x.m = 2 ^ k
    · refine wpIn_cond_true (by show Value.bool _ = _; rw [hbit]; simp) ?_
      have hxb := (s3.block _ (Array.getElem?_eq_some_iff.1 HX.out).1).trans HX.out
      have S3 := Lib.hid s3
      have HB := Lib.hid hbit
      clear s0 s1 s3 hbit c0 cI
      refine wpIn_seq_k (fun K3 hK3 => ?_)
      refine plain_in (by rfl) (fun ⟨_, _, h⟩ => h) ?_
      go_wp2_with (first
        | (refine wpList_load_row rfl 53 _ rfl Bx rfl 53 (.int .i64 (x.m : Int) :: bys x.1.f1).toArray (0, 0) _ hxb Try.underlying53 rfl (by simp only [List.size_toArray]; exact HI17.out) ?_)
        | (refine Kd.event_run rfl (exec_field (x := .tmp 29) rfl rfl (run_field25 (x.m : Int) g u4)) ?_)
        | (go_at_call 31; refine (row_calls (x.m : Int) x.1.f1 HXS.out.2.2 _).mono ?_; rintro e u4 ⟨g, hg1, rfl, hg3, hb4⟩; have hsz4 := hb4.size; have bO4 := boxed_block (boxed_block BO2.out S3.out) hb4; have cO4 := bO4.cell; have fO4 := bO4.frozen; have BO4 := Lib.hid bO4; have HG1 := Lib.hid hg1; have HG3 := Lib.hid hg3; have HB4 := Lib.hid hb4; clear hg1 hg3 hb4 bO4 hxb))
      refine wpIn_exit ?_
      rw [Exit.inBlock, if_neg (by decide)]
      have h3u := S3.out.size
      have hbw := ((S3.out.trans (HB4.out.mono h3u)).mono hwW).setCell (p := ⟨g6, 0, none⟩) (by simp; omega) (.slice (some ⟨g, 0, none⟩) 16 16)
      have hg1 := HG1.out
      refine ⟨((keeps_of_below S3.out _).trans (keeps_of_below HB4.out _)).trans (keeps_set BO4.out _ _), rfl, pre, x, g, rfl, HALL.out, HB.out, BO4.out.set _, by omega, ?_, hB2.trans hbw⟩
      rw [Below.heap_setCell _ _ _ _ (by simp; omega)]
      exact HG3.out
    · refine wpIn_cond_false (by show Value.bool _ = _; congr 1; simp; exact_mod_cast hbit) (wpIn_skip ?_)
      refine ⟨keeps_of_below s3 _, s3.mono hwW, ?_⟩
      dsimp only
      refine ⟨fun y hy => ?_, boxed_block BI2.out s3, boxed_block BO2.out s3, hB2.trans (s3.mono hwW), by omega⟩
      rcases List.mem_append.1 hy with hy | hy
      · exact HALL.out y hy
      · rw [List.mem_singleton.1 hy]; exact hbit
  case done =>
    rintro D xs W hD hxs ⟨hall, bI3, bO3, hB3, hz3⟩ hKm
    rw [hxs] at hall
    have cO := bO3.cell
    have hsol : solvedS (fz.map Subtype.val) i = ([], false) := by rw [HS.out, findS_none k fz hall]
    have HSOL := Lib.hid hsol
    have HKm := Lib.hid hKm
    clear hsol hKm bI3 bO3 hall hxs bI bO b5
    go_wp2
    refine wp_normal ?_
    refine start_ (n := 5) (S := (fun V => V.cell? ⟨g6, 0, none⟩ = some (.slice none 0 0) ∧ Below W.heap.size W V)) (ds := []) #[false, false, false, false, false] (by kernel_rfl) rfl rfl ⟨cO, (Below.refl _ _).drew⟩ (fun hHeld => ?_)
    refine take_ (i := 0) (N := some 31) (v := ?_) (a' := ?_) #[true, false, false, false, false] rfl rfl (by kernel_rfl) (fun _ _ _ h => h) (Or.inl ⟨by rfl, ?_⟩) hHeld ?_ ?_
    rotate_left
    · rintro w' ⟨s0, s1⟩
      go_simp
      with_reducible rfl
    rotate_left
    · simp only [Act.put, List.setIfInBounds_toArray, List.set_cons_zero, List.set_cons_succ, i64_w, i32_w]
      rfl
    refine pure_ (i := 3) (N := some 4) (v := ?_) (a' := ?_) #[true, false, false, true, false] rfl rfl (by kernel_rfl) (fun _ _ _ h => h) (Or.inl ⟨by rfl, ?_⟩) ?_ ?_
    rotate_left
    · intro w'
      go_simp
      with_reducible rfl
    rotate_left
    · simp only [Act.put, List.setIfInBounds_toArray, List.set_cons_zero, List.set_cons_succ, i64_w, i32_w]
      rfl
    refine take_ (i := 1) (N := some 32) (v := ?_) (a' := ?_) #[true, true, false, true, false] rfl rfl (by kernel_rfl) (fun _ _ _ h => h) (Or.inl ⟨by rfl, ?_⟩) hHeld ?_ ?_
    rotate_left
    · rintro w' ⟨s0, s1⟩
      go_simp
      with_reducible rfl
    rotate_left
    · simp only [Act.put, List.setIfInBounds_toArray, List.set_cons_zero, List.set_cons_succ, i64_w, i32_w]
      rfl
    refine pure_ (i := 2) (N := some 33) (v := .bool false) (a' := ?_) #[true, true, true, true, false] rfl rfl (by kernel_rfl) (fun _ _ _ h => h) (Or.inl ⟨by rfl, ?_⟩) ?_ ?_
    · intro w'
      exact exec_neq rfl rfl rfl rfl (neq_nil0 w')
    rotate_left
    · simp only [Act.put, List.setIfInBounds_toArray, List.set_cons_zero, List.set_cons_succ, i64_w, i32_w]
      rfl
    refine pure_ (i := 4) (N := some 5) (v := ?_) (a' := ?_) #[true, true, true, true, true] rfl rfl (by kernel_rfl) (fun _ _ _ h => h) (Or.inl ⟨by rfl, ?_⟩) ?_ ?_
    rotate_left
    · intro w'
      go_simp
      with_reducible rfl
    rotate_left
    · simp only [Act.put, List.setIfInBounds_toArray, List.set_cons_zero, List.set_cons_succ, i64_w, i32_w]
      rfl
    refine done_ (by kernel_rfl) ?_
    go_wp2
    have hKw : W.drew.heap[D]? = some (.deferred (some [])) := HKm.out
    have hBw : Below w.heap.size w W.drew := hB3.drew
    refine ⟨by simp, .inl ⟨_, _, rfl, run_takeDeferred hKw, ?_⟩⟩
    refine ⟨.tuple #[.slice none 0 0, .bool false], by simp [results, Try.results14, go_sem], ?_⟩
    rw [HSOL.out]
    have hfin := hBw.trans (belowK_b (w := w) (Nat.le_refl _) W.drew D _ (.deferred none) (by omega) hKw rfl rfl)
    exact ⟨_, rfl, Kd.R_nil _ _ _ _ _, hfin⟩
  case stop =>
    rintro D c pre W hD ⟨r, hr⟩ ⟨rfl, p, x, g, rfl, h0, h1, bO3, hg, hx, hB3⟩ hKm
    have hsol : solvedS (fz.map Subtype.val) i = (x.1.f1, true) := by rw [HS.out, ← hr, findS_some k p r x h0 h1]
    have hd16 := x.spec.2.2
    refine wpIn_exit ?_
    rw [Exit.inBlock, if_pos rfl]
    have cO := bO3.cell
    have HSOL := Lib.hid hsol
    have HKm := Lib.hid hKm
    have HX := Lib.hid hx
    clear hsol hKm bO3 h0 h1 hr bI bO b5 hx
    go_wp2
    refine wp_normal ?_
    refine start_ (n := 5) (S := (fun V => V.cell? ⟨g6, 0, none⟩ = some (.slice (some ⟨g, 0, none⟩) 16 16) ∧ Below W.heap.size W V)) (ds := []) #[false, false, false, false, false] (by kernel_rfl) rfl rfl ⟨cO, (Below.refl _ _).drew⟩ (fun hHeld => ?_)
    refine take_ (i := 0) (N := some 31) (v := ?_) (a' := ?_) #[true, false, false, false, false] rfl rfl (by kernel_rfl) (fun _ _ _ h => h) (Or.inl ⟨by rfl, ?_⟩) hHeld ?_ ?_
    rotate_left
    · rintro w' ⟨s0, s1⟩
      go_simp
      with_reducible rfl
    rotate_left
    · simp only [Act.put, List.setIfInBounds_toArray, List.set_cons_zero, List.set_cons_succ, i64_w, i32_w]
      rfl
    refine pure_ (i := 3) (N := some 4) (v := ?_) (a' := ?_) #[true, false, false, true, false] rfl rfl (by kernel_rfl) (fun _ _ _ h => h) (Or.inl ⟨by rfl, ?_⟩) ?_ ?_
    rotate_left
    · intro w'
      go_simp
      with_reducible rfl
    rotate_left
    · simp only [Act.put, List.setIfInBounds_toArray, List.set_cons_zero, List.set_cons_succ, i64_w, i32_w]
      rfl
    refine take_ (i := 1) (N := some 32) (v := ?_) (a' := ?_) #[true, true, false, true, false] rfl rfl (by kernel_rfl) (fun _ _ _ h => h) (Or.inl ⟨by rfl, ?_⟩) hHeld ?_ ?_
    rotate_left
    · rintro w' ⟨s0, s1⟩
      go_simp
      with_reducible rfl
    rotate_left
    · simp only [Act.put, List.setIfInBounds_toArray, List.set_cons_zero, List.set_cons_succ, i64_w, i32_w]
      rfl
    refine pure_ (i := 2) (N := some 33) (v := .bool true) (a' := ?_) #[true, true, true, true, false] rfl rfl (by kernel_rfl) (fun _ _ _ h => h) (Or.inl ⟨by rfl, ?_⟩) ?_ ?_
    · intro w'
      exact exec_neq rfl rfl rfl rfl (neq_nil1 g w')
    rotate_left
    · simp only [Act.put, List.setIfInBounds_toArray, List.set_cons_zero, List.set_cons_succ, i64_w, i32_w]
      rfl
    refine pure_ (i := 4) (N := some 5) (v := ?_) (a' := ?_) #[true, true, true, true, true] rfl rfl (by kernel_rfl) (fun _ _ _ h => h) (Or.inl ⟨by rfl, ?_⟩) ?_ ?_
    rotate_left
    · intro w'
      go_simp
      with_reducible rfl
    rotate_left
    · simp only [Act.put, List.setIfInBounds_toArray, List.set_cons_zero, List.set_cons_succ, i64_w, i32_w]
      rfl
    refine done_ (by kernel_rfl) ?_
    go_wp2
    have hKw : W.drew.heap[D]? = some (.deferred (some [])) := HKm.out
    have hBw : Below w.heap.size w W.drew := hB3.drew
    refine ⟨by simp, .inl ⟨_, _, rfl, run_takeDeferred hKw, ?_⟩⟩
    refine ⟨.tuple #[.slice (some ⟨g, 0, none⟩) 16 16, .bool true], by simp [results, Try.results14, go_sem], ?_⟩
    rw [HSOL.out]
    have hfin := hBw.trans (belowK_b (w := w) (Nat.le_refl _) W.drew D _ (.deferred none) (by omega) hKw rfl rfl)
    refine ⟨_, rfl, row_R _ _ hd16 (by omega) trivial ?_, hfin⟩
    have hgd : g ≠ D := by rintro rfl; have h1 := HX.out; have h2 := HKm.out; rw [h1] at h2; cases h2
    exact (World.putObj_heap_other (by omega)).trans HX.out
end Go.Proofs.Ytknlbeojdmeljaa.H
