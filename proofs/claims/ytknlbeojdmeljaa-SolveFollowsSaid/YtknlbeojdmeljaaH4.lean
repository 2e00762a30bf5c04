import Derived.Test.YtknlbeojdmeljaaH3
namespace Go.Proofs.Ytknlbeojdmeljaa.H
open Go.RowKit Go.Proofs.YtknlbeojdmeljaaW.PrintWords Go.Proofs.YtknlbeojdmeljaaW.PrintLast Go.Proofs.Ytknlbeojdmeljaa.P
set_option linter.unusedVariables false
set_option linter.unusedSimpArgs false

theorem exec_build {P : Program} {a : Act} {o : Oper} {t : TypeId} {parts : Array (Nat × Operand)} {vs : Array (Nat × Value)} {v : Value} {w : World} (ho : o.op = .build t parts) (hp : parts.map (fun p => (p.1, a.eval p.2)) = vs)
    (hrun : (Instr.build t vs).run P w = .ok v w) : (execOp a.eval o).run P w = .ok (.value v) w := by
  subst hp
  unfold execOp
  simp only [ho, Sem.run_bind]
  have : (Instr.build t (parts.map fun x => match x with | (i, x) => (i, a.eval x))).run P w = .ok v w := hrun
  rw [this]
  rfl

theorem run_build53x (m a0 a1 a2 a3 a4 a5 a6 a7 a8 a9 a10 a11 a12 a13 a14 a15 : Int) (w : World) : (Instr.build 53 #[(0, .int .i64 m), (1, .agg #[.int .u8 a0, .int .u8 a1, .int .u8 a2, .int .u8 a3, .int .u8 a4, .int .u8 a5, .int .u8 a6, .int .u8 a7, .int .u8 a8, .int .u8 a9, .int .u8 a10, .int .u8 a11, .int .u8 a12, .int .u8 a13, .int .u8 a14, .int .u8 a15])]).run Try.prog w = .ok (.agg #[.int .i64 m, .int .u8 a0, .int .u8 a1, .int .u8 a2, .int .u8 a3, .int .u8 a4, .int .u8 a5, .int .u8 a6, .int .u8 a7, .int .u8 a8, .int .u8 a9, .int .u8 a10, .int .u8 a11, .int .u8 a12, .int .u8 a13, .int .u8 a14, .int .u8 a15]) w := by kernel_rfl
theorem run_build53 (m : Int) (d : List Int) (hd : d.length = 16) (w : World) : (Instr.build 53 #[(0, .int .i64 m), (1, .agg (bys d).toArray)]).run Try.prog w = .ok (.agg (.int .i64 m :: bys d).toArray) w := by
  match d, hd with
  | [a0, a1, a2, a3, a4, a5, a6, a7, a8, a9, a10, a11, a12, a13, a14, a15], _ => exact run_build53x m a0 a1 a2 a3 a4 a5 a6 a7 a8 a9 a10 a11 a12 a13 a14 a15 w

section
variable {P : Program} {ops : Array Oper} {op : Oper} {a : Act}
/-- The block's bytes behind the mask, as one array, in a region that draws its order. -/
theorem mid_if {S : World → Prop} (hw : Region.wanted op (yielded ops a.tmps) = true) (ty : TypeId) (x : Operand) (ho : op.op = .load ty x)
    (g : Nat) (hx : a.eval x = .pointer (some ⟨g, 1, none⟩)) (v : Value) (cs : List Value) (t : TypeId) (d : TypeDesc) (hS : ∀ w, S w → w.heap[g]? = some (.cells (v :: cs).toArray t (0, 0)))
    (hu : P.underlying ty = some d) (hd : d.isRow = true) (hi : (P.info? ty).map (·.size) = some cs.length) : YieldsIf P ops S op (.agg cs.toArray) a :=
  yieldsIf_load_mid hw ty x ho g 1 hx cs d (fun w hs => rangeAt_of_row (hS w hs) 1 cs (fun j hj => by simp [Nat.add_comm 1 j])) hu hd hi
end

set_option maxRecDepth 100000 in
set_option maxHeartbeats 4000000 in
theorem reduce_calls (A : Option Addr) (cap : Nat) (zs : List FRow) (m : Nat) (hm : m < 65536) (d : List Int) (hd : d.length = 16) (w : World) (hr : Kd.C k25 w A zs.length (zs.map Subtype.val)) :
    Calls Try.prog 29 #[.slice A zs.length cap, .agg (.int .i64 (m : Int) :: bys d).toArray] w fun e w' => e = .returned (.agg (.int .i64 ((redE zs (m, d)).1 : Int) :: bys (redE zs (m, d)).2).toArray) ∧ Below w.heap.size w w' := by
  refine (callsIn_wide (n := 3)).1 (callsIn_of_wp_marks Try.func29 rfl trivial (wpIn_wide.2 ?_) rfl)
  simp only [Try.ntmps29, List.size_toArray, List.length_cons, List.length_nil, Nat.reduceAdd, Nat.reduceSub, Array.replicate_succ, Array.replicate_zero, List.push_toArray, List.append_toArray, List.nil_append, List.cons_append]
  have HD := Lib.hid hd
  clear hd
  go_wp2_with (go_at_call 30; refine (equations_calls _ _ _ _).mono ?_; rintro e w' ⟨rfl, rfl⟩)
  generalize hW0 : ((w.alloc (.cells (.int .i64 (m : Int) :: bys d).toArray 53)).alloc _).alloc (.cells #[.slice A zs.length cap] 22) = W0
  have b3 : W0.heap[w.heap.size]? = some (.cells (.int .i64 (m : Int) :: bys d).toArray 53 (0, 0)) := by
    rw [← hW0, Below.heap_alloc _ _ _ (by simp; omega), Below.heap_alloc _ _ _ (by simp)]; exact blk_new rfl
  have b4 : ∃ C, W0.heap[w.heap.size + 1]? = some (.cells C 53 (0, 0)) ∧ C.size = 17 := by
    refine ⟨_, by rw [← hW0, Below.heap_alloc _ _ _ (by simp)]; exact blk_new (by simp), by rfl⟩
  have b5 : W0.heap[w.heap.size + 1 + 1]? = some (.cells #[.slice A zs.length cap] 22 (0, 0)) := by rw [← hW0]; exact blk_new (by simp)
  have sz : W0.heap.size = w.heap.size + 1 + 1 + 1 := by rw [← hW0]; simp
  have hB0 : Below w.heap.size w W0 := by
    rw [← hW0]; exact (((Below.refl _ _).alloc (Nat.le_refl _) _).alloc (by simp) _).alloc (by simp; omega) _
  clear hW0
  refine (wpIn_wide (n := 3)).1 (wpIn_rangeFunc_ownH (F := Fence.wide) (n := 3) rfl (by omega) (gf := 38) (lb := #[.pointer (some ⟨w.heap.size + 1 + 1, 0, none⟩)]) rfl trivial (enters_of Try.func38 (by kernel_rfl) rfl)
    (iter_stops (fun x : FRow => x.1) (3 - 1) (w.heap.size + 1 + 1) w.heap.size A cap zs W0 (by omega) (by omega) ((cell_of_row W0 _ 0 _ 22 (0, 0) b5).trans rfl) (fun W' h => Kd.C_below hr (hB0.trans h))) belowK_t (belowK_b (by omega)) (Below.refl _ _) (fun _ => rfl)
    (fun pre W => W.heap[w.heap.size]? = some (.cells (.int .i64 ((redE pre (m, d)).1 : Int) :: bys (redE pre (m, d)).2).toArray 53 (0, 0)) ∧ (∃ C, W.heap[w.heap.size + 1]? = some (.cells C 53 (0, 0)) ∧ C.size = 17) ∧ Below w.heap.size w W ∧ W0.heap.size ≤ W.heap.size)
    (fun _ _ _ => False)
    (fun s X Y row hs hg hr => ⟨keep_block hs.1 hg hr, by obtain ⟨C, h1, h2⟩ := hs.2.1; exact ⟨C, keep_block h1 hg hr, h2⟩, hs.2.2.1.grown hg (by have := hs.2.2.1.size; omega) (fun k e => by have := (hr k e).1; omega), Nat.le_trans hs.2.2.2 hg.size⟩)
    (fun _ _ _ _ _ hs _ _ => hs)
    ⟨b3, b4, hB0, Nat.le_refl _⟩
    (fun x a' W => ∃ Bx, W0.heap.size ≤ Bx ∧ W.heap[Bx]? = some (.cells (.int .i64 (x.m : Int) :: bys x.1.f1).toArray 53 (0, 0)) ∧ a' = { tmps := #[.slice A zs.length cap, .agg (.int .i64 (m : Int) :: bys d).toArray, undef, .pointer (some ⟨w.heap.size, 0, none⟩), .pointer (some ⟨w.heap.size + 1, 0, none⟩), .pointer (some ⟨Bx, 0, none⟩), .slice A zs.length cap, .func (.func 38) #[] #[.pointer (some ⟨w.heap.size + 1 + 1, 0, none⟩)], .agg (.int .i64 (x.m : Int) :: bys x.1.f1).toArray, .bool true, undef, undef, undef, undef, undef, undef, undef, undef, undef, undef, undef, undef, undef, undef, undef, undef, undef, undef], defers := [] })
    (fun x a' s X Y row hs hg hr => by obtain ⟨Bx, h1, h2, h3⟩ := hs; exact ⟨Bx, h1, keep_block h2 hg hr, h3⟩)
    ?assign ?body ?done ?stop)
  case assign =>
    intro l pre x W K hI hK
    have hsp := x.spec
    have he : encE x.1 = #[.agg (.int .i64 (x.m : Int) :: bys x.1.f1).toArray, .bool true] := by
      unfold encE; rw [pad16_of _ hsp.2.2, x.2, x.m_eq]
    rw [he]
    have hout : ¬ LetsOut (Exit.then K (fun _ _ _ => False)) := fun ⟨_, _, h⟩ => h
    refine plain_in (by rfl) hout ?_
    simp only [List.zip_toArray, List.zip_cons_cons, List.zip_nil_right, List.foldl_toArray, List.foldl_cons, List.foldl_nil, List.setIfInBounds_toArray, List.set_cons_zero, List.set_cons_succ]
    have hl17 : (Value.int .i64 (x.m : Int) :: bys x.1.f1).length = 17 := by rw [List.length_cons, bys_len, hsp.2.2]
    have H17 := Lib.hid hl17
    have hone : ∀ v ∈ Value.int .i64 (x.m : Int) :: bys x.1.f1, v.oneCell' = true := eq_one _ _
    have HK := Lib.hid hK
    have HI := Lib.hid hI
    clear hl17 hsp he hK hI
    go_wp2_with (first | (refine wpList_store_row rfl 53 _ _ rfl W.heap.size (.int .i64 (x.m : Int) :: bys x.1.f1) _ 53 rfl rfl (blk_new rfl) (by rw [H17.out]; rfl) (by rw [H17.out]; exact size53) hone ?_; intro w1 g1 g2 g3 g4))
    obtain ⟨i1, ⟨C, i2, i3⟩, i4, i5⟩ := HI.out
    have hwW := i4.size
    have hB1 : Below w.heap.size W w1 := g4 _ _ hwW ((Below.refl _ _).alloc hwW _)
    have hn : ∀ k, k < W.heap.size → w1.heap[k]? = W.heap[k]? := fun k hk => (g2 k (by omega)).trans (Below.heap_alloc _ _ _ hk)
    exact HK.out _ _ ((keeps_of_below ((Below.refl _ W).alloc (Nat.le_refl _) _) _).trans (keeps_of_cells (blk_new rfl) g2 g3 _)) hB1
      ⟨(hn _ (by omega)).trans i1, ⟨C, (hn _ (by omega)).trans i2, i3⟩, i4.trans hB1, by rw [g3]; simp; omega⟩ ⟨W.heap.size, i5, g1, rfl⟩
  case body =>
    rintro l pre x a' W hl hrec ⟨h3, ⟨C, h4, hC⟩, hB, hz⟩ ⟨Bx, hBx, hx, rfl⟩ hlen
    have hwW := hB.size
    have hok := redE_ok pre (m, d) ⟨hm, HD.out⟩
    have hsnoc := redE_snoc pre x (m, d)
    generalize hq : redE pre (m, d) = q at h3 hok hsnoc
    obtain ⟨mp, dp⟩ := q
    obtain ⟨hmp, hdp⟩ := hok
    simp only at h3 hmp hdp
    have hxs := x.spec
    have hmx := x.m_lt
    have hBx2 := (Array.getElem?_eq_some_iff.1 hx).1
    have c0 : W.cell? ⟨w.heap.size, 0, none⟩ = some (.int .i64 (mp : Int)) := (cell_of_row W _ 0 _ 53 (0, 0) h3).trans (by simp)
    have hll := lead_lt x.m hmx
    have hi17 : (Try.prog.info? 53).map (·.size) = some (Value.int .i64 (x.m : Int) :: bys x.1.f1).length := by rw [List.length_cons, bys_len, hxs.2.2]; exact size53
    have hand := i64_and_nat mp (lead x.m) (by omega) (by omega)
    have HI17 := Lib.hid hi17
    have HAND := Lib.hid hand
    have HSN := Lib.hid hsnoc
    have HQ := Lib.hid hq
    have H3 := Lib.hid h3
    have H4 := Lib.hid h4
    have HC := Lib.hid hC
    have HX := Lib.hid hx
    have HDP := Lib.hid hdp
    have HXS := Lib.hid hxs
    clear hi17 hand hsnoc hq h3 h4 hC hx hdp hxs hrec
    have hout : ∀ K : Act → World → Prop, ¬ LetsOut (Exit.then K (Exit.inBlock 1 (ownPostG W0.heap.size (Below w.heap.size)
      (fun (pre : List FRow) W => W.heap[w.heap.size]? = some (.cells (.int .i64 ((redE pre (m, d)).1 : Int) :: bys (redE pre (m, d)).2).toArray 53 (0, 0)) ∧ (∃ C, W.heap[w.heap.size + 1]? = some (.cells C 53 (0, 0)) ∧ C.size = 17) ∧ Below w.heap.size w W ∧ W0.heap.size ≤ W.heap.size)
      (fun _ _ _ => False) (pre ++ [x]) W))) := fun K ⟨_, _, h⟩ => h
    refine wpIn_block ?_
    refine wpIn_seq_k (fun K1 hK1 => ?_)
    have hout1 := hout K1
    revert hout1
    intro hout
    refine start_in (m := 6) (S := (fun U => U.cell? ⟨w.heap.size, 0, none⟩ = some (.int .i64 (mp : Int)) ∧ U.heap[Bx]? = some (.cells (.int .i64 (x.m : Int) :: bys x.1.f1).toArray 53 (0, 0)) ∧ Below W.heap.size W U)) (ds := []) #[false, false, false, false, false, false] (by kernel_rfl) (by rfl) hout rfl rfl ⟨c0, HX.out, (Below.refl _ _).drew⟩ (fun hHeld => ?_)
    refine pure_ (i := 0) (N := some 10) (v := ?_) (a' := ?_) #[true, false, false, false, false, false] rfl rfl (by kernel_rfl) (fun _ _ _ h => h) (Or.inl ⟨by rfl, ?_⟩) ?_ ?_
    rotate_left
    · intro w'
      go_simp
      with_reducible rfl
    rotate_left
    · simp only [Act.put, List.setIfInBounds_toArray, List.set_cons_zero, List.set_cons_succ, i64_w, i32_w]
      rfl
    refine take_ (i := 1) (N := some 11) (v := ?_) (a' := ?_) #[true, true, false, false, false, false] rfl rfl (by kernel_rfl) (fun _ _ _ h => h) (Or.inl ⟨by rfl, ?_⟩) hHeld ?_ ?_
    rotate_left
    · rintro w' ⟨s0, s1, s2⟩
      go_simp
      with_reducible rfl
    rotate_left
    · simp only [Act.put, List.setIfInBounds_toArray, List.set_cons_zero, List.set_cons_succ, i64_w, i32_w]
      rfl
    refine take_ (i := 2) (N := some 12) (v := _) (a' := ?_) #[true, true, true, false, false, false] rfl rfl (by kernel_rfl) (fun _ _ _ h => h) (row_if (by rfl) 53 _ rfl Bx rfl (.int .i64 (x.m : Int) :: bys x.1.f1) 53 _ (fun _ hS => hS.2.1) Try.underlying53 rfl HI17.out) hHeld ?_ ?_
    rotate_left
    · simp only [Act.put, List.setIfInBounds_toArray, List.set_cons_zero, List.set_cons_succ, i64_w, i32_w]
      rfl
    refine one_ (i := 3) (N := some 13) #[true, true, true, true, false, false] rfl rfl (by kernel_rfl) (by decide) (fun K hK => ?_)
    refine goes_ Try.func32 (by kernel_rfl) rfl #[.agg (.int .i64 (x.m : Int) :: bys x.1.f1).toArray] (by rfl) rfl rfl (by simp only [List.map_toArray, List.map_cons, List.map_nil]; rfl) ?_
    refine (leading_calls x.m hmx (bys x.1.f1) _).mono ?_
    rintro e u ⟨rfl, hb⟩
    refine ⟨_, rfl, ?_⟩
    obtain ⟨s0, s1, s2⟩ := hHeld
    have t2 := s2.trans (hb.mono s2.size)
    refine hK.out _ _ ⟨(hb.cell (World.block_lt_of_cell? _ _ s0)).trans s0, (hb.block _ (Array.getElem?_eq_some_iff.1 s1).1).trans s1, t2⟩ (fun hHeld => ?_)
    clear hK K s0 s1 s2 t2 hb
    refine norm_ (a' := ?_) ?_ ?_
    rotate_left
    · show Act.put _ (some 13) _ = _
      simp only [Act.put, List.setIfInBounds_toArray, List.set_cons_zero, List.set_cons_succ, i64_w, i32_w]
      rfl
    refine pure_ (i := 4) (N := some 14) (v := ?_) (a' := ?_) #[true, true, true, true, true, false] rfl rfl (by kernel_rfl) (fun _ _ _ h => h) (Or.inl ⟨by rfl, ?_⟩) ?_ ?_
    rotate_left
    · intro w'
      go_simp
      with_reducible rfl
    rotate_left
    · simp only [Act.put, List.setIfInBounds_toArray, List.set_cons_zero, List.set_cons_succ, i64_w, i32_w]
      rfl
    refine pure_ (i := 5) (N := some 15) (v := ?_) (a' := ?_) #[true, true, true, true, true, true] rfl rfl (by kernel_rfl) (fun _ _ _ h => h) (Or.inl ⟨by rfl, ?_⟩) ?_ ?_
    rotate_left
    · intro w'
      go_simp
      with_reducible rfl
    rotate_left
    · simp only [Act.put, List.setIfInBounds_toArray, List.set_cons_zero, List.set_cons_succ, i64_w, i32_w]
      rfl
    refine done_ (by kernel_rfl) ?_
    obtain ⟨s0, s1, s2⟩ := hHeld
    refine hK1 _ _ ?_
    have hs0 := s0
    have hWu := s2.size
    have u3 : u.heap[w.heap.size]? = some (.cells (.int .i64 (mp : Int) :: bys dp).toArray 53 (0, 0)) := (s2.block _ (Array.getElem?_eq_some_iff.1 H3.out).1).trans H3.out
    have u4 : u.heap[w.heap.size + 1]? = some (.cells C 53 (0, 0)) := (s2.block _ (Array.getElem?_eq_some_iff.1 H4.out).1).trans H4.out
    by_cases hbit : mp &&& lead x.m = 0
    · refine wpIn_cond_false (by show Value.bool _ = _; rw [HAND.out, hbit]; rfl) ?_
      refine wpIn_skip ?_
      refine ⟨keeps_of_below s2 _, s2.mono hwW, ?_⟩
      dsimp only
      rw [HSN.out]
      simp only [step1, hbit, ne_eq, not_true_eq_false, if_false]
      exact ⟨u3, ⟨C, u4, HC.out⟩, hB.trans (s2.mono hwW), by omega⟩
    · have hbit' : ((mp &&& lead x.m : Nat) : Int) ≠ 0 := by omega
      refine wpIn_cond_true (by show Value.bool _ = _; rw [HAND.out]; congr 1; exact bne_iff_ne.mpr hbit') ?_
      have c5 : u.cell? ⟨Bx, 0, none⟩ = some (.int .i64 (x.m : Int)) := (cell_of_row u _ 0 _ 53 (0, 0) s1).trans (by simp)
      have hxor := i64_xor_nat mp x.m (by omega) (by omega)
      have hlx : (xorD dp x.1.f1).length = 16 := by simp [xorD, HDP.out, HXS.out.2.2]
      have hj1 : (Try.prog.info? 51).map (·.size) = some (bys dp).length := by rw [bys_len, HDP.out]; exact size51
      have hj2 : (Try.prog.info? 51).map (·.size) = some (bys x.1.f1).length := by rw [bys_len, HXS.out.2.2]; exact size51
      have hnew : (Try.prog.info? 53).map (·.size) = some (Value.int .i64 ((mp ^^^ x.m : Nat) : Int) :: bys (xorD dp x.1.f1)).length := by rw [List.length_cons, bys_len, hlx]; exact size53
      have J1 := Lib.hid hj1
      have J2 := Lib.hid hj2
      have J3 := Lib.hid hnew
      have HLX := Lib.hid hlx
      have HXOR := Lib.hid hxor
      have U3 := Lib.hid u3
      have U4 := Lib.hid u4
      have S1 := Lib.hid s1
      have S2 := Lib.hid s2
      have hout2 : ¬ LetsOut (Exit.inBlock 1 (ownPostG W0.heap.size (Below w.heap.size)
        (fun (pre : List FRow) W => W.heap[w.heap.size]? = some (.cells (.int .i64 ((redE pre (m, d)).1 : Int) :: bys (redE pre (m, d)).2).toArray 53 (0, 0)) ∧ (∃ C, W.heap[w.heap.size + 1]? = some (.cells C 53 (0, 0)) ∧ C.size = 17) ∧ Below w.heap.size w W ∧ W0.heap.size ≤ W.heap.size)
        (fun _ _ _ => False) (pre ++ [x]) W)) := fun ⟨_, _, h⟩ => h
      clear hj1 hj2 hnew hlx hxor u3 u4 s1 s2 hout
      revert hout2
      intro hout
      refine start_in (m := 12) (S := (fun U => U.cell? ⟨w.heap.size, 0, none⟩ = some (.int .i64 (mp : Int)) ∧ U.cell? ⟨Bx, 0, none⟩ = some (.int .i64 (x.m : Int)) ∧ U.heap[w.heap.size]? = some (.cells (.int .i64 (mp : Int) :: bys dp).toArray 53 (0, 0)) ∧ U.heap[Bx]? = some (.cells (.int .i64 (x.m : Int) :: bys x.1.f1).toArray 53 (0, 0)) ∧ Below u.heap.size u U)) (ds := [11]) #[false, false, false, false, false, false, false, false, false, false, false, false] (by kernel_rfl) (by rfl) hout rfl rfl ⟨hs0, c5, U3.out, S1.out, (Below.refl _ _).drew⟩ (fun hHeld => ?_)
      refine pure_ (i := 0) (N := some 16) (v := ?_) (a' := ?_) #[true, false, false, false, false, false, false, false, false, false, false, false] rfl rfl (by kernel_rfl) (fun _ _ _ h => h) (Or.inl ⟨by rfl, ?_⟩) ?_ ?_
      rotate_left
      · intro w'
        go_simp
        with_reducible rfl
      rotate_left
      · simp only [Act.put, List.setIfInBounds_toArray, List.set_cons_zero, List.set_cons_succ, i64_w, i32_w]
        rfl
      refine pure_ (i := 2) (N := some 18) (v := ?_) (a' := ?_) #[true, false, true, false, false, false, false, false, false, false, false, false] rfl rfl (by kernel_rfl) (fun _ _ _ h => h) (Or.inl ⟨by rfl, ?_⟩) ?_ ?_
      rotate_left
      · intro w'
        go_simp
        with_reducible rfl
      rotate_left
      · simp only [Act.put, List.setIfInBounds_toArray, List.set_cons_zero, List.set_cons_succ, i64_w, i32_w]
        rfl
      refine pure_ (i := 5) (N := some 21) (v := ?_) (a' := ?_) #[true, false, true, false, false, true, false, false, false, false, false, false] rfl rfl (by kernel_rfl) (fun _ _ _ h => h) (Or.inl ⟨by rfl, ?_⟩) ?_ ?_
      rotate_left
      · intro w'
        go_simp
        with_reducible rfl
      rotate_left
      · simp only [Act.put, List.setIfInBounds_toArray, List.set_cons_zero, List.set_cons_succ, i64_w, i32_w]
        rfl
      refine pure_ (i := 7) (N := some 23) (v := ?_) (a' := ?_) #[true, false, true, false, false, true, false, true, false, false, false, false] rfl rfl (by kernel_rfl) (fun _ _ _ h => h) (Or.inl ⟨by rfl, ?_⟩) ?_ ?_
      rotate_left
      · intro w'
        go_simp
        with_reducible rfl
      rotate_left
      · simp only [Act.put, List.setIfInBounds_toArray, List.set_cons_zero, List.set_cons_succ, i64_w, i32_w]
        rfl
      refine take_ (i := 1) (N := some 17) (v := ?_) (a' := ?_) #[true, true, true, false, false, true, false, true, false, false, false, false] rfl rfl (by kernel_rfl) (fun _ _ _ h => h) (Or.inl ⟨by rfl, ?_⟩) hHeld ?_ ?_
      rotate_left
      · rintro w' ⟨s0, s1, s2, s3, s4⟩
        go_simp
        with_reducible rfl
      rotate_left
      · simp only [Act.put, List.setIfInBounds_toArray, List.set_cons_zero, List.set_cons_succ, i64_w, i32_w]
        rfl
      refine take_ (i := 3) (N := some 19) (v := ?_) (a' := ?_) #[true, true, true, true, false, true, false, true, false, false, false, false] rfl rfl (by kernel_rfl) (fun _ _ _ h => h) (Or.inl ⟨by rfl, ?_⟩) hHeld ?_ ?_
      rotate_left
      · rintro w' ⟨s0, s1, s2, s3, s4⟩
        go_simp
        with_reducible rfl
      rotate_left
      · simp only [Act.put, List.setIfInBounds_toArray, List.set_cons_zero, List.set_cons_succ, i64_w, i32_w]
        rfl
      refine pure_ (i := 4) (N := some 20) (v := ?_) (a' := ?_) #[true, true, true, true, true, true, false, true, false, false, false, false] rfl rfl (by kernel_rfl) (fun _ _ _ h => h) (Or.inl ⟨by rfl, ?_⟩) ?_ ?_
      rotate_left
      · intro w'
        go_simp
        with_reducible rfl
      rotate_left
      · simp only [Act.put, List.setIfInBounds_toArray, List.set_cons_zero, List.set_cons_succ, i64_w, i32_w]
        rfl
      refine take_ (i := 6) (N := some 22) (v := _) (a' := ?_) #[true, true, true, true, true, true, true, true, false, false, false, false] rfl rfl (by kernel_rfl) (fun _ _ _ h => h) (mid_if (by rfl) 51 _ rfl w.heap.size rfl _ (bys dp) 53 _ (fun _ hS => hS.2.2.1) Try.underlying51 rfl J1.out) hHeld ?_ ?_
      rotate_left
      · simp only [Act.put, List.setIfInBounds_toArray, List.set_cons_zero, List.set_cons_succ, i64_w, i32_w]
        rfl
      refine take_ (i := 8) (N := some 24) (v := _) (a' := ?_) #[true, true, true, true, true, true, true, true, true, false, false, false] rfl rfl (by kernel_rfl) (fun _ _ _ h => h) (mid_if (by rfl) 51 _ rfl Bx rfl _ (bys x.1.f1) 53 _ (fun _ hS => hS.2.2.2.1) Try.underlying51 rfl J2.out) hHeld ?_ ?_
      rotate_left
      · simp only [Act.put, List.setIfInBounds_toArray, List.set_cons_zero, List.set_cons_succ, i64_w, i32_w]
        rfl
      refine one_ (i := 9) (N := some 25) #[true, true, true, true, true, true, true, true, true, true, false, false] rfl rfl (by kernel_rfl) (by decide) (fun K hK => ?_)
      refine goes_ Try.func33 (by kernel_rfl) rfl #[.agg (bys dp).toArray, .agg (bys x.1.f1).toArray] (by rfl) rfl rfl (by simp only [List.map_toArray, List.map_cons, List.map_nil]; rfl) ?_
      refine (plus_calls dp x.1.f1 HDP.out HXS.out.2.2 _).mono ?_
      rintro e u2 ⟨rfl, hb⟩
      refine ⟨_, rfl, ?_⟩
      obtain ⟨t0, t1, t2, t3, t4⟩ := hHeld
      have t5 := t4.trans (hb.mono t4.size)
      refine hK.out _ _ ⟨(hb.cell (World.block_lt_of_cell? _ _ t0)).trans t0, (hb.cell (World.block_lt_of_cell? _ _ t1)).trans t1, (hb.block _ (Array.getElem?_eq_some_iff.1 t2).1).trans t2, (hb.block _ (Array.getElem?_eq_some_iff.1 t3).1).trans t3, t5⟩ (fun hHeld => ?_)
      clear hK K t0 t1 t2 t3 t4 t5 hb
      refine norm_ (a' := ?_) ?_ ?_
      rotate_left
      · show Act.put _ (some 25) _ = _
        simp only [Act.put, List.setIfInBounds_toArray, List.set_cons_zero, List.set_cons_succ, i64_w, i32_w]
        rfl
      refine pure_ (i := 10) (N := some 26) (v := .agg (.int .i64 ((mp ^^^ x.m : Nat) : Int) :: bys (xorD dp x.1.f1)).toArray) (a' := ?_) #[true, true, true, true, true, true, true, true, true, true, true, false] rfl rfl (by kernel_rfl) (fun _ _ _ h => h) (Or.inl ⟨by rfl, ?_⟩) ?_ ?_
      · intro w'
        refine exec_build rfl (vs := #[(0, .int .i64 ((mp ^^^ x.m : Nat) : Int)), (1, .agg (bys (xorD dp x.1.f1)).toArray)]) ?_ (run_build53 _ _ HLX.out _)
        simp only [List.map_toArray, List.map_cons, List.map_nil]
        rw [← HXOR.out]
        rfl
      rotate_left
      · simp only [Act.put, List.setIfInBounds_toArray, List.set_cons_zero, List.set_cons_succ, i64_w, i32_w]
        rfl
      refine last_ (i := 11) (N := none) #[true, true, true, true, true, true, true, true, true, true, true, true] rfl rfl (by kernel_rfl) (by decide) (fun K hK => ?_)
      obtain ⟨t0, t1, t2, t3, t4⟩ := hHeld
      refine skip_row (by rfl) rfl 53 _ _ rfl w.heap.size (.int .i64 ((mp ^^^ x.m : Nat) : Int) :: bys (xorD dp x.1.f1)) _ 53 rfl rfl t2 (by simp only [List.size_toArray, List.length_cons, bys_len, HDP.out, HLX.out]) J3.out (eq_one _ _) ?_
      intro w1 q1 q2 q3 q4
      refine hK.out _ _ ?_
      refine done_ (by kernel_rfl) ?_
      refine ⟨((keeps_of_below S2.out _).trans (keeps_of_below ((Below.refl _ u).trans (t4.mono (Nat.le_refl _))) _)).trans (keeps_of_cells t2 q2 q3 _), ?_, ?_⟩
      · exact q4 _ _ (Nat.le_refl _) ((S2.out.trans (t4.mono hWu)).mono hwW)
      · dsimp only
        rw [HSN.out]
        simp only [step1, ne_eq, hbit, not_false_eq_true, if_true]
        refine ⟨q1, ⟨C, ?_, HC.out⟩, ?_, ?_⟩
        · rw [q2 _ (by omega), t4.block _ (Array.getElem?_eq_some_iff.1 U4.out).1]; exact U4.out
        · exact hB.trans (q4 _ _ (Nat.le_refl _) ((S2.out.trans (t4.mono hWu)).mono hwW))
        · have := t4.size; omega
  case done =>
    rintro D ys W hD rfl ⟨h3, ⟨C, h4, hC⟩, hB, hz⟩ hK
    have hok := redE_ok ys (m, d) ⟨hm, HD.out⟩
    generalize hq : redE ys (m, d) = q at h3 hok
    obtain ⟨mp, dp⟩ := q
    obtain ⟨hmp, hdp⟩ := hok
    simp only at h3 hmp hdp
    have hl17 : (Value.int .i64 (mp : Int) :: bys dp).length = 17 := by rw [List.length_cons, bys_len, hdp]
    have hone := eq_one (mp : Int) dp
    have HL := Lib.hid hl17
    have HC := Lib.hid hC
    have HK := Lib.hid hK
    have HBB := Lib.hid hB
    have HQ := Lib.hid hq
    clear hl17 hC hdp hK hB hq
    go_wp2_with (first
      | (refine wpList_load_row rfl 53 _ rfl w.heap.size rfl 53 _ (0, 0) _ h3 Try.underlying53 rfl (by simp only [List.size_toArray]; rw [HL.out]; exact size53) ?_)
      | (refine wpList_store_row rfl 53 _ _ rfl (w.heap.size + 1) (.int .i64 (mp : Int) :: bys dp) C 53 rfl rfl h4 (by rw [HL.out]; exact HC.out) (by rw [HL.out]; exact size53) hone ?_; intro w1 g1 g2 g3 g4))
    have hKw : w1.heap[D]? = some (.deferred (some [])) := (g2 D (by omega)).trans HK.out
    refine ⟨by simp, .inl ⟨_, _, rfl, run_takeDeferred hKw, ?_⟩⟩
    have hDw : D < w1.heap.size := (Array.getElem?_eq_some_iff.1 hKw).1
    have hBw : Below w.heap.size w w1 := g4 _ _ (by omega) HBB.out
    refine ⟨_, results_cell_row rfl _ _ (w.heap.size + 1) 53 _ (0, 0) _ rfl ((World.putObj_heap_other (by omega)).trans g1) Try.underlying53 rfl (by simp only [List.size_toArray]; rw [HL.out]; exact size53), by rw [HQ.out], ?_⟩
    exact hBw.trans (belowK_b (w := w) (Nat.le_refl _) w1 D _ _ (by omega) hKw rfl rfl)
  case stop =>
    rintro D c pre W _ _ h _
    exact h.elim
end Go.Proofs.Ytknlbeojdmeljaa.H
