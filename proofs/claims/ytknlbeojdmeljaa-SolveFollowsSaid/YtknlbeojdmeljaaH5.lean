import Derived.Test.YtknlbeojdmeljaaH4
namespace Go.Proofs.Ytknlbeojdmeljaa.H
open Go.RowKit Go.Proofs.YtknlbeojdmeljaaW.PrintWords Go.Proofs.YtknlbeojdmeljaaW.PrintLast Go.Proofs.Ytknlbeojdmeljaa.P
set_option linter.unusedVariables false
set_option linter.unusedSimpArgs false

def val1 : List S25 → Nat × Nat → Option (Nat × Nat)
  | [], st => some st
  | x :: l, st => if fineB x.f0 x.f1 = true ∧ lead x.f0.toNat < st.2 then val1 l (st.1 ||| lead x.f0.toNat, lead x.f0.toNat) else none
theorem val1_append (l r : List S25) : ∀ st, val1 (l ++ r) st = (val1 l st).bind (val1 r) := by
  induction l with
  | nil => intro st; rfl
  | cons x l ih =>
    intro st
    simp only [List.cons_append, val1]
    split
    · exact ih _
    · rfl
theorem fine_lt {x : S25} (h : fineB x.f0 x.f1 = true) : x.f0.toNat < 65536 := FRow.m_lt ⟨x, h⟩
theorem val1_ok (l : List S25) : ∀ st st', val1 l st = some st' → st.1 < 65536 → st.2 ≤ 65536 → st'.1 < 65536 ∧ st'.2 ≤ 65536 := by
  induction l with
  | nil => intro st st' h h1 h2; cases h; exact ⟨h1, h2⟩
  | cons x l ih =>
    intro st st' h h1 h2
    simp only [val1] at h
    split at h
    · rename_i hc
      have hl := lead_lt _ (fine_lt hc.1)
      exact ih _ _ h (Nat.or_lt_two_pow (n := 16) h1 hl) (by simp only; omega)
    · cases h
theorem val1_fine (l : List S25) : ∀ st st', val1 l st = some st' → ∀ x ∈ l, fineB x.f0 x.f1 = true := by
  induction l with
  | nil => intro st st' h x hx; cases hx
  | cons x l ih =>
    intro st st' h y hy
    simp only [val1] at h
    split at h
    · rename_i hc
      rcases List.mem_cons.1 hy with rfl | hy
      · exact hc.1
      · exact ih _ _ h y hy
    · cases h
def validS (l : List S25) : Bool := match val1 l (0, 65536) with
  | none => false
  | some st => l.all fun x => x.f0.toNat &&& st.1 == lead x.f0.toNat

theorem keeps_set {w : World} {g : Nat} {t : TypeId} {v : Value} (hb : Boxed w g t v) (u : Value) (B : Nat) : KeepsFrom B w (w.setCell ⟨g, 0, none⟩ u) :=
  keeps_of_cells (C := #[v]) (t := t) (fr := (0, 0)) hb (fun k hk => Below.heap_setCell w ⟨g, 0, none⟩ u k hk) (World.size_setCell _ _ _) B
theorem boxed_block {W U : World} {g : Nat} {t : TypeId} {v : Value} (hb : Boxed W g t v) (h : Below W.heap.size W U) : Boxed U g t v := (h.block g hb.lt).trans hb
theorem boxed_keep {A B : World} {row : Option Nat} {b k : Nat} {t : TypeId} {v : Value} (h : Boxed A k t v) (hg : A.grownBy B row)
    (hr : ∀ r, row = some r → b ≤ r ∧ ∃ o : Obj, A.heap[r]? = some o ∧ o.isCells = false) : Boxed B k t v := keep_block h hg hr

theorem leading_calls' (z : Int) (h0 : 0 ≤ z) (h1 : z < 65536) (D : List Value) (w : World) :
    Calls Try.prog 32 #[.agg (.int .i64 z :: D).toArray] w fun e w' => e = .returned (.int .i64 (lead z.toNat : Int)) ∧ Below w.heap.size w w' := by
  obtain ⟨m, rfl⟩ := Int.eq_ofNat_of_zero_le h0
  exact leading_calls m (by omega) D w

set_option maxRecDepth 100000 in
set_option maxHeartbeats 4000000 in
theorem valid_calls (A : Option Addr) (cap : Nat) (zs : List S25) (w : World) (hr : Kd.C k25 w A zs.length zs) :
    Calls Try.prog 20 #[.slice A zs.length cap] w fun e w' => e = .returned (.bool (validS zs)) ∧ Below w.heap.size w w' := by
  refine (callsIn_wide (n := 3)).1 (callsIn_of_wp_marks Try.func20 rfl trivial (wpIn_wide.2 ?_) rfl)
  simp only [Try.ntmps20, List.size_toArray, List.length_cons, List.length_nil, Nat.reduceAdd, Nat.reduceSub, Array.replicate_succ, Array.replicate_zero, List.push_toArray, List.append_toArray, List.nil_append, List.cons_append]
  go_wp2_with (go_at_call 30; refine (equations_calls _ _ _ _).mono ?_; rintro e w' ⟨rfl, rfl⟩)
  have e0 : (w.heap.size + 1 + 1 + 1 : Nat) = w.heap.size + 3 := by omega
  generalize hW0 : (((w.alloc (.cells #[.bool false] 4)).alloc (.cells #[.int .i64 0] 3)).alloc (.cells #[.int .i64 65536] 3)).alloc (.cells #[.slice A zs.length cap] 22) = W0
  have b2 : Boxed W0 w.heap.size 4 (.bool false) := by rw [← hW0]; exact (((Boxed.new w 4 (.bool false)).alloc _).alloc _).alloc _
  have b3 : Boxed W0 (w.heap.size + 1) 3 (.int .i64 0) := by
    have := Boxed.new (w.alloc (.cells #[.bool false] 4)) 3 (.int .i64 0)
    rw [World.size_alloc] at this
    rw [← hW0]; exact (this.alloc _).alloc _
  have b4 : Boxed W0 (w.heap.size + 1 + 1) 3 (.int .i64 65536) := by
    have := Boxed.new ((w.alloc (.cells #[.bool false] 4)).alloc (.cells #[.int .i64 0] 3)) 3 (.int .i64 65536)
    rw [World.size_alloc, World.size_alloc] at this
    rw [← hW0]; exact this.alloc _
  have b5 : Boxed W0 (w.heap.size + 1 + 1 + 1) 22 (.slice A zs.length cap) := by rw [← hW0]; exact blk_new (by simp)
  have sz : W0.heap.size = w.heap.size + 1 + 1 + 1 + 1 := by rw [← hW0]; simp
  have hB0 : Below w.heap.size w W0 := by
    rw [← hW0]; exact ((((Below.refl _ _).alloc (Nat.le_refl _) _).alloc (by simp) _).alloc (by simp; omega) _).alloc (by simp; omega) _
  clear hW0 e0
  refine (wpIn_wide (n := 3)).1 (wpIn_rangeFunc_ownH (F := Fence.wide) (n := 3) rfl (by omega) (gf := 38) (lb := #[.pointer (some ⟨w.heap.size + 1 + 1 + 1, 0, none⟩)]) rfl trivial (enters_of Try.func38 (by kernel_rfl) rfl)
    (iter_stops (fun x : S25 => x) (3 - 1) (w.heap.size + 1 + 1 + 1) w.heap.size A cap zs W0 (by omega) (by omega) b5.cell (fun W' h => by simpa using Kd.C_below hr (hB0.trans h))) belowK_t (belowK_b (by omega)) (Below.refl _ _) (fun _ => rfl)
    (fun pre W => ∃ a b : Nat, val1 pre (0, 65536) = some (a, b) ∧ Boxed W (w.heap.size + 1) 3 (.int .i64 (a : Int)) ∧ Boxed W (w.heap.size + 1 + 1) 3 (.int .i64 (b : Int)) ∧ Boxed W w.heap.size 4 (.bool false) ∧ Below w.heap.size w W ∧ W0.heap.size ≤ W.heap.size)
    (fun c pre W => c = .ret ∧ val1 pre (0, 65536) = none ∧ Boxed W w.heap.size 4 (.bool false) ∧ Below w.heap.size w W ∧ W0.heap.size ≤ W.heap.size)
    (fun s X Y row hs hg hr => by
      obtain ⟨a, b, h0, h1, h2, h3, h4, h5⟩ := hs
      exact ⟨a, b, h0, boxed_keep h1 hg hr, boxed_keep h2 hg hr, boxed_keep h3 hg hr, h4.grown hg (by have := h4.size; omega) (fun k e => by have := (hr k e).1; omega), Nat.le_trans h5 hg.size⟩)
    (fun c s X Y row hs hg hr => by
      obtain ⟨h0, h1, h2, h4, h5⟩ := hs
      exact ⟨h0, h1, boxed_keep h2 hg hr, h4.grown hg (by have := h4.size; omega) (fun k e => by have := (hr k e).1; omega), Nat.le_trans h5 hg.size⟩)
    ⟨0, 65536, rfl, b3, b4, b2, hB0, Nat.le_refl _⟩
    (fun x a' W => ∃ Bx, W0.heap.size ≤ Bx ∧ W.heap[Bx]? = some (.cells (.int .i64 x.f0 :: bys (pad16 x.f1)).toArray 53 (0, 0)) ∧ a' = { tmps := #[.slice A zs.length cap, undef, .pointer (some ⟨w.heap.size, 0, none⟩), .pointer (some ⟨w.heap.size + 1, 0, none⟩), .pointer (some ⟨w.heap.size + 1 + 1, 0, none⟩), .pointer (some ⟨Bx, 0, none⟩), .bool (fineB x.f0 x.f1), undef, .slice A zs.length cap, .func (.func 38) #[] #[.pointer (some ⟨w.heap.size + 1 + 1 + 1, 0, none⟩)], .agg (.int .i64 x.f0 :: bys (pad16 x.f1)).toArray, .bool (fineB x.f0 x.f1), undef, undef, undef, undef, undef, undef, undef, undef, undef, undef, undef, undef, undef, undef, undef, undef, undef, undef, undef, undef, undef, undef, undef, undef], defers := [] })
    (fun x a' s X Y row hs hg hr => by obtain ⟨Bx, h1, h2, h3⟩ := hs; exact ⟨Bx, h1, keep_block h2 hg hr, h3⟩)
    ?assign ?body ?done ?stop)
  case assign =>
    intro l pre x W K hI hK
    unfold encE
    have hout : ¬ LetsOut (Exit.then K (fun _ _ _ => False)) := fun ⟨_, _, h⟩ => h
    have hl17 : (Value.int .i64 x.f0 :: bys (pad16 x.f1)).length = 17 := by rw [List.length_cons, bys_len, pad16_len]
    have H17 := Lib.hid hl17
    have hone : ∀ v ∈ Value.int .i64 x.f0 :: bys (pad16 x.f1), v.oneCell' = true := eq_one _ _
    have HK := Lib.hid hK
    have HI := Lib.hid hI
    clear hl17 hK hI
    simp only [List.zip_toArray, List.zip_cons_cons, List.zip_nil_right, List.foldl_toArray, List.foldl_cons, List.foldl_nil, List.setIfInBounds_toArray, List.set_cons_zero, List.set_cons_succ]
    refine wpIn_seq_k (fun K1 hK1 => ?_)
    have hout1 : ¬ LetsOut (Exit.then K1 (Exit.then K (fun _ _ _ => False))) := fun ⟨_, _, h⟩ => h
    refine plain_in (by rfl) hout1 ?_
    go_wp2_with (first | (refine wpList_store_row rfl 53 _ _ rfl W.heap.size (.int .i64 x.f0 :: bys (pad16 x.f1)) _ 53 rfl rfl (blk_new rfl) (by rw [H17.out]; rfl) (by rw [H17.out]; exact size53) hone ?_; intro w1 g1 g2 g3 g4))
    refine plain_in (by rfl) hout ?_
    have G2 := Lib.hid g2
    have G4 := Lib.hid g4
    have G3 := Lib.hid g3
    have G1 := Lib.hid g1
    clear g1 g2 g3 g4
    go_wp2
    obtain ⟨a, b, i0, i1, i2, i3, i4, i5⟩ := HI.out
    have hwW := i4.size
    have hB1 : Below w.heap.size W w1 := G4.out _ _ hwW ((Below.refl _ _).alloc hwW _)
    have hn : ∀ k, k < W.heap.size → w1.heap[k]? = W.heap[k]? := fun k hk => (G2.out k (by omega)).trans (Below.heap_alloc _ _ _ hk)
    exact HK.out _ _ ((keeps_of_below ((Below.refl _ W).alloc (Nat.le_refl _) _) _).trans (keeps_of_cells (blk_new rfl) G2.out G3.out _)) hB1
      ⟨a, b, i0, (hn _ (by omega)).trans i1, (hn _ (by omega)).trans i2, (hn _ (by omega)).trans i3, i4.trans hB1, by rw [G3.out]; simp; omega⟩ ⟨W.heap.size, i5, G1.out, rfl⟩
  case body =>
    rintro l pre x a' W hl hrec ⟨a, b, hv, bL, bT, bR, hB, hz⟩ ⟨Bx, hBx, hx, rfl⟩ hlen
    have hwW := hB.size
    have hok := val1_ok pre _ _ hv (by simp) (by simp)
    simp only at hok
    obtain ⟨ha, hb'⟩ := hok
    have hsnoc := val1_append pre [x] (0, 65536)
    rw [hv] at hsnoc
    simp only [Option.bind_some, val1] at hsnoc
    have HSN := Lib.hid hsnoc
    have HX := Lib.hid hx
    have BL := Lib.hid bL
    have BT := Lib.hid bT
    have BR := Lib.hid bR
    have HV := Lib.hid hv
    have hLs := bL.lt
    have hTs := bT.lt
    have hRs := bR.lt
    clear hsnoc hx bL bT bR hv hrec
    refine wpIn_block ?_
    have hout : ∀ K : Act → World → Prop, ¬ LetsOut (Exit.then K (Exit.inBlock 1 (ownPostG W0.heap.size (Below w.heap.size)
      (fun pre W => ∃ a b : Nat, val1 pre (0, 65536) = some (a, b) ∧ Boxed W (w.heap.size + 1) 3 (.int .i64 (a : Int)) ∧ Boxed W (w.heap.size + 1 + 1) 3 (.int .i64 (b : Int)) ∧ Boxed W w.heap.size 4 (.bool false) ∧ Below w.heap.size w W ∧ W0.heap.size ≤ W.heap.size)
      (fun c pre W => c = .ret ∧ val1 pre (0, 65536) = none ∧ Boxed W w.heap.size 4 (.bool false) ∧ Below w.heap.size w W ∧ W0.heap.size ≤ W.heap.size) (pre ++ [x]) W))) := fun K ⟨_, _, h⟩ => h
    have hout' : ∀ K K' : Act → World → Prop, ¬ LetsOut (Exit.then K' (Exit.then K (Exit.inBlock 1 (ownPostG W0.heap.size (Below w.heap.size)
      (fun pre W => ∃ a b : Nat, val1 pre (0, 65536) = some (a, b) ∧ Boxed W (w.heap.size + 1) 3 (.int .i64 (a : Int)) ∧ Boxed W (w.heap.size + 1 + 1) 3 (.int .i64 (b : Int)) ∧ Boxed W w.heap.size 4 (.bool false) ∧ Below w.heap.size w W ∧ W0.heap.size ≤ W.heap.size)
      (fun c pre W => c = .ret ∧ val1 pre (0, 65536) = none ∧ Boxed W w.heap.size 4 (.bool false) ∧ Below w.heap.size w W ∧ W0.heap.size ≤ W.heap.size) (pre ++ [x]) W)))) := fun K K' ⟨_, _, h⟩ => h
    have HO := Lib.hid hout
    have HO' := Lib.hid hout'
    clear hout hout'
    refine wpIn_seq_k (fun K1 hK1 => ?_)
    refine wpIn_seq_k (fun K2 hK2 => ?_)
    have hout := HO'.out K1 K2
    -- one way out: the answer is no
    have leave : ∀ (u : World) (T : Array Value), Below W.heap.size W u → T[2]? = some (.pointer (some ⟨w.heap.size, 0, none⟩)) → (¬ (fineB x.f0 x.f1 = true ∧ lead x.f0.toNat < b)) →
        ((Code.region 6 #[{ dst := none, op := Op.store 4 (Operand.tmp 2) (Operand.const (Value.bool false)), type := 0, pos := "solve.go:61", after := #[], guard := none }] false).seq Code.ret).wpIn (Fence.wide.inRound l) (3 - 1 - 1) Try.prog (Exit.then K1 (Exit.inBlock 1 (ownPostG W0.heap.size (Below w.heap.size)
      (fun pre W => ∃ a b : Nat, val1 pre (0, 65536) = some (a, b) ∧ Boxed W (w.heap.size + 1) 3 (.int .i64 (a : Int)) ∧ Boxed W (w.heap.size + 1 + 1) 3 (.int .i64 (b : Int)) ∧ Boxed W w.heap.size 4 (.bool false) ∧ Below w.heap.size w W ∧ W0.heap.size ≤ W.heap.size)
      (fun c pre W => c = .ret ∧ val1 pre (0, 65536) = none ∧ Boxed W w.heap.size 4 (.bool false) ∧ Below w.heap.size w W ∧ W0.heap.size ≤ W.heap.size) (pre ++ [x]) W))) { tmps := T, defers := [] } u := by
      intro u T hu hT hno
      have bR' := boxed_block BR.out hu
      have cR := bR'.cell
      have fR := bR'.frozen
      have BR' := Lib.hid bR'
      have HU := Lib.hid hu
      have HNO := Lib.hid hno
      clear hu hno bR'
      refine wpIn_seq_k (fun K3 hK3 => ?_)
      refine plain_in (by rfl) (fun ⟨_, _, h⟩ => h) ?_
      go_wp2
      refine wpIn_ret ?_
      have hsz := HU.out.size
      have hbw : Below w.heap.size W (u.setCell ⟨w.heap.size, 0, none⟩ (.bool false)) := (HU.out.mono hwW).setCell (p := ⟨w.heap.size, 0, none⟩) (Nat.le_refl _) _
      refine ⟨(keeps_of_below HU.out _).trans (keeps_set BR'.out _ _), rfl, by rw [HSN.out, if_neg HNO.out], BR'.out.set _, hB.trans hbw, ?_⟩
      rw [World.size_setCell]
      omega
    by_cases hf : fineB x.f0 x.f1 = true
    · have hxm := fine_lt hf
      have hx0 : 0 ≤ x.f0 ∧ x.f0 < 65536 := by have := FRow.spec ⟨x, hf⟩; simp only at this; omega
      have hl16 := lead_lt _ hxm
      have cT : W.cell? ⟨w.heap.size + 1 + 1, 0, none⟩ = some (.int .i64 (b : Int)) := BT.out.cell
      have hi17 : (Try.prog.info? 53).map (·.size) = some (Value.int .i64 x.f0 :: bys (pad16 x.f1)).length := by rw [List.length_cons, bys_len, pad16_len]; exact size53
      have HI17 := Lib.hid hi17
      clear hi17
      have hf1 := hf
      rw [hf]
      refine start_in (m := 8) (S := (fun U => U.heap[Bx]? = some (.cells (.int .i64 x.f0 :: bys (pad16 x.f1)).toArray 53 (0, 0)) ∧ U.cell? ⟨w.heap.size + 1 + 1, 0, none⟩ = some (.int .i64 (b : Int)) ∧ Below W.heap.size W U)) (ds := []) #[false, false, false, false, false, false, false, false] (by kernel_rfl) (by rfl) hout rfl rfl ⟨HX.out, cT, (Below.refl _ _).drew⟩ (fun hHeld => ?_)
      refine pure_ (i := 0) (N := some 12) (v := ?_) (a' := ?_) #[true, false, false, false, false, false, false, false] rfl rfl (by kernel_rfl) (fun _ _ _ h => h) (Or.inl ⟨by rfl, ?_⟩) ?_ ?_
      rotate_left
      · intro w'
        go_simp
        with_reducible rfl
      rotate_left
      · simp only [Act.put, List.setIfInBounds_toArray, List.set_cons_zero, List.set_cons_succ, i64_w, i32_w]
        rfl
      refine pure_ (i := 1) (N := some 13) (v := ?_) (a' := ?_) #[true, true, false, false, false, false, false, false] rfl rfl (by kernel_rfl) (fun _ _ _ h => h) (Or.inl ⟨by rfl, ?_⟩) ?_ ?_
      rotate_left
      · intro w'
        go_simp
        with_reducible rfl
      rotate_left
      · simp only [Act.put, List.setIfInBounds_toArray, List.set_cons_zero, List.set_cons_succ, i64_w, i32_w]
        rfl
      refine pure_ (i := 2) (N := some 14) (v := ?_) (a' := ?_) #[true, true, true, false, false, false, false, false] rfl rfl (by kernel_rfl) (fun _ _ _ h => h) (Or.inl ⟨by rfl, ?_⟩) ?_ ?_
      rotate_left
      · intro w'
        go_simp
        with_reducible rfl
      rotate_left
      · simp only [Act.put, List.setIfInBounds_toArray, List.set_cons_zero, List.set_cons_succ, i64_w, i32_w]
        rfl
      refine take_ (i := 3) (N := some 15) (v := _) (a' := ?_) #[true, true, true, true, false, false, false, false] rfl rfl (by kernel_rfl) (fun _ _ _ h => h) (row_if (by rfl) 53 _ rfl Bx rfl (.int .i64 x.f0 :: bys (pad16 x.f1)) 53 _ (fun _ hS => hS.1) Try.underlying53 rfl HI17.out) hHeld ?_ ?_
      rotate_left
      · simp only [Act.put, List.setIfInBounds_toArray, List.set_cons_zero, List.set_cons_succ, i64_w, i32_w]
        rfl
      refine take_ (i := 5) (N := some 17) (v := ?_) (a' := ?_) #[true, true, true, true, false, true, false, false] rfl rfl (by kernel_rfl) (fun _ _ _ h => h) (Or.inl ⟨by rfl, ?_⟩) hHeld ?_ ?_
      rotate_left
      · rintro w' ⟨s0, s1, s2⟩
        go_simp
        with_reducible rfl
      rotate_left
      · simp only [Act.put, List.setIfInBounds_toArray, List.set_cons_zero, List.set_cons_succ, i64_w, i32_w]
        rfl
      refine one_ (i := 4) (N := some 16) #[true, true, true, true, true, true, false, false] rfl rfl (by kernel_rfl) (by decide) (fun K hK => ?_)
      refine goes_ Try.func32 (by kernel_rfl) rfl #[.agg (.int .i64 x.f0 :: bys (pad16 x.f1)).toArray] (by rfl) rfl rfl (by simp only [List.map_toArray, List.map_cons, List.map_nil]; rfl) ?_
      refine (leading_calls' x.f0 hx0.1 hx0.2 _ _).mono ?_
      rintro e u ⟨rfl, hb⟩
      refine ⟨_, rfl, ?_⟩
      obtain ⟨s0, s1, s2⟩ := hHeld
      have t2 := s2.trans (hb.mono s2.size)
      refine hK.out _ _ ⟨(hb.block _ (Array.getElem?_eq_some_iff.1 s0).1).trans s0, (hb.cell (World.block_lt_of_cell? _ _ s1)).trans s1, t2⟩ (fun hHeld => ?_)
      clear hK K s0 s1 s2 t2 hb
      refine norm_ (a' := ?_) ?_ ?_
      rotate_left
      · show Act.put _ (some 16) _ = _
        simp only [Act.put, List.setIfInBounds_toArray, List.set_cons_zero, List.set_cons_succ, i64_w, i32_w]
        rfl
      refine pure_ (i := 6) (N := some 18) (v := ?_) (a' := ?_) #[true, true, true, true, true, true, true, false] rfl rfl (by kernel_rfl) (fun _ _ _ h => h) (Or.inl ⟨by rfl, ?_⟩) ?_ ?_
      rotate_left
      · intro w'
        go_simp
        with_reducible rfl
      rotate_left
      · simp only [Act.put, List.setIfInBounds_toArray, List.set_cons_zero, List.set_cons_succ, i64_w, i32_w]
        rfl
      refine pure_ (i := 7) (N := some 19) (v := ?_) (a' := ?_) #[true, true, true, true, true, true, true, true] rfl rfl (by kernel_rfl) (fun _ _ _ h => h) (Or.inl ⟨by rfl, ?_⟩) ?_ ?_
      rotate_left
      · intro w'
        go_simp
        with_reducible rfl
      rotate_left
      · simp only [Act.put, List.setIfInBounds_toArray, List.set_cons_zero, List.set_cons_succ, i64_w, i32_w]
        rfl
      refine done_ (by kernel_rfl) ?_
      obtain ⟨s0, s1, s2⟩ := hHeld
      refine hK2 _ _ ?_
      by_cases hlt : lead x.f0.toNat < b
      · refine wpIn_cond_false (by show Value.bool _ = _; congr 1; simp; omega) (wpIn_skip (hK1 _ _ ?_))
        have bL1 := boxed_block BL.out s2
        have bT1 := boxed_block BT.out s2
        have hsz := s2.size
        have S2 := Lib.hid s2
        have BL1 := Lib.hid bL1
        have BT1 := Lib.hid bT1
        clear s2 bL1 bT1 cT s1
        refine wpIn_seq_k (fun K4 hK4 => ?_)
        refine plain_in (by rfl) (fun ⟨_, _, h⟩ => h) ?_
        go_wp2_with (first
          | (refine wpList_load_row rfl 53 _ rfl Bx rfl 53 (.int .i64 x.f0 :: bys (pad16 x.f1)).toArray (0, 0) _ s0 Try.underlying53 rfl (by simp only [List.size_toArray]; exact HI17.out) ?_)
          | (go_at_call 32; refine (leading_calls' x.f0 hx0.1 hx0.2 _ _).mono ?_; rintro e u2 ⟨rfl, hb⟩; have bT2 := boxed_block BT1.out hb; have cT2 := bT2.cell; have fT2 := bT2.frozen; have BT2 := Lib.hid bT2; have HB2 := Lib.hid hb; clear bT2 hb))
        have bL3 := (boxed_block BL1.out HB2.out).other (B' := w.heap.size + 1 + 1) (by omega) (.int .i64 (lead x.f0.toNat : Int))
        have bT3 := BT2.out.set (.int .i64 (lead x.f0.toNat : Int))
        have bR3 := (boxed_block (boxed_block BR.out S2.out) HB2.out).other (B' := w.heap.size + 1 + 1) (by omega) (.int .i64 (lead x.f0.toNat : Int))
        have k3 := ((keeps_of_below S2.out W0.heap.size).trans (keeps_of_below HB2.out _)).trans (keeps_set BT2.out (.int .i64 (lead x.f0.toNat : Int)) _)
        have B3 := ((S2.out.trans (HB2.out.mono hsz)).mono hwW).setCell (p := ⟨w.heap.size + 1 + 1, 0, none⟩) (by simp; omega) (.int .i64 (lead x.f0.toNat : Int))
        have hs2 := HB2.out.size
        have hs3 := World.size_setCell u2 ⟨w.heap.size + 1 + 1, 0, none⟩ (.int .i64 (lead x.f0.toNat : Int))
        generalize u2.setCell ⟨w.heap.size + 1 + 1, 0, none⟩ (.int .i64 (lead x.f0.toNat : Int)) = u3 at *
        have hor := i64_or_nat a (lead x.f0.toNat) (by omega) (by omega)
        have cL3 := bL3.cell
        have cT3 := bT3.cell
        have fL3 := bL3.frozen
        have BL3 := Lib.hid bL3
        have BT3 := Lib.hid bT3
        have BR3 := Lib.hid bR3
        have K3 := Lib.hid k3
        have BB3 := Lib.hid B3
        have HS3 := Lib.hid hs3
        have HOR := Lib.hid hor
        clear bL3 bT3 bR3 k3 B3 cT2 fT2 s0 hs3 hor
        refine plain_in (by rfl) (fun ⟨_, _, h⟩ => h) ?_
        go_wp2
        rw [HOR.out]
        refine ⟨K3.out.trans (keeps_set BL3.out _ _), BB3.out.setCell (p := ⟨w.heap.size + 1, 0, none⟩) (by simp) _, ?_⟩
        dsimp only
        refine ⟨a ||| lead x.f0.toNat, lead x.f0.toNat, by rw [HSN.out, if_pos ⟨hf1, hlt⟩], BL3.out.set _, BT3.out.other (by omega) _, BR3.out.other (by omega) _, hB.trans (BB3.out.setCell (p := ⟨w.heap.size + 1, 0, none⟩) (by simp) _), ?_⟩
        rw [World.size_setCell, HS3.out]
        omega
      · refine wpIn_cond_true (by show Value.bool _ = _; congr 1; simp; omega) ?_
        exact leave _ _ s2 rfl (fun h => hlt h.2)
    · have hf' : fineB x.f0 x.f1 = false := by simpa using hf
      rw [hf']
      refine start_in (m := 8) (S := (fun U => Below W.heap.size W U)) (ds := []) #[false, false, false, false, false, false, false, false] (by kernel_rfl) (by rfl) hout rfl rfl ((Below.refl _ _).drew) (fun hHeld => ?_)
      refine pure_ (i := 0) (N := some 12) (v := ?_) (a' := ?_) #[true, false, false, false, false, false, false, false] rfl rfl (by kernel_rfl) (fun _ _ _ h => h) (Or.inl ⟨by rfl, ?_⟩) ?_ ?_
      rotate_left
      · intro w'
        go_simp
        with_reducible rfl
      rotate_left
      · simp only [Act.put, List.setIfInBounds_toArray, List.set_cons_zero, List.set_cons_succ, i64_w, i32_w]
        rfl
      refine pure_ (i := 1) (N := some 13) (v := ?_) (a' := ?_) #[true, true, false, false, false, false, false, false] rfl rfl (by kernel_rfl) (fun _ _ _ h => h) (Or.inl ⟨by rfl, ?_⟩) ?_ ?_
      rotate_left
      · intro w'
        go_simp
        with_reducible rfl
      rotate_left
      · simp only [Act.put, List.setIfInBounds_toArray, List.set_cons_zero, List.set_cons_succ, i64_w, i32_w]
        rfl
      refine pure_ (i := 2) (N := some 14) (v := ?_) (a' := ?_) #[true, true, true, false, false, false, false, false] rfl rfl (by kernel_rfl) (fun _ _ _ h => h) (Or.inl ⟨by rfl, ?_⟩) ?_ ?_
      rotate_left
      · intro w'
        go_simp
        with_reducible rfl
      rotate_left
      · simp only [Act.put, List.setIfInBounds_toArray, List.set_cons_zero, List.set_cons_succ, i64_w, i32_w]
        rfl
      refine pure_ (i := 3) (N := some 15) (v := undef) (a' := ?_) #[true, true, true, true, false, false, false, false] rfl rfl (by kernel_rfl) (fun _ _ _ h => h) (Or.inr ⟨by rfl, rfl⟩) ?_ ?_
      rotate_left
      · simp only [Act.put, List.setIfInBounds_toArray, List.set_cons_zero, List.set_cons_succ, i64_w, i32_w]
        rfl
      refine pure_ (i := 4) (N := some 16) (v := undef) (a' := ?_) #[true, true, true, true, true, false, false, false] rfl rfl (by kernel_rfl) (fun _ _ _ h => h) (Or.inr ⟨by rfl, rfl⟩) ?_ ?_
      rotate_left
      · simp only [Act.put, List.setIfInBounds_toArray, List.set_cons_zero, List.set_cons_succ, i64_w, i32_w]
        rfl
      refine pure_ (i := 5) (N := some 17) (v := undef) (a' := ?_) #[true, true, true, true, true, true, false, false] rfl rfl (by kernel_rfl) (fun _ _ _ h => h) (Or.inr ⟨by rfl, rfl⟩) ?_ ?_
      rotate_left
      · simp only [Act.put, List.setIfInBounds_toArray, List.set_cons_zero, List.set_cons_succ, i64_w, i32_w]
        rfl
      refine pure_ (i := 6) (N := some 18) (v := undef) (a' := ?_) #[true, true, true, true, true, true, true, false] rfl rfl (by kernel_rfl) (fun _ _ _ h => h) (Or.inr ⟨by rfl, rfl⟩) ?_ ?_
      rotate_left
      · simp only [Act.put, List.setIfInBounds_toArray, List.set_cons_zero, List.set_cons_succ, i64_w, i32_w]
        rfl
      refine pure_ (i := 7) (N := some 19) (v := ?_) (a' := ?_) #[true, true, true, true, true, true, true, true] rfl rfl (by kernel_rfl) (fun _ _ _ h => h) (Or.inl ⟨by rfl, ?_⟩) ?_ ?_
      rotate_left
      · intro w'
        go_simp
        with_reducible rfl
      rotate_left
      · simp only [Act.put, List.setIfInBounds_toArray, List.set_cons_zero, List.set_cons_succ, i64_w, i32_w]
        rfl
      refine done_ (by kernel_rfl) ?_
      refine hK2 _ _ (wpIn_cond_true rfl ?_)
      exact leave _ _ hHeld rfl (fun h => hf h.1)
  case done =>
    rintro D ys W hD hys ⟨a, b, hv, bL, bT, bR, hB, hz⟩ hK
    subst hys
    have hfine := val1_fine _ _ _ hv
    have hok := val1_ok _ _ _ hv (by simp) (by simp)
    simp only at hok
    obtain ⟨ha, hb'⟩ := hok
    obtain ⟨fz, hfz⟩ : ∃ fz : List FRow, fz.map Subtype.val = ys := ⟨ys.pmap (fun x h => ⟨x, h⟩) hfine, by simp [List.map_pmap]⟩
    have hfl : fz.length = ys.length := by rw [← hfz, List.length_map]
    have hvs : validS ys = fz.all fun x => x.m &&& a == lead x.m := by
      unfold validS
      rw [hv]
      simp only
      rw [← hfz, List.all_map]
      rfl
    have hKb : Below w.heap.size w W := hB
    have HV := Lib.hid hv
    have HVS := Lib.hid hvs
    have HFZ := Lib.hid hfz
    have HFL := Lib.hid hfl
    have HK := Lib.hid hK
    have hDw := (Array.getElem?_eq_some_iff.1 hK).1
    have BL := Lib.hid bL
    have BR := Lib.hid bR
    have hLs := bL.lt
    have hRs := bR.lt
    clear hv hvs hfz hfl hK bL bT bR hfine hKb
    go_wp2_with (go_at_call 30; refine (equations_calls _ _ _ _).mono ?_; rintro e w' ⟨rfl, rfl⟩)
    have b5' : Boxed (W.alloc (.cells #[.slice A ys.length cap] 22)) W.heap.size 22 (.slice A fz.length cap) := by rw [HFL.out]; exact Boxed.new _ _ _
    have b2' := BR.out.alloc (.cells #[.slice A ys.length cap] 22)
    have b3' := BL.out.alloc (.cells #[.slice A ys.length cap] 22)
    have sz' : (W.alloc (.cells #[.slice A ys.length cap] 22)).heap.size = W.heap.size + 1 := by simp
    have hB1 : Below w.heap.size w (W.alloc (.cells #[.slice A ys.length cap] 22)) := hB.alloc hB.size _
    have hK1 : (W.alloc (.cells #[.slice A ys.length cap] 22)).heap[D]? = some (.deferred (some [])) := (Below.heap_alloc _ _ _ hDw).trans HK.out
    have hws := hB.size
    generalize W.alloc (.cells #[.slice A ys.length cap] 22) = W1 at *
    refine (wpIn_wide (n := 3)).1 (wpIn_rangeFunc_ownH (F := Fence.wide) (n := 3) rfl (by omega) (gf := 38) (lb := #[.pointer (some ⟨W.heap.size, 0, none⟩)]) rfl trivial (enters_of Try.func38 (by kernel_rfl) rfl)
      (iter_stops (fun x : FRow => x.1) (3 - 1) W.heap.size w.heap.size A cap fz W1 (by omega) (by omega) b5'.cell (fun W' h => by rw [HFL.out]; rw [show fz.map (fun x : FRow => x.1) = ys from HFZ.out]; exact Kd.C_below hr (hB1.trans h))) belowK_t (belowK_b (by omega)) (Below.refl _ _) (fun _ => rfl)
      (fun (pre : List FRow) W => (pre.all fun x => x.m &&& a == lead x.m) = true ∧ Boxed W (w.heap.size + 1) 3 (.int .i64 (a : Int)) ∧ Boxed W w.heap.size 4 (.bool false) ∧ Below w.heap.size w W ∧ W1.heap.size ≤ W.heap.size ∧ W.heap[D]? = some (.deferred (some [])))
      (fun c (pre : List FRow) W => c = .ret ∧ (pre.all fun x => x.m &&& a == lead x.m) = false ∧ Boxed W w.heap.size 4 (.bool false) ∧ Below w.heap.size w W ∧ W1.heap.size ≤ W.heap.size ∧ W.heap[D]? = some (.deferred (some [])))
      (fun s X Y row hs hg hr => by
        obtain ⟨h0, h1, h2, h4, h5, h6⟩ := hs
        exact ⟨h0, boxed_keep h1 hg hr, boxed_keep h2 hg hr, h4.grown hg (by have := h4.size; omega) (fun k e => by have := (hr k e).1; omega), Nat.le_trans h5 hg.size, (hg.block D (by omega) (fun e => by have := (hr D e.symm).1; omega)).trans h6⟩)
      (fun c s X Y row hs hg hr => by
        obtain ⟨h0, h1, h2, h4, h5, h6⟩ := hs
        exact ⟨h0, h1, boxed_keep h2 hg hr, h4.grown hg (by have := h4.size; omega) (fun k e => by have := (hr k e).1; omega), Nat.le_trans h5 hg.size, (hg.block D (by omega) (fun e => by have := (hr D e.symm).1; omega)).trans h6⟩)
      ⟨rfl, b3', b2', hB1, Nat.le_refl _, hK1⟩
      (fun x a' Z => ∃ Bx, W1.heap.size ≤ Bx ∧ Z.heap[Bx]? = some (.cells (.int .i64 (x.m : Int) :: bys x.1.f1).toArray 53 (0, 0)) ∧ a' = { tmps := #[.slice A ys.length cap, undef, .pointer (some ⟨w.heap.size, 0, none⟩), .pointer (some ⟨w.heap.size + 1, 0, none⟩), .pointer (some ⟨w.heap.size + 1 + 1, 0, none⟩), undef, undef, .pointer (some ⟨Bx, 0, none⟩), .slice A ys.length cap, .func (.func 38) #[] #[.pointer (some ⟨w.heap.size + 1 + 1 + 1, 0, none⟩)], undef, undef, undef, undef, undef, undef, undef, undef, undef, undef, undef, undef, undef, undef, undef, .slice A ys.length cap, .func (.func 38) #[] #[.pointer (some ⟨W.heap.size, 0, none⟩)], .agg (.int .i64 (x.m : Int) :: bys x.1.f1).toArray, .bool true, undef, undef, undef, undef, undef, undef, undef], defers := [] })
      (fun x a' s X Y row hs hg hr => by obtain ⟨Bx, h1, h2, h3⟩ := hs; exact ⟨Bx, h1, keep_block h2 hg hr, h3⟩)
      ?assign2 ?body2 ?done2 ?stop2)
    case assign2 =>
      intro l pre x U K hI hK
      have hsp := x.spec
      have he : encE x.1 = #[.agg (.int .i64 (x.m : Int) :: bys x.1.f1).toArray, .bool true] := by
        unfold encE; rw [pad16_of _ hsp.2.2, x.2, x.m_eq]
      rw [he]
      have hout : ¬ LetsOut (Exit.then K (fun _ _ _ => False)) := fun ⟨_, _, h⟩ => h
      refine plain_in (by rfl) hout ?_
      simp only [List.zip_toArray, List.zip_cons_cons, List.zip_nil_right, List.foldl_toArray, List.foldl_cons, List.foldl_nil, List.setIfInBounds_toArray, List.set_cons_zero, List.set_cons_succ]
      have hl17 : (Value.int .i64 (x.m : Int) :: bys x.1.f1).length = 17 := by rw [List.length_cons, bys_len, hsp.2.2]
      have H17 := Lib.hid hl17
      have hone : ∀ v ∈ Value.int .i64 (x.m : Int) :: bys x.1.f1, v.oneCell' = true := eq_one _ _
      have HK2 := Lib.hid hK
      have HI := Lib.hid hI
      clear hl17 hsp he hK hI hK1
      go_wp2_with (first | (refine wpList_store_row rfl 53 _ _ rfl U.heap.size (.int .i64 (x.m : Int) :: bys x.1.f1) _ 53 rfl rfl (blk_new rfl) (by rw [H17.out]; rfl) (by rw [H17.out]; exact size53) hone ?_; intro w1 g1 g2 g3 g4))
      obtain ⟨i0, i1, i2, i4, i5, i6⟩ := HI.out
      have hwW := i4.size
      have hB1 : Below w.heap.size U w1 := g4 _ _ hwW ((Below.refl _ _).alloc hwW _)
      have hn : ∀ k, k < U.heap.size → w1.heap[k]? = U.heap[k]? := fun k hk => (g2 k (by omega)).trans (Below.heap_alloc _ _ _ hk)
      exact HK2.out _ _ ((keeps_of_below ((Below.refl _ U).alloc (Nat.le_refl _) _) _).trans (keeps_of_cells (blk_new rfl) g2 g3 _)) hB1
        ⟨i0, (hn _ (by omega)).trans i1, (hn _ (by omega)).trans i2, i4.trans hB1, by rw [g3]; simp; omega, (hn _ (by omega)).trans i6⟩ ⟨U.heap.size, i5, g1, rfl⟩
    case body2 =>
      rintro l pre x a' U hl hrec ⟨hall, bL, bR, hB2, hz2, hK2⟩ ⟨Bx, hBx, hx, rfl⟩ hlen
      have hwW := hB2.size
      have hxs := x.spec
      have hmx := x.m_lt
      have hll := lead_lt x.m hmx
      have hi17 : (Try.prog.info? 53).map (·.size) = some (Value.int .i64 (x.m : Int) :: bys x.1.f1).length := by rw [List.length_cons, bys_len, hxs.2.2]; exact size53
      have hand := i64_and_nat x.m a (by omega) (by omega)
      have c0 : U.cell? ⟨Bx, 0, none⟩ = some (.int .i64 (x.m : Int)) := (cell_of_row U _ 0 _ 53 (0, 0) hx).trans (by simp)
      have cL := bL.cell
      have HX := Lib.hid hx
      have HI17 := Lib.hid hi17
      have HAND := Lib.hid hand
      have HALL := Lib.hid hall
      have BL2 := Lib.hid bL
      have BR2 := Lib.hid bR
      have HK2 := Lib.hid hK2
      clear hx hi17 hand hall bL bR hK2 hrec hxs hK1 b5' b2' b3'
      refine wpIn_block ?_
      refine wpIn_seq_k (fun K1 hK1 => ?_)
      have hout : ¬ LetsOut (Exit.then K1 (Exit.inBlock 3 (ownPostG W1.heap.size (Below w.heap.size)
        (fun (pre : List FRow) W => (pre.all fun x => x.m &&& a == lead x.m) = true ∧ Boxed W (w.heap.size + 1) 3 (.int .i64 (a : Int)) ∧ Boxed W w.heap.size 4 (.bool false) ∧ Below w.heap.size w W ∧ W1.heap.size ≤ W.heap.size ∧ W.heap[D]? = some (.deferred (some [])))
        (fun c (pre : List FRow) W => c = .ret ∧ (pre.all fun x => x.m &&& a == lead x.m) = false ∧ Boxed W w.heap.size 4 (.bool false) ∧ Below w.heap.size w W ∧ W1.heap.size ≤ W.heap.size ∧ W.heap[D]? = some (.deferred (some []))) (pre ++ [x]) U))) := fun ⟨_, _, h⟩ => h
      refine start_in (m := 7) (S := (fun V => V.cell? ⟨Bx, 0, none⟩ = some (.int .i64 (x.m : Int)) ∧ V.cell? ⟨w.heap.size + 1, 0, none⟩ = some (.int .i64 (a : Int)) ∧ V.heap[Bx]? = some (.cells (.int .i64 (x.m : Int) :: bys x.1.f1).toArray 53 (0, 0)) ∧ Below U.heap.size U V)) (ds := []) #[false, false, false, false, false, false, false] (by kernel_rfl) (by rfl) hout rfl rfl ⟨c0, cL, HX.out, (Below.refl _ _).drew⟩ (fun hHeld => ?_)
      refine pure_ (i := 0) (N := some 29) (v := ?_) (a' := ?_) #[true, false, false, false, false, false, false] rfl rfl (by kernel_rfl) (fun _ _ _ h => h) (Or.inl ⟨by rfl, ?_⟩) ?_ ?_
      rotate_left
      · intro w'
        go_simp
        with_reducible rfl
      rotate_left
      · simp only [Act.put, List.setIfInBounds_toArray, List.set_cons_zero, List.set_cons_succ, i64_w, i32_w]
        rfl
      refine take_ (i := 1) (N := some 30) (v := ?_) (a' := ?_) #[true, true, false, false, false, false, false] rfl rfl (by kernel_rfl) (fun _ _ _ h => h) (Or.inl ⟨by rfl, ?_⟩) hHeld ?_ ?_
      rotate_left
      · rintro w' ⟨s0, s1, s2, s3⟩
        go_simp
        with_reducible rfl
      rotate_left
      · simp only [Act.put, List.setIfInBounds_toArray, List.set_cons_zero, List.set_cons_succ, i64_w, i32_w]
        rfl
      refine take_ (i := 2) (N := some 31) (v := ?_) (a' := ?_) #[true, true, true, false, false, false, false] rfl rfl (by kernel_rfl) (fun _ _ _ h => h) (Or.inl ⟨by rfl, ?_⟩) hHeld ?_ ?_
      rotate_left
      · rintro w' ⟨s0, s1, s2, s3⟩
        go_simp
        with_reducible rfl
      rotate_left
      · simp only [Act.put, List.setIfInBounds_toArray, List.set_cons_zero, List.set_cons_succ, i64_w, i32_w]
        rfl
      refine pure_ (i := 3) (N := some 32) (v := ?_) (a' := ?_) #[true, true, true, true, false, false, false] rfl rfl (by kernel_rfl) (fun _ _ _ h => h) (Or.inl ⟨by rfl, ?_⟩) ?_ ?_
      rotate_left
      · intro w'
        go_simp
        with_reducible rfl
      rotate_left
      · simp only [Act.put, List.setIfInBounds_toArray, List.set_cons_zero, List.set_cons_succ, i64_w, i32_w]
        rfl
      refine take_ (i := 4) (N := some 33) (v := _) (a' := ?_) #[true, true, true, true, true, false, false] rfl rfl (by kernel_rfl) (fun _ _ _ h => h) (row_if (by rfl) 53 _ rfl Bx rfl (.int .i64 (x.m : Int) :: bys x.1.f1) 53 _ (fun _ hS => hS.2.2.1) Try.underlying53 rfl HI17.out) hHeld ?_ ?_
      rotate_left
      · simp only [Act.put, List.setIfInBounds_toArray, List.set_cons_zero, List.set_cons_succ, i64_w, i32_w]
        rfl
      refine one_ (i := 5) (N := some 34) #[true, true, true, true, true, true, false] rfl rfl (by kernel_rfl) (by decide) (fun K hK => ?_)
      refine goes_ Try.func32 (by kernel_rfl) rfl #[.agg (.int .i64 (x.m : Int) :: bys x.1.f1).toArray] (by rfl) rfl rfl (by simp only [List.map_toArray, List.map_cons, List.map_nil]; rfl) ?_
      refine (leading_calls x.m hmx _ _).mono ?_
      rintro e u ⟨rfl, hb⟩
      refine ⟨_, rfl, ?_⟩
      obtain ⟨s0, s1, s2, s3⟩ := hHeld
      have t3 := s3.trans (hb.mono s3.size)
      refine hK.out _ _ ⟨(hb.cell (World.block_lt_of_cell? _ _ s0)).trans s0, (hb.cell (World.block_lt_of_cell? _ _ s1)).trans s1, (hb.block _ (Array.getElem?_eq_some_iff.1 s2).1).trans s2, t3⟩ (fun hHeld => ?_)
      clear hK K s0 s1 s2 s3 t3 hb
      refine norm_ (a' := ?_) ?_ ?_
      rotate_left
      · show Act.put _ (some 34) _ = _
        simp only [Act.put, List.setIfInBounds_toArray, List.set_cons_zero, List.set_cons_succ, i64_w, i32_w]
        rfl
      refine pure_ (i := 6) (N := some 35) (v := ?_) (a' := ?_) #[true, true, true, true, true, true, true] rfl rfl (by kernel_rfl) (fun _ _ _ h => h) (Or.inl ⟨by rfl, ?_⟩) ?_ ?_
      rotate_left
      · intro w'
        go_simp
        with_reducible rfl
      rotate_left
      · simp only [Act.put, List.setIfInBounds_toArray, List.set_cons_zero, List.set_cons_succ, i64_w, i32_w]
        rfl
      refine done_ (by kernel_rfl) ?_
      obtain ⟨s0, s1, s2, s3⟩ := hHeld
      refine hK1 _ _ ?_
      have hu := s3.size
      have hKu := (s3.block D (Array.getElem?_eq_some_iff.1 HK2.out).1).trans HK2.out
      by_cases hbit : x.m &&& a = lead x.m
      · refine wpIn_cond_false (by show Value.bool _ = _; rw [HAND.out, hbit]; simp) ?_
        refine wpIn_skip ?_
        refine ⟨keeps_of_below s3 _, s3.mono hwW, ?_⟩
        dsimp only
        refine ⟨?_, boxed_block BL2.out s3, boxed_block BR2.out s3, hB2.trans (s3.mono hwW), by omega, hKu⟩
        rw [List.all_append, HALL.out]
        simp [hbit]
      · refine wpIn_cond_true (by show Value.bool _ = _; rw [HAND.out]; congr 1; rw [bne_iff_ne]; omega) ?_
        have bR' := boxed_block BR2.out s3
        have cR := bR'.cell
        have fR := bR'.frozen
        have BR' := Lib.hid bR'
        have HU := Lib.hid s3
        have HKU := Lib.hid hKu
        clear s0 s1 s2 s3 bR' hKu hout
        refine wpIn_seq_k (fun K3 hK3 => ?_)
        refine plain_in (by rfl) (fun ⟨_, _, h⟩ => h) ?_
        go_wp2
        refine wpIn_ret ?_
        have hbw := (HU.out.mono hwW).setCell (p := ⟨w.heap.size, 0, none⟩) (Nat.le_refl _) (.bool false)
        refine ⟨(keeps_of_below HU.out _).trans (keeps_set BR'.out _ _), rfl, ?_, BR'.out.set _, hB2.trans hbw, ?_, ?_⟩
        · rw [List.all_append, HALL.out]
          simp [hbit]
        · rw [World.size_setCell]; omega
        · rw [Below.heap_setCell _ _ _ _ (by simp; omega)]; exact HKU.out
    case done2 =>
      rintro D2 xs U hD2 hxs ⟨hall, bL, bR, hB2, hz2, hK2⟩ hKm
      subst hxs
      have hans : validS ys = true := by rw [HVS.out]; exact hall
      have cR := bR.cell
      have fR := bR.frozen
      have BR2 := Lib.hid bR
      have HK2 := Lib.hid hK2
      have HKm := Lib.hid hKm
      have hUs := hB2.size
      clear bL bR hK2 hKm hK1 b5' b2' b3' hall
      go_wp2
      have hsz2 := World.size_setCell U ⟨w.heap.size, 0, none⟩ (.bool true)
      have hBw := hB2.setCell (p := ⟨w.heap.size, 0, none⟩) (Nat.le_refl _) (.bool true)
      have hm2 : (U.setCell ⟨w.heap.size, 0, none⟩ (.bool true)).heap[D2]? = some (.deferred (some [])) := (Below.heap_setCell _ _ _ _ (by simp; omega)).trans HKm.out
      have hm1 : (U.setCell ⟨w.heap.size, 0, none⟩ (.bool true)).heap[D]? = some (.deferred (some [])) := (Below.heap_setCell _ _ _ _ (by simp; omega)).trans HK2.out
      have hr2 := BR2.out.set (.bool true)
      generalize U.setCell ⟨w.heap.size, 0, none⟩ (.bool true) = V at *
      have hm1' : (V.putObj D2 (.deferred none)).heap[D]? = some (.deferred (some [])) := (World.putObj_heap_other (by omega)).trans hm1
      refine ⟨by simp, .inl ⟨_, _, rfl, run_takeDeferred hm2, by simp, .inl ⟨_, _, rfl, run_takeDeferred hm1', ?_⟩⟩⟩
      have bR3 : Boxed ((V.putObj D2 (.deferred none)).putObj D (.deferred none)) w.heap.size 4 (.bool true) := (World.putObj_heap_other (by omega)).trans ((World.putObj_heap_other (by omega)).trans hr2)
      have cR3 := bR3.cell
      refine ⟨.bool true, by simp [results, Try.results20, go_sem, cR3], by rw [hans], ?_⟩
      exact (hBw.trans (belowK_b (w := w) (Nat.le_refl _) V D2 _ _ (by omega) hm2 rfl rfl)).trans (belowK_b (w := w) (Nat.le_refl _) _ D _ _ (by omega) hm1' rfl rfl)
    case stop2 =>
      rintro D2 c pre U hD2 hpre ⟨rfl, hall, bR, hB2, hz2, hK2⟩ hKm
      refine wpIn_ret ?_
      have hans : validS ys = false := by
        rw [HVS.out]
        obtain ⟨r, hr'⟩ := hpre
        rw [← hr', List.all_append, hall]
        rfl
      have hm1' : (U.putObj D2 (.deferred none)).heap[D]? = some (.deferred (some [])) := (World.putObj_heap_other (by omega)).trans hK2
      refine ⟨by simp, .inl ⟨_, _, rfl, run_takeDeferred hKm, by simp, .inl ⟨_, _, rfl, run_takeDeferred hm1', ?_⟩⟩⟩
      have bR3 : Boxed ((U.putObj D2 (.deferred none)).putObj D (.deferred none)) w.heap.size 4 (.bool false) := (World.putObj_heap_other (by omega)).trans ((World.putObj_heap_other (by omega)).trans bR)
      have cR3 := bR3.cell
      refine ⟨.bool false, by simp [results, Try.results20, go_sem, cR3], by rw [hans], ?_⟩
      exact (hB2.trans (belowK_b (w := w) (Nat.le_refl _) U D2 _ _ (by omega) hKm rfl rfl)).trans (belowK_b (w := w) (Nat.le_refl _) _ D _ _ (by omega) hm1' rfl rfl)
  case stop =>
    rintro D c pre W hD hpre ⟨rfl, hv, bR, hB, hz⟩ hK
    refine wpIn_ret ?_
    have hall : validS zs = false := by
      obtain ⟨r, rfl⟩ := hpre
      unfold validS
      rw [val1_append, hv]
      rfl
    refine ⟨by simp, .inl ⟨_, _, rfl, run_takeDeferred hK, ?_⟩⟩
    have bR1 : Boxed (W.putObj D (.deferred none)) w.heap.size 4 (.bool false) := (World.putObj_heap_other (by omega)).trans bR
    have cR := bR1.cell
    refine ⟨.bool false, by simp [results, Try.results20, go_sem, cR], by rw [hall], ?_⟩
    exact hB.trans (belowK_b (w := w) (Nat.le_refl _) W D _ _ (by omega) hK rfl rfl)
end Go.Proofs.Ytknlbeojdmeljaa.H
