-- cut by shake.py (own program) out of this session's texts
import Derived.Test.YtknlbeojdmeljaaDoorCFM3
namespace Go.Proofs.YtknlbeojdmeljaaDoor.P
open Go.RowKit Go.Proofs.YtknlbeojdmeljaaDoorW.PrintWords Go.Proofs.YtknlbeojdmeljaaDoorW.PrintLast Go.Proofs.YtknlbeojdmeljaaDoorW.PrintMore
attribute [local go_sem] max2_int min2_int max_two min_two max_three min_three max_four min_four   -- for this text's walks alone
set_option linter.unusedVariables false
set_option linter.unusedSimpArgs false
def slotmeshref34_Receive.f (k : Nat) (l0 : List (S25)) (a1_0 : Int) (a1_1 : Int) (l1_2 : List Int) (l1_3 : List Int) : Option ((List (S25)) × Bool × Int) := (slotmeshref34_Valid.f a1_0 a1_1 l1_2 l1_3).bind fun t216 => (if t216 = true then ((slotmeshref34_Set.f k a1_1).bind fun t217 => ((slotmeshref33_Add.f k l0 t217 l1_2).bind fun bt218 => (some (bt218.1, bt218.2.1, bt218.2.2)))) else (some (([] : List (S25)), false, 1)))
def slotmeshref34_Receive.T4 : Bool × List (List Nat × List Nat) := (true, [([], []), ([], []), ([1], [1]), ([2], [2]), ([], []), ([4], [4]), ([3, 5], [3, 5]), ([0, 6, 3], [0, 6]), ([7], [7]), ([7], [7]), ([7], [7]), ([8, 7, 0, 1, 2, 3, 4, 5, 6, 7, 8, 9, 10], [8]), ([9, 11, 0, 1, 2, 3, 4, 5, 6, 7, 8, 9, 10, 11], [9]), ([10, 12, 0, 1, 2, 3, 4, 5, 6, 7, 8, 9, 10, 11, 12], [10])])
def slotmeshref34_Receive.B4 : List Nat := [0, 0, 2, 6, 0, 16, 62, 127, 255, 255, 255, 2047, 4095, 8191]
theorem slotmeshref34_Receive.tab4 : rtab .any (opsOf Tryd.f15 4) = slotmeshref34_Receive.T4 := by kernel_rfl
theorem slotmeshref34_Receive.bits4 : waitsOk slotmeshref34_Receive.T4.2 slotmeshref34_Receive.B4 = true := by kernel_rfl
set_option maxHeartbeats 8000000 in
set_option maxRecDepth 100000 in
theorem slotmeshref34_Receive.calls (k : Nat) (A0 : Option Addr) (c0 : Nat) (l0 : List (S25)) (a1_0 : Int) (a1_1 : Int) (P1_2_ : Nat → Prop) (A1_2 : Option Addr) (c1_2 : Nat) (l1_2 : List Int) (A1_3 : Option Addr) (c1_3 : Nat) (l1_3 : List Int) (r1 : List (S25)) (r2 : Bool) (r3 : Int) (w : World) (hr0 : Kd.C k25 w A0 l0.length l0) (hc0 : l0.length ≤ c0) (hs1_2 : Kd.V (Kd.int .u8) 5 w w.heap.size (fun k_ => P1_2_ k_) (.slice A1_2 l1_2.length c1_2) l1_2) (hr1_3 : Kd.C (Kd.int .u64) w A1_3 l1_3.length l1_3) (hc1_3 : l1_3.length ≤ c1_3) (h : slotmeshref34_Receive.f k l0 a1_0 a1_1 l1_2 l1_3 = some (r1, r2, r3)) :
    Calls Tryd.prog 15 #[.slice A0 l0.length c0, .agg #[.int .i64 a1_0, .int .i64 a1_1, .slice A1_2 l1_2.length c1_2, .slice A1_3 l1_3.length c1_3]] w fun e w' => ∃ v0_ : Value, e = .returned (.tuple #[v0_, .bool r2, .int .i64 r3]) ∧ Kd.N k25 52 w' w.heap.size (fun k_ => (P1_2_ k_ ∨ w.heap.size ≤ k_)) v0_ r1 ∧ Below w.heap.size w w' := by
  have hu26 := Tryd.underlying26
  have hu52 := Tryd.underlying52
  have HR0 := Aside0.mk hr0
  have HC0 := Aside0.mk hc0
  clear hr0 hc0
  have HO1_2 := Aside0.mk (show Kd.V (Kd.int .u8) 5 w w.heap.size (fun k_ => (P1_2_ k_ ∨ w.heap.size ≤ k_)) (.slice A1_2 l1_2.length c1_2) l1_2 from Kd.V_mono hs1_2 (fun k_ hk => .inl hk))
  have HR1_3 := Aside0.mk hr1_3
  have HC1_3 := Aside0.mk hc1_3
  clear hr1_3 hc1_3
  have HB := Aside0.mk (Below.refl w.heap.size w)
  have H : ((slotmeshref34_Valid.f a1_0 a1_1 l1_2 l1_3).bind fun t216 => (if t216 = true then ((slotmeshref34_Set.f k a1_1).bind fun t217 => ((slotmeshref33_Add.f k l0 t217 l1_2).bind fun bt218 => (some (bt218.1, bt218.2.1, bt218.2.2)))) else (some (([] : List (S25)), false, 1)))) = some (r1, r2, r3) := h
  clear h
  replace H := Option.bind_eq_some_iff.mp H
  obtain ⟨t216, A30, H⟩ := H
  replace H : (if t216 = true then ((slotmeshref34_Set.f k a1_1).bind fun t217 => ((slotmeshref33_Add.f k l0 t217 l1_2).bind fun bt218 => (some (bt218.1, bt218.2.1, bt218.2.2)))) else (some (([] : List (S25)), false, 1))) = some (r1, r2, r3) := H
  have A3 := Aside0.mk A30
  clear A30
  by_cases c4 : t216 = true
  · subst c4
    have H1 : ((slotmeshref34_Set.f k a1_1).bind fun t217 => ((slotmeshref33_Add.f k l0 t217 l1_2).bind fun bt218 => (some (bt218.1, bt218.2.1, bt218.2.2)))) = some (r1, r2, r3) := by rw [if_pos rfl] at H; exact H
    clear H
    have H := H1
    clear H1
    replace H := Option.bind_eq_some_iff.mp H
    obtain ⟨t217, A50, H⟩ := H
    replace H : ((slotmeshref33_Add.f k l0 t217 l1_2).bind fun bt218 => (some (bt218.1, bt218.2.1, bt218.2.2))) = some (r1, r2, r3) := H
    have A5 := Aside0.mk A50
    clear A50
    replace H := Option.bind_eq_some_iff.mp H
    obtain ⟨⟨t218, t221, t222⟩, A60, H⟩ := H
    replace H : (some (t218, t221, t222)) = some (r1, r2, r3) := H
    have A6 := Aside0.mk A60
    clear A60
    simp only [Option.some.injEq, Prod.mk.injEq] at H
    obtain ⟨rfl, rfl, rfl⟩ := H
    go_enter Tryd.func15, Tryd.ntmps15
    try go_wp2_with (first | ((with_reducible refine gate_dst (N := 3) rfl ?_); refine box_event ?hg (N := 3) ?hd (cs := #[.int .i64 a1_0, .int .i64 a1_1, .slice A1_2 l1_2.length c1_2, .slice A1_3 l1_3.length c1_3]) (t := 26) ?hr ?_; (case hd => rfl); (case hg => rfl); (case hr => first | (go_simp; done) | (go_simp; rfl)); intro gb215 hg w7 hbox hb; have n0_ := Aside0.mk (Kd.V_below (Kd.V_elderB (by (with_reducible repeat (first | apply Kd.V_alloc | apply Kd.V_drewN | apply Kd.V_drew)); exact HO1_2.out) gb215 (Nat.le_of_eq hg.symm)) hb); have n1_ := Aside0.mk (below_step (by repeat (first | (with_reducible first | exact HB.out | apply below_alloc | apply pw_below_drewN | apply below_drew1) | exact HB.out)) hb); have n2_ := Aside0.mk (hbox); have n3_ := Aside0.mk ((by rw [hg]; exact (below_size (by repeat (first | (with_reducible first | exact HB.out | apply below_alloc | apply pw_below_drewN | apply below_drew1) | exact HB.out))) : w.heap.size ≤ gb215)); have n4_ := Aside0.mk ((by rw [hg]; exact (below_size (by repeat (first | (with_reducible first | exact HB.out | apply below_alloc | apply pw_below_drewN | apply below_drew1) | exact HB.out))) : w.heap.size ≤ gb215)); clear HO1_2; clear HB; have HO1_2 := n0_; have HB := n1_; have BK215 := n2_; have GW215 := n3_; have GE215 := n4_; clear n0_ n1_ n2_ n3_ n4_; clear hb hbox hg; have hcz8_0 : w7.cell? ⟨gb215, 0, none⟩ = some (.int .i64 a1_0) := (blk_cell BK215.out 0).trans rfl; have hcz8_1 : w7.cell? ⟨gb215, 1, none⟩ = some (.int .i64 a1_1) := (blk_cell BK215.out 1).trans rfl; have hcz8_2 : w7.cell? ⟨gb215, 2, none⟩ = some (.slice A1_2 l1_2.length c1_2) := (blk_cell BK215.out 2).trans rfl; have hcz8_3 : w7.cell? ⟨gb215, 3, none⟩ = some (.slice A1_3 l1_3.length c1_3) := (blk_cell BK215.out 3).trans rfl; have hfz8_0 := blk_frozen BK215.out 0; have hfz8_1 := blk_frozen BK215.out 1; have hfz8_2 := blk_frozen BK215.out 2; have hfz8_3 := blk_frozen BK215.out 3) | ((with_reducible refine gate_callee (f := 35) rfl ?_); refine goesL_ (some 9) rfl rfl Tryd.func35 (by kernel_rfl) rfl #[.agg #[.int .i64 a1_0, .int .i64 a1_1, .slice A1_2 l1_2.length c1_2, .slice A1_3 l1_3.length c1_3]] rfl (by (try simp only [List.map_toArray, List.map_cons, List.map_nil]); first | done | rfl | (simp only [List.length_drop, List.length_take]; rfl)) ?_; (with_reducible refine (slotmeshref34_Valid.calls a1_0 a1_1 _ _ l1_2 _ _ l1_3 true _ ?side1 ?side2 ?side3 ?side4 A3.out).mono ?_); (case side1 => repeat (first | exact (Kd.V_reads' HO1_2.out).2.2 | (with_reducible refine Kd.C_alloc ?_ _) | (with_reducible refine Kd.C_drewN ?_ _) | (with_reducible refine Kd.C_drew ?_))); (case side2 => exact (Kd.V_reads' HO1_2.out).2.1); (case side3 => repeat (first | exact (Kd.C_below HR1_3.out HB.out) | (with_reducible refine Kd.C_alloc ?_ _) | (with_reducible refine Kd.C_drewN ?_ _) | (with_reducible refine Kd.C_drew ?_))); (case side4 => exact HC1_3.out); rintro e w9 ⟨rfl, hb⟩; refine ⟨_, rfl, ?_⟩; have n0_ := Aside0.mk (Kd.V_below (by (with_reducible repeat (first | apply Kd.V_alloc | apply Kd.V_drewN | apply Kd.V_drew)); exact HO1_2.out) hb); have n1_ := Aside0.mk (blk_below (g := gb215) (o := .cells #[.int .i64 a1_0, .int .i64 a1_1, .slice A1_2 l1_2.length c1_2, .slice A1_3 l1_3.length c1_3] 26 (0, 0)) (by (with_reducible repeat (first | refine blk_drewN ?_ _ | refine blk_drew ?_ | refine blk_alloc ?_ _)); exact BK215.out) hb); have n2_ := Aside0.mk (below_step (by repeat (first | (with_reducible first | exact HB.out | apply below_alloc | apply pw_below_drewN | apply below_drew1 | refine below_set ?_ GE215.out) | exact HB.out)) hb); clear HO1_2; clear BK215; clear HB; have HO1_2 := n0_; have BK215 := n1_; have HB := n2_; clear n0_ n1_ n2_; (try clear hb); (try clear hb2); (try clear hk); (try clear hi)))
    have n0_ := Aside0.mk (Kd.V_drew HO1_2.out)
    have n1_ := Aside0.mk (blk_drew BK215.out)
    have n2_ := Aside0.mk (below_drew1 HB.out)
    clear HO1_2
    clear BK215
    clear HB
    have HO1_2 := n0_
    have BK215 := n1_
    have HB := n2_
    clear n0_ n1_ n2_
    refine start_ (n := 14) (S := fun w' => w'.cell? ⟨gb215, 0, none⟩ = some (.int .i64 a1_0) ∧ w'.cell? ⟨gb215, 1, none⟩ = some (.int .i64 a1_1) ∧ w'.cell? ⟨gb215, 2, none⟩ = some (.slice A1_2 l1_2.length c1_2) ∧ w'.cell? ⟨gb215, 3, none⟩ = some (.slice A1_3 l1_3.length c1_3)) (ds := []) (bl 14 0) (by kernel_rfl) rfl rfl ⟨(blk_cell BK215.out 0).trans rfl, (blk_cell BK215.out 1).trans rfl, (blk_cell BK215.out 2).trans rfl, (blk_cell BK215.out 3).trans rfl⟩ (fun hHeld => ?_); refine with_tabW slotmeshref34_Receive.tab4 slotmeshref34_Receive.bits4 (fun HT_ HW_ => ?_)
    generalize w9.drew = w10 at HO1_2 BK215 HB hHeld ⊢
    refine pU 0 12 (bl 14 1) (any_of HT_.out (by kernel_rfl)) (h := ?_)
    refine pU 1 13 (bl 14 3) (any_of HT_.out (by kernel_rfl)) (h := ?_)
    refine pU 4 16 (bl 14 19) (any_of HT_.out (by kernel_rfl)) (h := ?_)
    refine tU 2 14 (bl 14 23) (take_ofW HT_.out HW_.out (by kernel_rfl)) hHeld (hy := by rintro w' ⟨s0, s1, s2, s3⟩; go_simp; with_reducible rfl) (h := ?_)
    refine tU 5 17 (bl 14 55) (take_ofW HT_.out HW_.out (by kernel_rfl)) hHeld (hy := by rintro w' ⟨s0, s1, s2, s3⟩; go_simp; with_reducible rfl) (h := ?_)
    refine one_ (i := 3) (N := some 15) (bl 14 63) rfl rfl (one_of HT_.out (by kernel_rfl)) (by decide) (fun K hK => ?_)
    refine goes_ Tryd.func19 (by kernel_rfl) rfl #[.int .i64 a1_1] (by rfl) rfl rfl (by (try simp only [List.map_toArray, List.map_cons, List.map_nil]); first | done | rfl | (simp only [List.length_drop, List.length_take]; rfl)) ?_
    with_reducible refine (slotmeshref34_Set.calls k a1_1 t217 _ A5.out).mono ?_
    rintro e w' ⟨rfl, ⟨nd, rfl⟩⟩
    refine ⟨_, rfl, ?_⟩
    refine hK.out _ _ ⟨(blk_cell BK215.out 0).trans rfl, (blk_cell BK215.out 1).trans rfl, (blk_cell BK215.out 2).trans rfl, (blk_cell BK215.out 3).trans rfl⟩ (fun hHeld => ?_)
    clear hK K
    refine nU 15 (h := ?_)
    refine pU 6 18 (bl 14 127) (any_of HT_.out (by kernel_rfl)) (h := ?_)
    refine one_ (i := 7) (N := some 19) (bl 14 255) rfl rfl (one_of HT_.out (by kernel_rfl)) (by decide) (fun K hK => ?_)
    refine goes_ Tryd.func36 (by kernel_rfl) rfl #[.slice A0 l0.length c0, .agg #[.int .i64 t217, .slice A1_2 l1_2.length c1_2]] (by rfl) rfl rfl (by (try simp only [List.map_toArray, List.map_cons, List.map_nil]); first | done | rfl | (simp only [List.length_drop, List.length_take]; rfl)) ?_
    with_reducible refine (slotmeshref33_Add.calls k _ _ l0 t217 (fun k_ => ((P1_2_ k_ ∨ w.heap.size ≤ k_) ∧ k_ ≠ gb215)) _ _ l1_2 t218 t221 t222 _ ?side1 ?side2 ?side3 A6.out).mono ?_
    (case side1 => repeat (first | exact (Kd.C_below HR0.out (by repeat (first | (with_reducible first | exact HB.out | apply below_alloc | apply pw_below_drewN | apply below_drew1 | refine below_set ?_ GE215.out) | exact HB.out))) | (with_reducible refine Kd.C_alloc ?_ _) | (with_reducible refine Kd.C_drewN ?_ _) | (with_reducible refine Kd.C_drew ?_)))
    (case side2 => exact HC0.out)
    (case side3 => exact HO1_2.out)
    rintro e w11 ⟨v219, rfl, ho0, hb⟩
    refine ⟨_, rfl, ?_⟩
    have n0_ := Aside0.mk (Kd.V_elder' (by (with_reducible repeat (first | apply Kd.V_alloc | apply Kd.V_drewN | apply Kd.V_drew)); exact HO1_2.out) (Kd.N_base ho0) hb)
    have n1_ := Aside0.mk (Kd.N_lower (Kd.N_mono (ok' := fun k_ => (P1_2_ k_ ∨ w.heap.size ≤ k_) ∧ k_ ≠ gb215) ho0 (fun k_ hk_ => ⟨Or.elim hk_ (fun hs_ => hs_.1) (fun hn_ => (.inr (Nat.le_trans (below_size (by repeat (first | (with_reducible first | exact HB.out | apply below_alloc | apply pw_below_drewN | apply below_drew1 | refine below_set ?_ GE215.out) | exact HB.out))) hn_))), Or.elim hk_ (fun hs_ => hs_.2) (fun hn_ => (Kd.freshB (g := gb215) (o := .cells #[.int .i64 a1_0, .int .i64 a1_1, .slice A1_2 l1_2.length c1_2, .slice A1_3 l1_3.length c1_3] 26 (0, 0)) (by (with_reducible repeat (first | refine blk_drewN ?_ _ | refine blk_drew ?_ | refine blk_alloc ?_ _)); exact BK215.out) k_ hn_))⟩)) (below_size (by repeat (first | (with_reducible first | exact HB.out | apply below_alloc | apply pw_below_drewN | apply below_drew1 | refine below_set ?_ GE215.out) | exact HB.out))))
    have n2_ := Aside0.mk (blk_below (g := gb215) (o := .cells #[.int .i64 a1_0, .int .i64 a1_1, .slice A1_2 l1_2.length c1_2, .slice A1_3 l1_3.length c1_3] 26 (0, 0)) (by (with_reducible repeat (first | refine blk_drewN ?_ _ | refine blk_drew ?_ | refine blk_alloc ?_ _)); exact BK215.out) hb)
    have n3_ := Aside0.mk (below_step (by repeat (first | (with_reducible first | exact HB.out | apply below_alloc | apply pw_below_drewN | apply below_drew1 | refine below_set ?_ GE215.out) | exact HB.out)) hb)
    clear HO1_2
    clear BK215
    clear HB
    have HO1_2 := n0_
    have HO220 := n1_
    have BK215 := n2_
    have HB := n3_
    clear n0_ n1_ n2_ n3_
    (try clear hb)
    (try clear hb2)
    (try clear hk)
    (try clear hi)
    (try clear ho0)
    refine hK.out _ _ ⟨(blk_cell BK215.out 0).trans rfl, (blk_cell BK215.out 1).trans rfl, (blk_cell BK215.out 2).trans rfl, (blk_cell BK215.out 3).trans rfl⟩ (fun hHeld => ?_)
    clear hK K
    refine nU 19 (h := ?_)
    refine pU 8 20 (bl 14 511) (any_of HT_.out (by kernel_rfl)) (h := ?_)
    refine pU 9 21 (bl 14 1023) (any_of HT_.out (by kernel_rfl)) (h := ?_)
    refine pU 10 22 (bl 14 2047) (any_of HT_.out (by kernel_rfl)) (h := ?_)
    refine pU 11 4 (bl 14 4095) (any_of HT_.out (by kernel_rfl)) (h := ?_)
    refine pU 12 5 (bl 14 8191) (any_of HT_.out (by kernel_rfl)) (h := ?_)
    refine pU 13 6 (bl 14 16383) (any_of HT_.out (by kernel_rfl)) (h := ?_)
    refine done_ (done_of HT_.out (by kernel_rfl)) ?_
    try go_wp2
    go_ret3
    exact ⟨_, by first | rfl | (simp [errW_none, errW_some] <;> rfl) | (simp [*, errW_none, errW_some] <;> rfl), by (with_reducible repeat (first | apply Kd.N_alloc | apply Kd.N_drewN | apply Kd.N_drew)); exact Kd.N_mono HO220.out (fun _ hk => hk.1), by repeat (first | (with_reducible first | exact HB.out | apply below_alloc | apply pw_below_drewN | apply below_drew1 | refine below_set ?_ GE215.out) | exact HB.out)⟩
  · replace c4 := Bool.eq_false_iff.mpr c4
    subst c4
    have H1 : (some (([] : List (S25)), false, 1)) = some (r1, r2, r3) := by rw [if_neg (show ¬ (false = true) by decide)] at H; exact H
    clear H
    have H := H1
    clear H1
    simp only [Option.some.injEq, Prod.mk.injEq] at H
    obtain ⟨rfl, rfl, rfl⟩ := H
    go_enter Tryd.func15, Tryd.ntmps15
    go_wp2_with (first | ((with_reducible refine gate_dst (N := 3) rfl ?_); refine box_event ?hg (N := 3) ?hd (cs := #[.int .i64 a1_0, .int .i64 a1_1, .slice A1_2 l1_2.length c1_2, .slice A1_3 l1_3.length c1_3]) (t := 26) ?hr ?_; (case hd => rfl); (case hg => rfl); (case hr => first | (go_simp; done) | (go_simp; rfl)); intro gb215 hg w12 hbox hb; have n0_ := Aside0.mk (Kd.V_below (Kd.V_elderB (by (with_reducible repeat (first | apply Kd.V_alloc | apply Kd.V_drewN | apply Kd.V_drew)); exact HO1_2.out) gb215 (Nat.le_of_eq hg.symm)) hb); have n1_ := Aside0.mk (below_step (by repeat (first | (with_reducible first | exact HB.out | apply below_alloc | apply pw_below_drewN | apply below_drew1) | exact HB.out)) hb); have n2_ := Aside0.mk (hbox); have n3_ := Aside0.mk ((by rw [hg]; exact (below_size (by repeat (first | (with_reducible first | exact HB.out | apply below_alloc | apply pw_below_drewN | apply below_drew1) | exact HB.out))) : w.heap.size ≤ gb215)); have n4_ := Aside0.mk ((by rw [hg]; exact (below_size (by repeat (first | (with_reducible first | exact HB.out | apply below_alloc | apply pw_below_drewN | apply below_drew1) | exact HB.out))) : w.heap.size ≤ gb215)); clear HO1_2; clear HB; have HO1_2 := n0_; have HB := n1_; have BK215 := n2_; have GW215 := n3_; have GE215 := n4_; clear n0_ n1_ n2_ n3_ n4_; clear hb hbox hg; have hcz13_0 : w12.cell? ⟨gb215, 0, none⟩ = some (.int .i64 a1_0) := (blk_cell BK215.out 0).trans rfl; have hcz13_1 : w12.cell? ⟨gb215, 1, none⟩ = some (.int .i64 a1_1) := (blk_cell BK215.out 1).trans rfl; have hcz13_2 : w12.cell? ⟨gb215, 2, none⟩ = some (.slice A1_2 l1_2.length c1_2) := (blk_cell BK215.out 2).trans rfl; have hcz13_3 : w12.cell? ⟨gb215, 3, none⟩ = some (.slice A1_3 l1_3.length c1_3) := (blk_cell BK215.out 3).trans rfl; have hfz13_0 := blk_frozen BK215.out 0; have hfz13_1 := blk_frozen BK215.out 1; have hfz13_2 := blk_frozen BK215.out 2; have hfz13_3 := blk_frozen BK215.out 3) | ((with_reducible refine gate_callee (f := 35) rfl ?_); refine goesL_ (some 9) rfl rfl Tryd.func35 (by kernel_rfl) rfl #[.agg #[.int .i64 a1_0, .int .i64 a1_1, .slice A1_2 l1_2.length c1_2, .slice A1_3 l1_3.length c1_3]] rfl (by (try simp only [List.map_toArray, List.map_cons, List.map_nil]); first | done | rfl | (simp only [List.length_drop, List.length_take]; rfl)) ?_; (with_reducible refine (slotmeshref34_Valid.calls a1_0 a1_1 _ _ l1_2 _ _ l1_3 false _ ?side1 ?side2 ?side3 ?side4 A3.out).mono ?_); (case side1 => repeat (first | exact (Kd.V_reads' HO1_2.out).2.2 | (with_reducible refine Kd.C_alloc ?_ _) | (with_reducible refine Kd.C_drewN ?_ _) | (with_reducible refine Kd.C_drew ?_))); (case side2 => exact (Kd.V_reads' HO1_2.out).2.1); (case side3 => repeat (first | exact (Kd.C_below HR1_3.out HB.out) | (with_reducible refine Kd.C_alloc ?_ _) | (with_reducible refine Kd.C_drewN ?_ _) | (with_reducible refine Kd.C_drew ?_))); (case side4 => exact HC1_3.out); rintro e w14 ⟨rfl, hb⟩; refine ⟨_, rfl, ?_⟩; have n0_ := Aside0.mk (Kd.V_below (by (with_reducible repeat (first | apply Kd.V_alloc | apply Kd.V_drewN | apply Kd.V_drew)); exact HO1_2.out) hb); have n1_ := Aside0.mk (blk_below (g := gb215) (o := .cells #[.int .i64 a1_0, .int .i64 a1_1, .slice A1_2 l1_2.length c1_2, .slice A1_3 l1_3.length c1_3] 26 (0, 0)) (by (with_reducible repeat (first | refine blk_drewN ?_ _ | refine blk_drew ?_ | refine blk_alloc ?_ _)); exact BK215.out) hb); have n2_ := Aside0.mk (below_step (by repeat (first | (with_reducible first | exact HB.out | apply below_alloc | apply pw_below_drewN | apply below_drew1 | refine below_set ?_ GE215.out) | exact HB.out)) hb); clear HO1_2; clear BK215; clear HB; have HO1_2 := n0_; have BK215 := n1_; have HB := n2_; clear n0_ n1_ n2_; (try clear hb); (try clear hb2); (try clear hk); (try clear hi)))
    go_ret3
    exact ⟨_, by first | rfl | (simp [errW_none, errW_some] <;> rfl) | (simp [*, errW_none, errW_some] <;> rfl), by first | exact Kd.S_nil _ _ _ _ _ | exact Kd.N_nil _ _ _ _ _ | exact Kd.V_nil _ _ _ _ _ | exact Kd.Q_nil _ _ _ _ _ | exact Kd.R_nil _ _ _ _ _, by repeat (first | (with_reducible first | exact HB.out | apply below_alloc | apply pw_below_drewN | apply below_drew1 | refine below_set ?_ GE215.out) | exact HB.out)⟩
mutual
def slotmeshref34_Page.j0 : Nat → List (S25) → Bool → Option (List Int × Bool)
  | 0, _, _ => none
  | k + 1, x0, x15 => if x15 = true then (some (([] : List Int), false)) else (slotmeshref34_Page.l0 k x0 ([] : List Int) 15)
def slotmeshref34_Page.l0 : Nat → List (S25) → List Int → Int → Option (List Int × Bool)
  | 0, _, _, _ => none
  | k + 1, x0, x5, x6 => if x6 ≥ 0 then (if 0 ≤ x6 then (if x6 < (x0.length : Int) then (if x5.length + ((rd_T25 x0 x6).f1).length < 140737488355328 then (slotmeshref34_Page.l0 k x0 (x5 ++ ((rd_T25 x0 x6).f1)) (wrap64 (x6 - 1))) else (none)) else (none)) else (none)) else (some (x5, true))
end
def slotmeshref34_Page.f (k : Nat) (l0 : List (S25)) : Option (List Int × Bool) := (slotmeshref33_Valid.f k l0).bind fun t223 => (if t223 = true then (slotmeshref34_Page.j0 k l0 ((l0.length : Int) != 16)) else (slotmeshref34_Page.j0 k l0 true))
set_option maxHeartbeats 8000000 in
set_option maxRecDepth 100000 in
theorem slotmeshref34_Page.calls (k : Nat) (A0 : Option Addr) (c0 : Nat) (l0 : List (S25)) (r1 : List Int) (r2 : Bool) (w : World) (hr0 : Kd.C k25 w A0 l0.length l0) (hc0 : l0.length ≤ c0) (h : slotmeshref34_Page.f k l0 = some (r1, r2)) :
    Calls Tryd.prog 17 #[.slice A0 l0.length c0] w fun e w' => ∃ v0_ : Value, e = .returned (.tuple #[v0_, .bool r2]) ∧ Kd.R (Kd.int .u8) 5 w' w.heap.size (fun _ => True) v0_ r1 ∧ Below w.heap.size w w' := by
  have HR0 := Aside0.mk hr0
  have HC0 := Aside0.mk hc0
  clear hr0 hc0
  have HB := Aside0.mk (Below.refl w.heap.size w)
  have H : ((slotmeshref33_Valid.f k l0).bind fun t223 => (if t223 = true then (slotmeshref34_Page.j0 k l0 ((l0.length : Int) != 16)) else (slotmeshref34_Page.j0 k l0 true))) = some (r1, r2) := h
  clear h
  replace H := Option.bind_eq_some_iff.mp H
  obtain ⟨t223, A20, H⟩ := H
  replace H : (if t223 = true then (slotmeshref34_Page.j0 k l0 ((l0.length : Int) != 16)) else (slotmeshref34_Page.j0 k l0 true)) = some (r1, r2) := H
  have A2 := Aside0.mk A20
  clear A20
  have HC3 := Aside0.mk H
  clear H
  go_enter Tryd.func17, Tryd.ntmps17
  go_upto_region 2 with (first | ((with_reducible refine gate_callee (f := 39) rfl ?_); refine goesL_ (some 8) rfl rfl Tryd.func39 (by kernel_rfl) rfl #[.slice A0 l0.length c0] rfl (by (try simp only [List.map_toArray, List.map_cons, List.map_nil]); first | done | rfl | (simp only [List.length_drop, List.length_take]; rfl)) ?_; (with_reducible refine (slotmeshref33_Valid.calls k _ _ l0 t223 _ ?side1 ?side2 A2.out).mono ?_); (case side1 => repeat (first | exact HR0.out | (with_reducible refine Kd.C_alloc ?_ _) | (with_reducible refine Kd.C_drewN ?_ _) | (with_reducible refine Kd.C_drew ?_))); (case side2 => exact HC0.out); rintro e w4 ⟨rfl, hb⟩; refine ⟨_, rfl, ?_⟩; have n0_ := Aside0.mk (below_step (by repeat (first | (with_reducible first | exact HB.out | apply below_alloc | apply pw_below_drewN | apply below_drew1) | exact HB.out)) hb); clear HB; have HB := n0_; clear n0_; (try clear hb); (try clear hb2); (try clear hk); (try clear hi)))
  (try simp only [Act.put, List.setIfInBounds_toArray, List.set_cons_zero, List.set_cons_succ])
  go_cut [15] (fun v15 wc => ∃ (kq : Nat) (x15_2 : Bool), v15 = .bool x15_2 ∧ Aside0 (slotmeshref34_Page.j0 kq l0 x15_2 = some (r1, r2)) ∧ Aside0 (kq ≤ k) ∧ Aside0 (Below w.heap.size w wc))
  case first =>
    have H := HC3.out
    clear HC3
    by_cases c5 : t223 = true
    · subst c5
      have H1 : (slotmeshref34_Page.j0 k l0 ((l0.length : Int) != 16)) = some (r1, r2) := by rw [if_pos rfl] at H; exact H
      clear H
      have H := H1
      clear H1
      have H' := Aside0.mk H
      clear H
      go_wp2
      go_meet
      case rel => exact ⟨_, (((l0.length : Int) != 16)), (by first | rfl | (simp; done) | (simp [*]; done)), H', ⟨by first | omega | exact Nat.le_refl _⟩, ⟨by repeat (first | (with_reducible first | exact HB.out | apply below_alloc | apply pw_below_drewN | apply below_drew1) | exact HB.out)⟩⟩
    · replace c5 := Bool.eq_false_iff.mpr c5
      subst c5
      have H1 : (slotmeshref34_Page.j0 k l0 true) = some (r1, r2) := by rw [if_neg (show ¬ (false = true) by decide)] at H; exact H
      clear H
      have H := H1
      clear H1
      have H' := Aside0.mk H
      clear H
      go_wp2
      go_meet
      case rel => exact ⟨_, (true), (by first | rfl | (simp; done) | (simp [*]; done)), H', ⟨by first | omega | exact Nat.le_refl _⟩, ⟨by repeat (first | (with_reducible first | exact HB.out | apply below_alloc | apply pw_below_drewN | apply below_drew1) | exact HB.out)⟩⟩
  case rest =>
    clear HC3
    try clear c1
    try clear p2
    try clear c3
    try clear c5
    obtain ⟨kq, x15_2, rfl, HA, HJ2, HB⟩ := hcut
    cases kq with
    | zero => exact absurd HA.out (by simp [slotmeshref34_Page.j0])
    | succ kj2 =>
      have H := HA.out
      clear HA
      simp only [slotmeshref34_Page.j0] at H
      by_cases c6 : x15_2 = true
      · subst c6
        have H1 : (some (([] : List Int), false)) = some (r1, r2) := by rw [if_pos rfl] at H; exact H
        clear H
        have H := H1
        clear H1
        simp only [Option.some.injEq, Prod.mk.injEq] at H
        obtain ⟨rfl, rfl⟩ := H
        go_wp2
        go_ret2
        exact ⟨_, by first | rfl | (simp [errW_none, errW_some] <;> rfl) | (simp [*, errW_none, errW_some] <;> rfl), by first | exact Kd.R_nil _ _ _ _ _ | exact Kd.N_nil _ _ _ _ _ | exact Kd.V_nil _ _ _ _ _ | exact Kd.Q_nil _ _ _ _ _ | exact Kd.S_nil _ _ _ _ _, by repeat (first | (with_reducible first | exact HB.out | apply below_alloc | apply pw_below_drewN | apply below_drew1) | exact HB.out)⟩
      · replace c6 := Bool.eq_false_iff.mpr c6
        subst c6
        have H1 : (slotmeshref34_Page.l0 kj2 l0 ([] : List Int) 15) = some (r1, r2) := by rw [if_neg (show ¬ (false = true) by decide)] at H; exact H
        clear H
        have H := H1
        clear H1
        have H' := Aside0.mk H
        clear H
        go_wp2
        go_loopg [5, 6] kj2 (fun kq v5 v6 w' => ∃ (x5_2 : List Int) (x6_2 : Int), v6 = .int .i64 x6_2 ∧ Aside0 (slotmeshref34_Page.l0 kq l0 x5_2 x6_2 = some (r1, r2)) ∧ Aside0 (kq ≤ kj2) ∧ Aside0 (Kd.R (Kd.int .u8) 5 w' w.heap.size (fun _ => True) v5 x5_2) ∧ Aside0 (Below w.heap.size w w'))
        case atStart => exact ⟨(([] : List Int)), (15), (by first | rfl | (simp; done) | (simp [*]; done)), H', ⟨Nat.le_refl _⟩, ⟨by first | exact Kd.R_nil _ _ _ _ _ | exact Kd.N_nil _ _ _ _ _ | exact Kd.V_nil _ _ _ _ _ | exact Kd.Q_nil _ _ _ _ _ | exact Kd.S_nil _ _ _ _ _⟩, ⟨by repeat (first | (with_reducible first | exact HB.out | apply below_alloc | apply pw_below_drewN | apply below_drew1) | exact HB.out)⟩⟩
        case round =>
          clear H'
          try clear c1
          try clear p2
          try clear c3
          try clear c5
          try clear c6
          try clear p2
          obtain ⟨x5_2, x6_2, rfl, HA, HK2, HO_5, HB⟩ := hrel
          cases gk with
          | zero => exact absurd HA.out (by simp [slotmeshref34_Page.l0])
          | succ k2 =>
            have H := HA.out
            clear HA
            simp only [slotmeshref34_Page.l0] at H
            by_cases c7 : x6_2 ≥ 0
            · rw [if_pos c7] at H
              have c7b0 : decide (0 ≤ x6_2) = true := decide_eq_true c7
              clear c7
              by_cases c8 : 0 ≤ x6_2
              · rw [if_pos c8] at H
                have c8b0 : decide (0 ≤ x6_2) = true := decide_eq_true c8
                clear c8
                by_cases c9 : x6_2 < (l0.length : Int)
                · rw [if_pos c9] at H
                  have c9b0 : decide (x6_2 < (l0.length : Int)) = true := decide_eq_true c9
                  clear c9
                  by_cases c10 : x5_2.length + ((rd_T25 l0 x6_2).f1).length < 140737488355328
                  · rw [if_pos c10] at H
                    have LMc10 := Aside0.mk c10
                    clear c10
                    obtain ⟨y225, hy225⟩ : ∃ y_ : List Int, y_ = (x5_2 ++ ((rd_T25 l0 x6_2).f1)) := ⟨_, rfl⟩
                    replace H : (slotmeshref34_Page.l0 k2 l0 y225 (wrap64 (x6_2 - 1))) = some (r1, r2) := by first | (rw [hy225]; with_reducible exact H) | (have H2_ := (Option.bind_some _ _).symm.trans H; rw [hy225]; with_reducible exact H2_) | (have H2_ := (Option.bind_some _ _).symm.trans H; with_reducible exact H2_) | with_reducible exact H | (rw [hy225]; exact H) | exact H
                    have Ny225 := Aside0.mk hy225
                    clear hy225
                    have H' := Aside0.mk H
                    clear H
                    have p224 : 0 ≤ (x6_2 : Int) := of_decide_eq_true (by first | (with_reducible assumption) | assumption)
                    have q224 : x6_2 < (l0.length : Int) := of_decide_eq_true (by first | (with_reducible assumption) | assumption)
                    obtain ⟨ad224, A224_1, c224_1, e224, hx224_0, hx224_1, hl224_1, hi224_1⟩ := at_T25 HR0.out x6_2 p224 q224
                    cases e224
                    replace hx224_0 := (HB.out.cell (World.block_lt_of_cell? w _ hx224_0)).trans hx224_0
                    replace hx224_1 := (HB.out.cell (World.block_lt_of_cell? w _ hx224_1)).trans hx224_1
                    have HR224_1 := Aside0.mk hi224_1
                    have HC224_1 := Aside0.mk hl224_1
                    clear hi224_1 hl224_1
                    replace p224 := eq_true p224
                    replace q224 := eq_true q224
                    go_wp2_with (first | ((with_reducible refine gate_builtin (b := .append) (xs := #[.tmp 20, .tmp 25]) rfl ?_); (try (refine gate_guard (by rfl) ?_; dsimp only)); at_builtin; refine Kd.R_append_rows (Kd.int .u8) (w0 := w) w.heap.size rfl (.tmp 20) (.tmp 25) 22 5 (.int .u8 0) 1 rfl Tryd.underlying22 info5 rfl (by decide) (by omega) u5 x5_2 ((rd_T25 l0 x6_2).f1) _ _ _ (fun _ => True) (fun _ => False) rfl rfl ?aO ?aR (fun _ _ h => h) (fun _ h => h.elim) ?aF ?aB ?aS ?aL ?_; (case aR => repeat (first | exact (Kd.C_below HR224_1.out HB.out) | (with_reducible refine Kd.C_alloc ?_ _) | (with_reducible refine Kd.C_drewN ?_ _) | (with_reducible refine Kd.C_drew ?_))); (case aB => exact (by repeat (first | (with_reducible first | exact HB.out | apply below_alloc | apply pw_below_drewN | apply below_drew1) | exact HB.out))); (case aF => exact (fun _ _ => trivial)); (case aO => exact (by (with_reducible repeat (first | apply Kd.R_alloc | apply Kd.R_drewN | apply Kd.R_drew)); exact HO_5.out)); (case aS => exact (below_size (by repeat (first | (with_reducible first | exact HB.out | apply below_alloc | apply pw_below_drewN | apply below_drew1) | exact HB.out)))); (case aL => have := LMc10.out; omega); intro v226 w11 ho hb hg hat; rw [← Ny225.out] at ho; have n0_ := Aside0.mk (hb); have n1_ := Aside0.mk (ho); clear HB; clear HO_5; have HB := n0_; have HO227 := n1_; clear n0_ n1_; clear ho hb hg hat))
                    go_roundg k2
                    case measure => have := HJ2.out; have := HK2.out; omega
                    case rel => exact ⟨(y225), (wrap64 (x6_2 - 1)), (by first | rfl | (simp; done) | (simp [*]; done)), H', ⟨by have := HJ2.out; have := HK2.out; omega⟩, ⟨by (with_reducible repeat (first | apply Kd.R_alloc | apply Kd.R_drewN | apply Kd.R_drew)); exact HO227.out⟩, ⟨by repeat (first | (with_reducible first | exact HB.out | apply below_alloc | apply pw_below_drewN | apply below_drew1) | exact HB.out)⟩⟩
                  · rw [if_neg c10] at H
                    exact absurd H (by simp)
                · rw [if_neg c9] at H
                  exact absurd H (by simp)
              · rw [if_neg c8] at H
                exact absurd H (by simp)
            · rw [if_neg c7] at H
              have c7b0 : decide (0 ≤ x6_2) = false := decide_eq_false c7
              clear c7
              simp only [Option.some.injEq, Prod.mk.injEq] at H
              obtain ⟨rfl, rfl⟩ := H
              go_wp2
              go_ret2
              exact ⟨_, by first | rfl | (simp [errW_none, errW_some] <;> rfl) | (simp [*, errW_none, errW_some] <;> rfl), by (with_reducible repeat (first | apply Kd.R_alloc | apply Kd.R_drewN | apply Kd.R_drew)); exact HO_5.out, by repeat (first | (with_reducible first | exact HB.out | apply below_alloc | apply pw_below_drewN | apply below_drew1) | exact HB.out)⟩
def slotmeshref34_Same.f (k : Nat) (a0_0 : Int) (a0_1 : Int) (l0_2 : List Int) (l0_3 : List Int) (a1_0 : Int) (a1_1 : Int) (l1_2 : List Int) (l1_3 : List Int) : Option (Bool) := (slotmeshref33_Bytes.f k l0_2 l1_2).bind fun t230 => (if t230 = true then (if a0_0 = a1_0 then (some (a0_1 == a1_1)) else (some false)) else (some false))
set_option maxHeartbeats 8000000 in
set_option maxRecDepth 100000 in
theorem slotmeshref34_Same.calls (k : Nat) (a0_0 : Int) (a0_1 : Int) (A0_2 : Option Addr) (c0_2 : Nat) (l0_2 : List Int) (A0_3 : Option Addr) (c0_3 : Nat) (l0_3 : List Int) (a1_0 : Int) (a1_1 : Int) (A1_2 : Option Addr) (c1_2 : Nat) (l1_2 : List Int) (A1_3 : Option Addr) (c1_3 : Nat) (l1_3 : List Int) (r : Bool) (w : World) (hr0_2 : Kd.C (Kd.int .u8) w A0_2 l0_2.length l0_2) (hc0_2 : l0_2.length ≤ c0_2) (hr0_3 : Kd.C (Kd.int .u64) w A0_3 l0_3.length l0_3) (hc0_3 : l0_3.length ≤ c0_3) (hr1_2 : Kd.C (Kd.int .u8) w A1_2 l1_2.length l1_2) (hc1_2 : l1_2.length ≤ c1_2) (hr1_3 : Kd.C (Kd.int .u64) w A1_3 l1_3.length l1_3) (hc1_3 : l1_3.length ≤ c1_3) (h : slotmeshref34_Same.f k a0_0 a0_1 l0_2 l0_3 a1_0 a1_1 l1_2 l1_3 = some r) :
    Calls Tryd.prog 20 #[.agg #[.int .i64 a0_0, .int .i64 a0_1, .slice A0_2 l0_2.length c0_2, .slice A0_3 l0_3.length c0_3], .agg #[.int .i64 a1_0, .int .i64 a1_1, .slice A1_2 l1_2.length c1_2, .slice A1_3 l1_3.length c1_3]] w fun e w' => e = .returned (.bool r) ∧ Below w.heap.size w w' := by
  have hu26 := Tryd.underlying26
  have HR0_2 := Aside0.mk hr0_2
  have HC0_2 := Aside0.mk hc0_2
  clear hr0_2 hc0_2
  have HR0_3 := Aside0.mk hr0_3
  have HC0_3 := Aside0.mk hc0_3
  clear hr0_3 hc0_3
  have HR1_2 := Aside0.mk hr1_2
  have HC1_2 := Aside0.mk hc1_2
  clear hr1_2 hc1_2
  have HR1_3 := Aside0.mk hr1_3
  have HC1_3 := Aside0.mk hc1_3
  clear hr1_3 hc1_3
  have HB := Aside0.mk (Below.refl w.heap.size w)
  have H : ((slotmeshref33_Bytes.f k l0_2 l1_2).bind fun t230 => (if t230 = true then (if a0_0 = a1_0 then (some (a0_1 == a1_1)) else (some false)) else (some false))) = some r := h
  clear h
  replace H := Option.bind_eq_some_iff.mp H
  obtain ⟨t230, A30, H⟩ := H
  replace H : (if t230 = true then (if a0_0 = a1_0 then (some (a0_1 == a1_1)) else (some false)) else (some false)) = some r := H
  have A3 := Aside0.mk A30
  clear A30
  by_cases c4 : t230 = true
  · subst c4
    have H1 : (if a0_0 = a1_0 then (some (a0_1 == a1_1)) else (some false)) = some r := by rw [if_pos rfl] at H; exact H
    clear H
    have H := H1
    clear H1
    by_cases c5 : a0_0 = a1_0
    · rw [if_pos c5] at H
      have c5b0 : (a0_0 == a1_0) = true := beq_iff_eq.mpr c5
      have c5b1 : (a0_0 != a1_0) = false := bne_eq_false_iff_eq.mpr c5
      clear c5
      obtain rfl := Option.some.inj H
      go_enter Tryd.func20, Tryd.ntmps20
      go_wp2_with (first | ((with_reducible refine gate_dst (N := 2) rfl ?_); refine box_event ?hg (N := 2) ?hd (cs := #[.int .i64 a0_0, .int .i64 a0_1, .slice A0_2 l0_2.length c0_2, .slice A0_3 l0_3.length c0_3]) (t := 26) ?hr ?_; (case hd => rfl); (case hg => rfl); (case hr => first | (go_simp; done) | (go_simp; rfl)); intro gb228 hg w6 hbox hb; have n0_ := Aside0.mk (below_step (by repeat (first | (with_reducible first | exact HB.out | apply below_alloc | apply pw_below_drewN | apply below_drew1) | exact HB.out)) hb); have n1_ := Aside0.mk (hbox); have n2_ := Aside0.mk ((by rw [hg]; exact (below_size (by repeat (first | (with_reducible first | exact HB.out | apply below_alloc | apply pw_below_drewN | apply below_drew1) | exact HB.out))) : w.heap.size ≤ gb228)); have n3_ := Aside0.mk ((by rw [hg]; exact (below_size (by repeat (first | (with_reducible first | exact HB.out | apply below_alloc | apply pw_below_drewN | apply below_drew1) | exact HB.out))) : w.heap.size ≤ gb228)); clear HB; have HB := n0_; have BK228 := n1_; have GW228 := n2_; have GE228 := n3_; clear n0_ n1_ n2_ n3_; clear hb hbox hg) | ((with_reducible refine gate_dst (N := 3) rfl ?_); refine box_event ?hg (N := 3) ?hd (cs := #[.int .i64 a1_0, .int .i64 a1_1, .slice A1_2 l1_2.length c1_2, .slice A1_3 l1_3.length c1_3]) (t := 26) ?hr ?_; (case hd => rfl); (case hg => rfl); (case hr => first | (go_simp; done) | (go_simp; rfl)); intro gb229 hg w7 hbox hb; have n0_ := Aside0.mk (blk_below (g := gb228) (o := .cells #[.int .i64 a0_0, .int .i64 a0_1, .slice A0_2 l0_2.length c0_2, .slice A0_3 l0_3.length c0_3] 26 (0, 0)) (by (with_reducible repeat (first | refine blk_drewN ?_ _ | refine blk_drew ?_ | refine blk_alloc ?_ _)); exact BK228.out) hb); have n1_ := Aside0.mk (below_step (by repeat (first | (with_reducible first | exact HB.out | apply below_alloc | apply pw_below_drewN | apply below_drew1 | refine below_set ?_ GE228.out) | exact HB.out)) hb); have n2_ := Aside0.mk (hbox); have n3_ := Aside0.mk ((by rw [hg]; exact (below_size (by repeat (first | (with_reducible first | exact HB.out | apply below_alloc | apply pw_below_drewN | apply below_drew1 | refine below_set ?_ GE228.out) | exact HB.out))) : w.heap.size ≤ gb229)); have n4_ := Aside0.mk ((by rw [hg]; exact (below_size (by repeat (first | (with_reducible first | exact HB.out | apply below_alloc | apply pw_below_drewN | apply below_drew1 | refine below_set ?_ GE228.out) | exact HB.out))) : w.heap.size ≤ gb229)); have n5_ := Aside0.mk ((by rw [hg]; exact Nat.ne_of_lt (blk_lt (g := gb228) (o := .cells #[.int .i64 a0_0, .int .i64 a0_1, .slice A0_2 l0_2.length c0_2, .slice A0_3 l0_3.length c0_3] 26 (0, 0)) (by (with_reducible repeat (first | refine blk_drewN ?_ _ | refine blk_drew ?_ | refine blk_alloc ?_ _)); exact BK228.out)) : gb228 ≠ gb229)); have n6_ := Aside0.mk ((by rw [hg]; exact Nat.ne_of_gt (blk_lt (g := gb228) (o := .cells #[.int .i64 a0_0, .int .i64 a0_1, .slice A0_2 l0_2.length c0_2, .slice A0_3 l0_3.length c0_3] 26 (0, 0)) (by (with_reducible repeat (first | refine blk_drewN ?_ _ | refine blk_drew ?_ | refine blk_alloc ?_ _)); exact BK228.out)) : gb229 ≠ gb228)); clear BK228; clear HB; have BK228 := n0_; have HB := n1_; have BK229 := n2_; have GW229 := n3_; have GE229 := n4_; have NB228_229 := n5_; have NB229_228 := n6_; clear n0_ n1_ n2_ n3_ n4_ n5_ n6_; clear hb hbox hg; have hnb8 := NB228_229.out; have hnc8 := NB229_228.out; have hcz9_0 : w7.cell? ⟨gb228, 0, none⟩ = some (.int .i64 a0_0) := (blk_cell BK228.out 0).trans rfl; have hcz9_1 : w7.cell? ⟨gb228, 1, none⟩ = some (.int .i64 a0_1) := (blk_cell BK228.out 1).trans rfl; have hcz9_2 : w7.cell? ⟨gb228, 2, none⟩ = some (.slice A0_2 l0_2.length c0_2) := (blk_cell BK228.out 2).trans rfl; have hcz9_3 : w7.cell? ⟨gb228, 3, none⟩ = some (.slice A0_3 l0_3.length c0_3) := (blk_cell BK228.out 3).trans rfl; have hfz9_0 := blk_frozen BK228.out 0; have hfz9_1 := blk_frozen BK228.out 1; have hfz9_2 := blk_frozen BK228.out 2; have hfz9_3 := blk_frozen BK228.out 3; have hcz10_0 : w7.cell? ⟨gb229, 0, none⟩ = some (.int .i64 a1_0) := (blk_cell BK229.out 0).trans rfl; have hcz10_1 : w7.cell? ⟨gb229, 1, none⟩ = some (.int .i64 a1_1) := (blk_cell BK229.out 1).trans rfl; have hcz10_2 : w7.cell? ⟨gb229, 2, none⟩ = some (.slice A1_2 l1_2.length c1_2) := (blk_cell BK229.out 2).trans rfl; have hcz10_3 : w7.cell? ⟨gb229, 3, none⟩ = some (.slice A1_3 l1_3.length c1_3) := (blk_cell BK229.out 3).trans rfl; have hfz10_0 := blk_frozen BK229.out 0; have hfz10_1 := blk_frozen BK229.out 1; have hfz10_2 := blk_frozen BK229.out 2; have hfz10_3 := blk_frozen BK229.out 3) | ((with_reducible refine gate_callee (f := 22) rfl ?_); refine goesL_ (some 10) rfl rfl Tryd.func22 (by kernel_rfl) rfl #[.slice A0_2 l0_2.length c0_2, .slice A1_2 l1_2.length c1_2] rfl (by (try simp only [List.map_toArray, List.map_cons, List.map_nil]); first | done | rfl | (simp only [List.length_drop, List.length_take]; rfl)) ?_; (with_reducible refine (slotmeshref33_Bytes.calls k _ _ l0_2 _ _ l1_2 true _ ?side1 ?side2 ?side3 ?side4 A3.out).mono ?_); (case side1 => repeat (first | exact (Kd.C_below HR0_2.out HB.out) | (with_reducible refine Kd.C_alloc ?_ _) | (with_reducible refine Kd.C_drewN ?_ _) | (with_reducible refine Kd.C_drew ?_))); (case side2 => exact HC0_2.out); (case side3 => repeat (first | exact (Kd.C_below HR1_2.out HB.out) | (with_reducible refine Kd.C_alloc ?_ _) | (with_reducible refine Kd.C_drewN ?_ _) | (with_reducible refine Kd.C_drew ?_))); (case side4 => exact HC1_2.out); rintro e w' ⟨rfl, ⟨nd, rfl⟩⟩; refine ⟨_, rfl, ?_⟩))
      go_ret
      exact ⟨by first | rfl | (simp [errW_none, errW_some] <;> rfl) | (simp [*, errW_none, errW_some] <;> rfl), by repeat (first | (with_reducible first | exact HB.out | apply below_alloc | apply pw_below_drewN | apply below_drew1 | refine below_set ?_ GE228.out | refine below_set ?_ GE229.out) | exact HB.out)⟩
    · rw [if_neg c5] at H
      have c5b0 : (a0_0 == a1_0) = false := beq_eq_false_iff_ne.mpr c5
      have c5b1 : (a0_0 != a1_0) = true := bne_iff_ne.mpr c5
      obtain rfl := Option.some.inj H
      go_enter Tryd.func20, Tryd.ntmps20
      go_wp2_with (first | ((with_reducible refine gate_dst (N := 2) rfl ?_); refine box_event ?hg (N := 2) ?hd (cs := #[.int .i64 a0_0, .int .i64 a0_1, .slice A0_2 l0_2.length c0_2, .slice A0_3 l0_3.length c0_3]) (t := 26) ?hr ?_; (case hd => rfl); (case hg => rfl); (case hr => first | (go_simp; done) | (go_simp; rfl)); intro gb228 hg w11 hbox hb; have n0_ := Aside0.mk (below_step (by repeat (first | (with_reducible first | exact HB.out | apply below_alloc | apply pw_below_drewN | apply below_drew1) | exact HB.out)) hb); have n1_ := Aside0.mk (hbox); have n2_ := Aside0.mk ((by rw [hg]; exact (below_size (by repeat (first | (with_reducible first | exact HB.out | apply below_alloc | apply pw_below_drewN | apply below_drew1) | exact HB.out))) : w.heap.size ≤ gb228)); have n3_ := Aside0.mk ((by rw [hg]; exact (below_size (by repeat (first | (with_reducible first | exact HB.out | apply below_alloc | apply pw_below_drewN | apply below_drew1) | exact HB.out))) : w.heap.size ≤ gb228)); clear HB; have HB := n0_; have BK228 := n1_; have GW228 := n2_; have GE228 := n3_; clear n0_ n1_ n2_ n3_; clear hb hbox hg) | ((with_reducible refine gate_dst (N := 3) rfl ?_); refine box_event ?hg (N := 3) ?hd (cs := #[.int .i64 a1_0, .int .i64 a1_1, .slice A1_2 l1_2.length c1_2, .slice A1_3 l1_3.length c1_3]) (t := 26) ?hr ?_; (case hd => rfl); (case hg => rfl); (case hr => first | (go_simp; done) | (go_simp; rfl)); intro gb229 hg w12 hbox hb; have n0_ := Aside0.mk (blk_below (g := gb228) (o := .cells #[.int .i64 a0_0, .int .i64 a0_1, .slice A0_2 l0_2.length c0_2, .slice A0_3 l0_3.length c0_3] 26 (0, 0)) (by (with_reducible repeat (first | refine blk_drewN ?_ _ | refine blk_drew ?_ | refine blk_alloc ?_ _)); exact BK228.out) hb); have n1_ := Aside0.mk (below_step (by repeat (first | (with_reducible first | exact HB.out | apply below_alloc | apply pw_below_drewN | apply below_drew1 | refine below_set ?_ GE228.out) | exact HB.out)) hb); have n2_ := Aside0.mk (hbox); have n3_ := Aside0.mk ((by rw [hg]; exact (below_size (by repeat (first | (with_reducible first | exact HB.out | apply below_alloc | apply pw_below_drewN | apply below_drew1 | refine below_set ?_ GE228.out) | exact HB.out))) : w.heap.size ≤ gb229)); have n4_ := Aside0.mk ((by rw [hg]; exact (below_size (by repeat (first | (with_reducible first | exact HB.out | apply below_alloc | apply pw_below_drewN | apply below_drew1 | refine below_set ?_ GE228.out) | exact HB.out))) : w.heap.size ≤ gb229)); have n5_ := Aside0.mk ((by rw [hg]; exact Nat.ne_of_lt (blk_lt (g := gb228) (o := .cells #[.int .i64 a0_0, .int .i64 a0_1, .slice A0_2 l0_2.length c0_2, .slice A0_3 l0_3.length c0_3] 26 (0, 0)) (by (with_reducible repeat (first | refine blk_drewN ?_ _ | refine blk_drew ?_ | refine blk_alloc ?_ _)); exact BK228.out)) : gb228 ≠ gb229)); have n6_ := Aside0.mk ((by rw [hg]; exact Nat.ne_of_gt (blk_lt (g := gb228) (o := .cells #[.int .i64 a0_0, .int .i64 a0_1, .slice A0_2 l0_2.length c0_2, .slice A0_3 l0_3.length c0_3] 26 (0, 0)) (by (with_reducible repeat (first | refine blk_drewN ?_ _ | refine blk_drew ?_ | refine blk_alloc ?_ _)); exact BK228.out)) : gb229 ≠ gb228)); clear BK228; clear HB; have BK228 := n0_; have HB := n1_; have BK229 := n2_; have GW229 := n3_; have GE229 := n4_; have NB228_229 := n5_; have NB229_228 := n6_; clear n0_ n1_ n2_ n3_ n4_ n5_ n6_; clear hb hbox hg; have hnb13 := NB228_229.out; have hnc13 := NB229_228.out; have hcz14_0 : w12.cell? ⟨gb228, 0, none⟩ = some (.int .i64 a0_0) := (blk_cell BK228.out 0).trans rfl; have hcz14_1 : w12.cell? ⟨gb228, 1, none⟩ = some (.int .i64 a0_1) := (blk_cell BK228.out 1).trans rfl; have hcz14_2 : w12.cell? ⟨gb228, 2, none⟩ = some (.slice A0_2 l0_2.length c0_2) := (blk_cell BK228.out 2).trans rfl; have hcz14_3 : w12.cell? ⟨gb228, 3, none⟩ = some (.slice A0_3 l0_3.length c0_3) := (blk_cell BK228.out 3).trans rfl; have hfz14_0 := blk_frozen BK228.out 0; have hfz14_1 := blk_frozen BK228.out 1; have hfz14_2 := blk_frozen BK228.out 2; have hfz14_3 := blk_frozen BK228.out 3; have hcz15_0 : w12.cell? ⟨gb229, 0, none⟩ = some (.int .i64 a1_0) := (blk_cell BK229.out 0).trans rfl; have hcz15_1 : w12.cell? ⟨gb229, 1, none⟩ = some (.int .i64 a1_1) := (blk_cell BK229.out 1).trans rfl; have hcz15_2 : w12.cell? ⟨gb229, 2, none⟩ = some (.slice A1_2 l1_2.length c1_2) := (blk_cell BK229.out 2).trans rfl; have hcz15_3 : w12.cell? ⟨gb229, 3, none⟩ = some (.slice A1_3 l1_3.length c1_3) := (blk_cell BK229.out 3).trans rfl; have hfz15_0 := blk_frozen BK229.out 0; have hfz15_1 := blk_frozen BK229.out 1; have hfz15_2 := blk_frozen BK229.out 2; have hfz15_3 := blk_frozen BK229.out 3) | ((with_reducible refine gate_callee (f := 22) rfl ?_); refine goesL_ (some 10) rfl rfl Tryd.func22 (by kernel_rfl) rfl #[.slice A0_2 l0_2.length c0_2, .slice A1_2 l1_2.length c1_2] rfl (by (try simp only [List.map_toArray, List.map_cons, List.map_nil]); first | done | rfl | (simp only [List.length_drop, List.length_take]; rfl)) ?_; (with_reducible refine (slotmeshref33_Bytes.calls k _ _ l0_2 _ _ l1_2 true _ ?side1 ?side2 ?side3 ?side4 A3.out).mono ?_); (case side1 => repeat (first | exact (Kd.C_below HR0_2.out HB.out) | (with_reducible refine Kd.C_alloc ?_ _) | (with_reducible refine Kd.C_drewN ?_ _) | (with_reducible refine Kd.C_drew ?_))); (case side2 => exact HC0_2.out); (case side3 => repeat (first | exact (Kd.C_below HR1_2.out HB.out) | (with_reducible refine Kd.C_alloc ?_ _) | (with_reducible refine Kd.C_drewN ?_ _) | (with_reducible refine Kd.C_drew ?_))); (case side4 => exact HC1_2.out); rintro e w' ⟨rfl, ⟨nd, rfl⟩⟩; refine ⟨_, rfl, ?_⟩))
      go_ret
      exact ⟨by first | rfl | (simp [errW_none, errW_some] <;> rfl) | (simp [*, errW_none, errW_some] <;> rfl), by repeat (first | (with_reducible first | exact HB.out | apply below_alloc | apply pw_below_drewN | apply below_drew1 | refine below_set ?_ GE228.out | refine below_set ?_ GE229.out) | exact HB.out)⟩
  · replace c4 := Bool.eq_false_iff.mpr c4
    subst c4
    have H1 : (some false) = some r := by rw [if_neg (show ¬ (false = true) by decide)] at H; exact H
    clear H
    have H := H1
    clear H1
    obtain rfl := Option.some.inj H
    go_enter Tryd.func20, Tryd.ntmps20
    go_wp2_with (first | ((with_reducible refine gate_dst (N := 2) rfl ?_); refine box_event ?hg (N := 2) ?hd (cs := #[.int .i64 a0_0, .int .i64 a0_1, .slice A0_2 l0_2.length c0_2, .slice A0_3 l0_3.length c0_3]) (t := 26) ?hr ?_; (case hd => rfl); (case hg => rfl); (case hr => first | (go_simp; done) | (go_simp; rfl)); intro gb228 hg w16 hbox hb; have n0_ := Aside0.mk (below_step (by repeat (first | (with_reducible first | exact HB.out | apply below_alloc | apply pw_below_drewN | apply below_drew1) | exact HB.out)) hb); have n1_ := Aside0.mk (hbox); have n2_ := Aside0.mk ((by rw [hg]; exact (below_size (by repeat (first | (with_reducible first | exact HB.out | apply below_alloc | apply pw_below_drewN | apply below_drew1) | exact HB.out))) : w.heap.size ≤ gb228)); have n3_ := Aside0.mk ((by rw [hg]; exact (below_size (by repeat (first | (with_reducible first | exact HB.out | apply below_alloc | apply pw_below_drewN | apply below_drew1) | exact HB.out))) : w.heap.size ≤ gb228)); clear HB; have HB := n0_; have BK228 := n1_; have GW228 := n2_; have GE228 := n3_; clear n0_ n1_ n2_ n3_; clear hb hbox hg) | ((with_reducible refine gate_dst (N := 3) rfl ?_); refine box_event ?hg (N := 3) ?hd (cs := #[.int .i64 a1_0, .int .i64 a1_1, .slice A1_2 l1_2.length c1_2, .slice A1_3 l1_3.length c1_3]) (t := 26) ?hr ?_; (case hd => rfl); (case hg => rfl); (case hr => first | (go_simp; done) | (go_simp; rfl)); intro gb229 hg w17 hbox hb; have n0_ := Aside0.mk (blk_below (g := gb228) (o := .cells #[.int .i64 a0_0, .int .i64 a0_1, .slice A0_2 l0_2.length c0_2, .slice A0_3 l0_3.length c0_3] 26 (0, 0)) (by (with_reducible repeat (first | refine blk_drewN ?_ _ | refine blk_drew ?_ | refine blk_alloc ?_ _)); exact BK228.out) hb); have n1_ := Aside0.mk (below_step (by repeat (first | (with_reducible first | exact HB.out | apply below_alloc | apply pw_below_drewN | apply below_drew1 | refine below_set ?_ GE228.out) | exact HB.out)) hb); have n2_ := Aside0.mk (hbox); have n3_ := Aside0.mk ((by rw [hg]; exact (below_size (by repeat (first | (with_reducible first | exact HB.out | apply below_alloc | apply pw_below_drewN | apply below_drew1 | refine below_set ?_ GE228.out) | exact HB.out))) : w.heap.size ≤ gb229)); have n4_ := Aside0.mk ((by rw [hg]; exact (below_size (by repeat (first | (with_reducible first | exact HB.out | apply below_alloc | apply pw_below_drewN | apply below_drew1 | refine below_set ?_ GE228.out) | exact HB.out))) : w.heap.size ≤ gb229)); have n5_ := Aside0.mk ((by rw [hg]; exact Nat.ne_of_lt (blk_lt (g := gb228) (o := .cells #[.int .i64 a0_0, .int .i64 a0_1, .slice A0_2 l0_2.length c0_2, .slice A0_3 l0_3.length c0_3] 26 (0, 0)) (by (with_reducible repeat (first | refine blk_drewN ?_ _ | refine blk_drew ?_ | refine blk_alloc ?_ _)); exact BK228.out)) : gb228 ≠ gb229)); have n6_ := Aside0.mk ((by rw [hg]; exact Nat.ne_of_gt (blk_lt (g := gb228) (o := .cells #[.int .i64 a0_0, .int .i64 a0_1, .slice A0_2 l0_2.length c0_2, .slice A0_3 l0_3.length c0_3] 26 (0, 0)) (by (with_reducible repeat (first | refine blk_drewN ?_ _ | refine blk_drew ?_ | refine blk_alloc ?_ _)); exact BK228.out)) : gb229 ≠ gb228)); clear BK228; clear HB; have BK228 := n0_; have HB := n1_; have BK229 := n2_; have GW229 := n3_; have GE229 := n4_; have NB228_229 := n5_; have NB229_228 := n6_; clear n0_ n1_ n2_ n3_ n4_ n5_ n6_; clear hb hbox hg; have hnb18 := NB228_229.out; have hnc18 := NB229_228.out; have hcz19_0 : w17.cell? ⟨gb228, 0, none⟩ = some (.int .i64 a0_0) := (blk_cell BK228.out 0).trans rfl; have hcz19_1 : w17.cell? ⟨gb228, 1, none⟩ = some (.int .i64 a0_1) := (blk_cell BK228.out 1).trans rfl; have hcz19_2 : w17.cell? ⟨gb228, 2, none⟩ = some (.slice A0_2 l0_2.length c0_2) := (blk_cell BK228.out 2).trans rfl; have hcz19_3 : w17.cell? ⟨gb228, 3, none⟩ = some (.slice A0_3 l0_3.length c0_3) := (blk_cell BK228.out 3).trans rfl; have hfz19_0 := blk_frozen BK228.out 0; have hfz19_1 := blk_frozen BK228.out 1; have hfz19_2 := blk_frozen BK228.out 2; have hfz19_3 := blk_frozen BK228.out 3; have hcz20_0 : w17.cell? ⟨gb229, 0, none⟩ = some (.int .i64 a1_0) := (blk_cell BK229.out 0).trans rfl; have hcz20_1 : w17.cell? ⟨gb229, 1, none⟩ = some (.int .i64 a1_1) := (blk_cell BK229.out 1).trans rfl; have hcz20_2 : w17.cell? ⟨gb229, 2, none⟩ = some (.slice A1_2 l1_2.length c1_2) := (blk_cell BK229.out 2).trans rfl; have hcz20_3 : w17.cell? ⟨gb229, 3, none⟩ = some (.slice A1_3 l1_3.length c1_3) := (blk_cell BK229.out 3).trans rfl; have hfz20_0 := blk_frozen BK229.out 0; have hfz20_1 := blk_frozen BK229.out 1; have hfz20_2 := blk_frozen BK229.out 2; have hfz20_3 := blk_frozen BK229.out 3) | ((with_reducible refine gate_callee (f := 22) rfl ?_); refine goesL_ (some 10) rfl rfl Tryd.func22 (by kernel_rfl) rfl #[.slice A0_2 l0_2.length c0_2, .slice A1_2 l1_2.length c1_2] rfl (by (try simp only [List.map_toArray, List.map_cons, List.map_nil]); first | done | rfl | (simp only [List.length_drop, List.length_take]; rfl)) ?_; (with_reducible refine (slotmeshref33_Bytes.calls k _ _ l0_2 _ _ l1_2 false _ ?side1 ?side2 ?side3 ?side4 A3.out).mono ?_); (case side1 => repeat (first | exact (Kd.C_below HR0_2.out HB.out) | (with_reducible refine Kd.C_alloc ?_ _) | (with_reducible refine Kd.C_drewN ?_ _) | (with_reducible refine Kd.C_drew ?_))); (case side2 => exact HC0_2.out); (case side3 => repeat (first | exact (Kd.C_below HR1_2.out HB.out) | (with_reducible refine Kd.C_alloc ?_ _) | (with_reducible refine Kd.C_drewN ?_ _) | (with_reducible refine Kd.C_drew ?_))); (case side4 => exact HC1_2.out); rintro e w' ⟨rfl, ⟨nd, rfl⟩⟩; refine ⟨_, rfl, ?_⟩))
    go_ret
    exact ⟨by first | rfl | (simp [errW_none, errW_some] <;> rfl) | (simp [*, errW_none, errW_some] <;> rfl), by repeat (first | (with_reducible first | exact HB.out | apply below_alloc | apply pw_below_drewN | apply below_drew1 | refine below_set ?_ GE228.out | refine below_set ?_ GE229.out) | exact HB.out)⟩
end Go.Proofs.YtknlbeojdmeljaaDoor.P
namespace Go.Proofs.YtknlbeojdmeljaaDoor.H
open Go.RowKit Go.Proofs.YtknlbeojdmeljaaDoorW.PrintWords Go.Proofs.YtknlbeojdmeljaaDoorW.PrintLast Go.Proofs.YtknlbeojdmeljaaDoorW.PrintMore Go.Proofs.YtknlbeojdmeljaaDoor.P
set_option linter.unusedVariables false
set_option linter.unusedSimpArgs false
def maskS (s : Int) : Int := 1 + firstS s % 65535
theorem maskS_range (s : Int) : 1 ≤ maskS s ∧ maskS s < 65536 := by unfold maskS; omega
set_option maxRecDepth 100000 in
set_option maxHeartbeats 1000000 in
theorem mask_calls (s : Int) (w : World) (ht : Tabs w) : Calls Tryd.prog 40 #[.int .u64 s, .int .i64 16] w fun e w' => e = .returned (.int .i64 (maskS s)) ∧ Below w.heap.size w w' := by
  have hms : maskS s = 1 + firstS s % 65535 := rfl
  obtain ⟨fs, hfs⟩ : ∃ fs, fs = firstS s := ⟨_, rfl⟩
  have hr := firstS_range s
  rw [← hfs] at hms hr
  have h0 := hr.1
  have HFS := Lib.hid hfs
  have HMS := Lib.hid hms
  have HT := Lib.hid ht
  have h1 : 0 ≤ fs % 65535 := by omega
  have h2 : fs % 65535 < 65535 := by omega
  have HW := Lib.hid (show wrap64 (1 + fs % 65535) = 1 + fs % 65535 by unfold wrap64; omega)
  clear hfs hms ht hr
  go_enter Tryd.func40, Tryd.ntmps40
  go_wp2_with fail
  refine start_ (n := 8) (S := (fun V => Below w.heap.size w V)) (ds := []) (bl 8 0) (by kernel_rfl) rfl rfl (Below.refl _ _).drew (fun hHeld => ?_)
  refine pU 0 11 (bl 8 1) (by kernel_rfl) (h := ?_)
  refine pU 2 13 (bl 8 5) (by kernel_rfl) (h := ?_)
  refine pU 3 14 (bl 8 13) (by kernel_rfl) (h := ?_)
  refine pU 4 15 (bl 8 29) (by kernel_rfl) (h := ?_)
  refine one_ (i := 1) (N := some 12) (bl 8 31) rfl rfl (by kernel_rfl) (by decide) (fun K hK => ?_)
  refine goes_ Tryd.func58 (by kernel_rfl) rfl #[.int .u64 s] (by rfl) rfl rfl (by simp only [List.map_toArray, List.map_cons, List.map_nil]; rfl) ?_
  refine (first_calls s _ (HT.out.keep hHeld)).mono ?_
  rintro e u ⟨rfl, hb⟩
  rw [← HFS.out]
  refine ⟨_, rfl, ?_⟩
  refine hK.out _ _ (hHeld.trans (hb.mono hHeld.size)) (fun hHeld => ?_)
  clear hK K hb
  refine nU 12 (h := ?_)
  refine pure_ (i := 5) (N := some 16) (v := .int .i64 (fs % 65535)) (a' := ?_) (bl 8 63) rfl rfl (by kernel_rfl) (fun _ _ _ h => h) (Or.inl ⟨by rfl, ?_⟩) ?_ ?_
  · intro w'
    go_simp
    have e1 : wrap64 (wrap64 65536 - 1) = 65535 := by unfold wrap64; omega
    rw [e1, if_neg (by decide), Int.tmod_eq_emod_of_nonneg h0]
  rotate_left
  · simp only [Act.put, List.setIfInBounds_toArray, List.set_cons_zero, List.set_cons_succ, i64_w, i32_w]
    rfl
  refine pure_ (i := 6) (N := some 17) (v := .int .i64 (1 + fs % 65535)) (a' := ?_) (bl 8 127) rfl rfl (by kernel_rfl) (fun _ _ _ h => h) (Or.inl ⟨by rfl, ?_⟩) ?_ ?_
  · intro w'
    go_simp
    rw [i64_w]
    exact HW.out
  rotate_left
  · simp only [Act.put, List.setIfInBounds_toArray, List.set_cons_zero, List.set_cons_succ, i64_w, i32_w]
    rfl
  refine pU 7 4 (bl 8 255) (by kernel_rfl) (h := ?_)
  refine done_ (by kernel_rfl) ?_
  go_wp2
  go_ret
  exact ⟨by rw [HMS.out]; rfl, hHeld⟩
/-- the set of a seed -/
def setS (n : Int) : Int := if n < 0 ∨ 1000000000 < n then 0 else if n < 16 then ((2 ^ n.toNat : Nat) : Int) else maskS n
theorem setS_range (n : Int) (h0 : 0 ≤ n) (h1 : n ≤ 1000000000) : 1 ≤ setS n ∧ setS n < 65536 := by
  unfold setS
  rw [if_neg (by omega)]
  split
  · rename_i h
    have h2 : 2 ^ n.toNat < 2 ^ 16 := Nat.pow_lt_pow_right (by omega) (by omega)
    have := Nat.two_pow_pos n.toNat
    omega
  · exact maskS_range n
theorem isseed_calls (n : Int) (w : World) : Calls Tryd.prog 29 #[.int .i64 n] w fun e w' => e = .returned (.bool (decide (0 ≤ n ∧ n ≤ 1000000000))) ∧ Below w.heap.size w w' := by
  refine (fountain_isSeed.calls n (decide (0 ≤ n ∧ n ≤ 1000000000)) w ?_).mono ?_
  · unfold fountain_isSeed.f
    by_cases h : n ≥ 0
    · rw [if_pos h]; simp [show 0 ≤ n from h]
    · rw [if_neg h]; simp [h]
  · rintro e w' ⟨rfl, ⟨nd, rfl⟩⟩
    exact ⟨rfl, pw_below_drewN (Below.refl _ _) nd⟩
theorem ispage_calls (n : Int) (w : World) : Calls Tryd.prog 28 #[.int .i64 n] w fun e w' => e = .returned (.bool (decide (0 ≤ n ∧ n < 16))) ∧ Below w.heap.size w w' := by
  refine (fountain_isPage.calls n (decide (0 ≤ n ∧ n < 16)) w ?_).mono ?_
  · unfold fountain_isPage.f
    by_cases h : n ≥ 0
    · rw [if_pos h]; simp [show 0 ≤ n from h]
    · rw [if_neg h]; simp [h]
  · rintro e w' ⟨rfl, ⟨nd, rfl⟩⟩
    exact ⟨rfl, pw_below_drewN (Below.refl _ _) nd⟩
set_option maxRecDepth 100000 in
set_option maxHeartbeats 1000000 in
theorem set_calls (n : Int) (w : World) (ht : Tabs w) : Calls Tryd.prog 18 #[.int .i64 n] w fun e w' => e = .returned (.int .i64 (setS n)) ∧ Below w.heap.size w w' := by
  have HT := Lib.hid ht
  clear ht
  by_cases h : 0 ≤ n ∧ n ≤ 1000000000
  · have hd : decide (0 ≤ n ∧ n ≤ 1000000000) = true := by simpa using h
    have HD := Lib.hid hd
    have hn : setS n = if n < 16 then ((2 ^ n.toNat : Nat) : Int) else maskS n := by unfold setS; rw [if_neg (by omega)]
    have HN := Lib.hid hn
    obtain ⟨h1, h2⟩ := h
    obtain ⟨k, rfl⟩ := Int.eq_ofNat_of_zero_le h1
    clear hd hn h1
    by_cases h16 : k < 16
    · have HP := Lib.hid (show wrap64 (2 ^ k) = ((2 ^ k : Nat) : Int) by
        have h_ : (2 : Nat) ^ k < 2 ^ 16 := Nat.pow_lt_pow_right (by omega) h16
        have e_ : ((2 : Int) ^ k) = ((2 ^ k : Nat) : Int) := by simp
        rw [e_]
        generalize (2 : Nat) ^ k = x at *
        unfold wrap64
        omega)
      go_enter Tryd.func18, Tryd.ntmps18
      go_wp2_with (first | (go_at_call 29; refine (isseed_calls _ _).mono ?_; rw [HD.out]; rintro e w1 ⟨rfl, hb1⟩; have HB1 := Lib.hid hb1; clear hb1))
      go_ret
      refine ⟨?_, HB1.out⟩
      rw [HN.out, if_pos (by omega), Int.toNat_natCast]
      show Ending.returned (.int .i64 (wrap64 (2 ^ k))) = _
      rw [HP.out]
    · go_enter Tryd.func18, Tryd.ntmps18
      go_wp2_with (first
        | (go_at_call 29; refine (isseed_calls _ _).mono ?_; rw [HD.out]; rintro e w1 ⟨rfl, hb1⟩; have HB1 := Lib.hid hb1; clear hb1)
        | (go_at_call 40; refine (mask_calls (k : Int) _ (HT.out.keep HB1.out)).mono ?_; rintro e w2 ⟨rfl, hb2⟩; have HB2 := Lib.hid (HB1.out.trans (hb2.mono HB1.out.size)); clear hb2))
      go_ret
      refine ⟨?_, HB2.out⟩
      rw [HN.out, if_neg (by omega)]
      rfl
  · have hd : decide (0 ≤ n ∧ n ≤ 1000000000) = false := by simpa using h
    have HD := Lib.hid hd
    have hn : setS n = 0 := by unfold setS; rw [if_pos (by omega)]
    have HN := Lib.hid hn
    clear hd hn h
    go_enter Tryd.func18, Tryd.ntmps18
    go_wp2_with (first | (go_at_call 29; refine (isseed_calls _ _).mono ?_; rw [HD.out]; rintro e w1 ⟨rfl, hb1⟩; have HB1 := Lib.hid hb1; clear hb1))
    go_ret
    exact ⟨by rw [HN.out]; rfl, HB1.out⟩
end Go.Proofs.YtknlbeojdmeljaaDoor.H
namespace Go.Proofs.YtknlbeojdmeljaaDoor.H
open Go.RowKit Go.Proofs.YtknlbeojdmeljaaDoorW.PrintWords Go.Proofs.YtknlbeojdmeljaaDoorW.PrintLast Go.Proofs.YtknlbeojdmeljaaDoorW.PrintMore Go.Proofs.YtknlbeojdmeljaaDoor.P
set_option linter.unusedVariables false
set_option linter.unusedSimpArgs false
theorem und93 : Tryd.prog.underlying 93 = some (.array 64 5) := by kernel_rfl
set_option maxHeartbeats 1000000 in
theorem tz64_core (x k idx : Nat) (w : World) (hx0 : ((x : Int) == 0) = false)
    (key : IntKind.u64.wrap (bits BinOp.and IntKind.u64 (x : Int) (IntKind.u64.wrap (-(x : Int))) * 285870213051353865) / 288230376151711744 = (idx : Int))
    (hi : idx < 64) (hk : k < 64) (hcell : w.cell? ⟨1, idx, none⟩ = some (.int .u8 k)) :
    Calls Tryd.prog 44 #[.int .u64 x] w fun e w' => e = .returned (.int .i64 k) ∧ w' = w := by
  go_enter Tryd.func44, Tryd.ntmps44
  go_wp2_with (simp only [key])
  go_ret
  exact ⟨rfl, rfl⟩
theorem tz_calls (x : Nat) (hx : x < 18446744073709551616) (w : World) (ht : Tabs w) :
    Calls Tryd.prog 44 #[.int .u64 (x : Int)] w fun e w' => e = .returned (.int .i64 ((Lib.ctz 64 x : Nat) : Int)) ∧ w' = w := by
  by_cases hx0 : x = 0
  · subst hx0
    go_enter Tryd.func44, Tryd.ntmps44
    go_wp2
    go_ret
    exact ⟨rfl, rfl⟩
  · obtain ⟨hlow, hk⟩ := Lib.lowest_bit 64 x hx0 hx
    obtain ⟨hi, htab⟩ := Lib.deBruijn64_at _ hk
    have hcell := ht.tz _ hi
    rw [htab] at hcell
    exact tz64_core x _ _ w (by simp; omega) (tz64_key x _ hx hx0 hlow) hi hk hcell
theorem tzu_calls (x : Nat) (hx : x < 18446744073709551616) (w : World) (ht : Tabs w) :
    Calls Tryd.prog 32 #[.int .u64 (x : Int)] w fun e w' => e = .returned (.int .i64 ((Lib.ctz 64 x : Nat) : Int)) ∧ w' = w := by
  have HT := Lib.hid ht
  have HX := Lib.hid hx
  clear ht hx
  go_enter Tryd.func32, Tryd.ntmps32
  go_wp2_with (first | (go_at_call 44; refine (tz_calls x HX.out _ HT.out).mono ?_; rintro e w' ⟨rfl, rfl⟩))
  go_ret
  exact ⟨rfl, rfl⟩
def hiS (m i : Nat) : Nat := m / 2 ^ i * 2 ^ i
theorem hiS_zero (m : Nat) : hiS m 0 = m := by simp [hiS]
theorem hiS_lt (m i : Nat) (h : m < 65536) : hiS m i < 65536 := Nat.lt_of_le_of_lt (Nat.div_mul_le_self _ _) h
theorem hiS_bit (m i j : Nat) : (hiS m i).testBit j = (decide (i ≤ j) && m.testBit j) := by
  unfold hiS
  rw [Nat.testBit_mul_two_pow, Nat.testBit_div_two_pow]
  by_cases h : i ≤ j
  · simp [h, Nat.sub_add_cancel h]
  · simp [h]
theorem ctz_bit {x : Nat} (h0 : x ≠ 0) (hx : x < 2 ^ 64) : x.testBit (Lib.ctz 64 x) = true ∧ ∀ j, j < Lib.ctz 64 x → x.testBit j = false := by
  unfold Lib.ctz
  rw [if_neg h0]
  obtain ⟨m, hm, _⟩ := Lib.ctzFrom_spec 64 x (by omega) hx
  generalize Lib.ctzFrom 64 x = k at hm
  rw [hm, Nat.mul_comm]
  refine ⟨?_, fun j hj => ?_⟩
  · rw [Nat.testBit_mul_two_pow]; simp
  · rw [Nat.testBit_mul_two_pow]; simp; omega
theorem ctz_eq {m i : Nat} (hm : m < 65536) (hi : i < 16) : (Lib.ctz 64 (hiS m i) = i) ↔ m.testBit i = true := by
  have hlt := hiS_lt m i hm
  by_cases h0 : hiS m i = 0
  · have h1 : m.testBit i = false := by
      have := hiS_bit m i i
      rw [h0] at this
      simpa using this.symm
    rw [h0, h1]
    simp [Lib.ctz]
    omega
  · obtain ⟨a, b⟩ := ctz_bit h0 (by omega)
    constructor
    · intro h
      rw [h, hiS_bit] at a
      simpa using a
    · intro h
      have h1 : (hiS m i).testBit i = true := by rw [hiS_bit]; simpa using h
      rw [hiS_bit] at a
      rcases Nat.lt_trichotomy (Lib.ctz 64 (hiS m i)) i with c | c | c
      · have : decide (i ≤ Lib.ctz 64 (hiS m i)) = false := by simpa using c
        rw [this] at a
        cases a
      · exact c
      · rw [b i c] at h1
        cases h1
theorem hiS_step {m i : Nat} (h : m.testBit i = true) : hiS m i &&& (hiS m i - 1) = hiS m (i + 1) := by
  have hodd : m / 2 ^ i = 2 * (m / 2 ^ (i + 1)) + 1 := by
    rw [Nat.testBit_eq_decide_div_mod_eq] at h
    simp at h
    rw [Nat.pow_succ, ← Nat.div_div_eq_div_mul]
    omega
  have hp := Nat.two_pow_pos i
  have e1 : hiS m i = 2 ^ i * (2 * (m / 2 ^ (i + 1)) + 1) := by unfold hiS; rw [hodd, Nat.mul_comm]
  have e2 : hiS m (i + 1) = 2 ^ i * (2 * (m / 2 ^ (i + 1))) := by
    unfold hiS
    rw [Nat.pow_succ, Nat.mul_comm, Nat.mul_assoc]
  generalize m / 2 ^ (i + 1) = q at e1 e2
  rw [e1, e2]
  apply Nat.eq_of_testBit_eq
  intro j
  have e3 : 2 ^ i * (2 * q + 1) - 1 = 2 ^ i * (2 * q) + (2 ^ i - 1) := by
    rw [Nat.mul_add, Nat.mul_one]
    omega
  rw [Nat.testBit_and, e3]
  by_cases hj : j < i
  · rw [Nat.mul_comm (2 ^ i) (2 * q), Nat.mul_comm (2 ^ i) (2 * q + 1), Nat.testBit_mul_two_pow, Nat.testBit_mul_two_pow, show decide (i ≤ j) = false by simpa using hj]
    simp
  · have h4 : (2 ^ i * (2 * q) + (2 ^ i - 1)).testBit j = (2 * q).testBit (j - i) := by
      rw [Nat.testBit_two_pow_mul_add _ (by omega), if_neg hj]
    rw [h4, Nat.mul_comm (2 ^ i), Nat.mul_comm (2 ^ i), Nat.testBit_mul_two_pow, Nat.testBit_mul_two_pow]
    simp only [show i ≤ j by omega, decide_true, Bool.true_and]
    cases hd : j - i with
    | zero => simp [Nat.testBit_zero]
    | succ d =>
      rw [Nat.testBit_succ, Nat.testBit_succ]
      have d1 : (2 * q + 1) / 2 = q := by omega
      have d2 : 2 * q / 2 = q := by omega
      rw [d1, d2, Bool.and_self]
theorem hiS_same {m i : Nat} (h : m.testBit i = false) : hiS m (i + 1) = hiS m i := by
  apply Nat.eq_of_testBit_eq
  intro j
  rw [hiS_bit, hiS_bit]
  by_cases e : j = i
  · subst e
    simp [h]
  · have : decide (i + 1 ≤ j) = decide (i ≤ j) := by
      rw [decide_eq_decide]
      omega
    rw [this]
end Go.Proofs.YtknlbeojdmeljaaDoor.H
namespace Go.Proofs.YtknlbeojdmeljaaDoor.H
open Go.RowKit Go.Proofs.YtknlbeojdmeljaaDoorW.PrintWords Go.Proofs.YtknlbeojdmeljaaDoorW.PrintLast Go.Proofs.YtknlbeojdmeljaaDoorW.PrintMore Go.Proofs.YtknlbeojdmeljaaDoor.P
set_option linter.unusedVariables false
set_option linter.unusedSimpArgs false
theorem C_cells {w : World} {g : Nat} {d : List Int} {t : TypeId} (h : w.heap[g]? = some (.cells (bys d).toArray t (0, 0))) (hl : d.length ≤ 9223372036854775807) : Kd.C (Kd.int .u8) w (some ⟨g, 0, none⟩) d.length d := by
  refine ⟨rfl, hl, fun _ => ⟨_, rfl, fun j p hj => ⟨[.int .u8 p], rfl, rfl, fun i u hu => ?_⟩⟩⟩
  match i, hu with
  | 0, hu =>
    simp at hu
    subst hu
    have e : (Kd.int .u8).sz = 1 := rfl
    rw [e]
    have h2 : w.cell? ⟨g, j, none⟩ = some (.int .u8 p) := by
      rw [cell_of_row w g j _ t (0, 0) h]
      simp [bys, hj]
    have e2 : (⟨g, 0, none⟩ : Addr).add (j * 1 + 0) = ⟨g, j, none⟩ := by
      rw [Nat.mul_one, Nat.add_zero]
      unfold Addr.add
      split
      · rename_i h0; subst h0; rfl
      · simp
    rw [e2]
    exact h2
theorem eql_nil1 (g : Nat) (w : World) : (Go.binOp .eql 22 (.slice (some ⟨g, 0, none⟩) 16 16) (.slice none 0 0)).run Tryd.prog w = .ok (.bool false) w := by kernel_rfl
theorem row0_R {w : World} {g : Nat} (base : Nat) (hb : base ≤ g) (h : w.heap[g]? = some (.cells #[] 5 (0, 0))) : Kd.R (Kd.int .u8) 5 w base (fun _ => True) (.slice (some ⟨g, 0, none⟩) 0 0) [] :=
  Kd.R_of_own ⟨by simp [encs], .inr ⟨g, 0, #[], rfl, hb, h, Nat.zero_le _, by decide, by rfl, by simp [encs]⟩⟩ (fun k hk' => trivial)
set_option maxRecDepth 100000 in
set_option maxHeartbeats 1000000 in
theorem clone_calls (g : Nat) (d : List Int) (hd : d.length = 16) (t : TypeId) (w : World) (h : w.heap[g]? = some (.cells (bys d).toArray t (0, 0))) :
    Calls Tryd.prog 33 #[.slice (some ⟨g, 0, none⟩) 16 16] w fun e w' => ∃ v, e = .returned v ∧ Kd.R (Kd.int .u8) 5 w' w.heap.size (fun _ => True) v d ∧ Below w.heap.size w w' := by
  have HD := Lib.hid hd
  have HC := Lib.hid (C_cells h (by omega))
  clear h hd
  go_enter Tryd.func33, Tryd.ntmps33
  have hnil := eql_nil1 g
  go_wp2_with (first
    | ((with_reducible refine gate_builtin (b := .append) (xs := #[.tmp 5, .tmp 6]) rfl ?_); at_builtin; refine Kd.R_append_rows (Kd.int .u8) (w0 := w) w.heap.size rfl (.tmp 5) (.tmp 6) 22 5 (.int .u8 0) 1 rfl Tryd.underlying22 info5 rfl (by decide) (by omega) (.slice (some ⟨w.heap.size, 0, none⟩) 0 0) ([] : List Int) d _ _ _ (fun _ => True) (fun _ => False) rfl rfl ?aO ?aR (fun _ _ h => h) (fun _ h => h.elim) (fun _ _ => trivial) ?aB ?aS ?aL ?_; (case aO => exact row0_R _ (Nat.le_refl _) (blk_new rfl)); (case aR => have h_ := Kd.C_below HC.out ((Below.refl w.heap.size w).alloc (Nat.le_refl _) (.cells #[] 5)); rw [HD.out] at h_; exact h_); (case aB => exact (Below.refl _ _).alloc (Nat.le_refl _) _); (case aS => simp); (case aL => simp); intro v1 w1 ho hb hg hat; rw [List.nil_append] at ho; have HO := Lib.hid ho; have HB := Lib.hid hb; clear ho hb hg hat))
  go_ret
  exact ⟨_, rfl, HO.out, HB.out⟩
end Go.Proofs.YtknlbeojdmeljaaDoor.H
namespace Go.Proofs.YtknlbeojdmeljaaDoor.H
open Go.RowKit Go.Proofs.YtknlbeojdmeljaaDoorW.PrintWords Go.Proofs.YtknlbeojdmeljaaDoorW.PrintLast Go.Proofs.YtknlbeojdmeljaaDoorW.PrintMore Go.Proofs.YtknlbeojdmeljaaDoor.P
set_option linter.unusedVariables false
set_option linter.unusedSimpArgs false
theorem und54 : Tryd.prog.underlying 54 = some (.array 16 5) := by kernel_rfl
theorem size54 : (Tryd.prog.info? 54).map (·.size) = some 16 := by kernel_rfl
/-- one block was written; new blocks -/
def But (S : Nat) (w w' : World) : Prop := (∀ k, k < w.heap.size → k ≠ S → w'.heap[k]? = w.heap[k]?) ∧ Below S w w'
theorem But.size {S : Nat} {w w' : World} (h : But S w w') : w.heap.size ≤ w'.heap.size := h.2.size
theorem But.below {S : Nat} {w w' : World} (hb : Below w.heap.size w w') (hS : S ≤ w.heap.size) : But S w w' := ⟨fun k hk _ => hb.block k hk, hb.mono hS⟩
theorem But.trans {S : Nat} {a b c : World} (h : But S a b) (k : But S b c) : But S a c :=
  ⟨fun j hj hne => (k.1 j (Nat.lt_of_lt_of_le hj h.2.size) hne).trans (h.1 j hj hne), h.2.trans k.2⟩
theorem But.set {S : Nat} {a b : World} (h : But S a b) (o : Nat) (v : Value) : But S a (b.setCell ⟨S, o, none⟩ v) :=
  ⟨fun j hj hne => (Below.heap_setCell b ⟨S, o, none⟩ v j hne).trans (h.1 j hj hne), h.2.setCell (p := ⟨S, o, none⟩) (Nat.le_refl _) v⟩
theorem But.drew {S : Nat} {a b : World} (h : But S a b) : But S a b.drew := ⟨h.1, h.2.drew⟩
set_option maxRecDepth 100000 in
set_option maxHeartbeats 1000000 in
/-- the closure: sum ^= x -/
theorem addc_calls (a b : List Int) (ha : a.length = 16) (hb : b.length = 16) (S : Nat) (w : World) (hS : w.heap[S]? = some (.cells (bys a).toArray 54 (0, 0))) :
    Calls Tryd.prog 30 #[.agg (bys b).toArray, .pointer (some ⟨S, 0, none⟩)] w fun e w' => (∃ v, e = .returned v) ∧ w'.heap[S]? = some (.cells (bys (xorD a b)).toArray 54 (0, 0)) ∧ But S w w' := by
  have hlt := (Array.getElem?_eq_some_iff.1 hS).1
  have hA : (w.alloc (.cells (bys b).toArray 54)).heap[S]? = some (.cells (bys a).toArray 54 (0, 0)) := (Below.heap_alloc _ _ _ hlt).trans hS
  have HA := Lib.hid hA
  have HBW := Lib.hid (But.below ((Below.refl w.heap.size w).alloc (Nat.le_refl _) (.cells (bys b).toArray 54)) (show S ≤ w.heap.size by omega))
  have HN := Lib.hid (blk_new (w := w) (o := .cells (bys b).toArray 54) rfl)
  clear hS hA
  go_enter Tryd.func30, Tryd.ntmps30
  go_wp2
  go_loopw [3, 4] (fun _ i wr => ∃ k : Nat, k ≤ 16 ∧ i = .int .i64 k ∧ wr.heap[S]? = some (.cells (bys (mixd a b k)).toArray 54 (0, 0)) ∧ wr.heap[w.heap.size]? = some (.cells (bys b).toArray 54 (0, 0)) ∧ But S w wr)
    (fun _ i _ => 16 - (intOf i).toNat)
  case atStart => exact ⟨0, by omega, rfl, by rw [mixd_zero]; exact HA.out, HN.out, HBW.out⟩
  case round =>
    obtain ⟨k, hk, rfl, h1, h2, hB⟩ := hrel
    by_cases hkt : k < 16
    · have c1 : wr.cell? ⟨S, k, none⟩ = some (.int .u8 (a.getD k 0)) := by
        rw [cell_of_row wr _ k _ 54 (0, 0) h1, bys_at _ _ (by rw [mixd_len a b k ha hb]; exact hkt), mixd_at a b k ha hb hkt]
      have c2 : wr.cell? ⟨w.heap.size, k, none⟩ = some (.int .u8 (b.getD k 0)) := by
        rw [cell_of_row wr _ k _ 54 (0, 0) h2, bys_at _ _ (by omega)]
      have f1 : wr.frozen? ⟨S, k, none⟩ = false := frozen_of_row wr _ k _ 54 h1
      have h4 : (wr.setCell ⟨S, k, none⟩ (.int .u8 (xorB (a.getD k 0) (b.getD k 0)))).heap[S]? = some (.cells (bys (mixd a b (k + 1))).toArray 54 (0, 0)) := by
        rw [heap_setCell_same wr _ k _ 54 _ h1, ← mixd_set a b k ha hb hkt]
        simp [bys]
      have h5 : (wr.setCell ⟨S, k, none⟩ (.int .u8 (xorB (a.getD k 0) (b.getD k 0)))).heap[w.heap.size]? = some (.cells (bys b).toArray 54 (0, 0)) := by
        rw [Below.heap_setCell wr _ _ _ (by simp; omega)]; exact h2
      have h7 := hB.set k (.int .u8 (xorB (a.getD k 0) (b.getD k 0)))
      obtain ⟨x, hx⟩ : ∃ x, x = a.getD k 0 := ⟨_, rfl⟩
      obtain ⟨y, hy⟩ : ∃ y, y = b.getD k 0 := ⟨_, rfl⟩
      rw [← hx] at c1 h4 h5 h7
      rw [← hy] at c2 h4 h5 h7
      clear h1 h2 hx hy hB
      have H4 := Lib.hid h4; clear h4
      have H5 := Lib.hid h5; clear h5
      have H7 := Lib.hid h7; clear h7
      go_wp2
      go_region
      all_goals go_wp2
      all_goals go_roundw
      case rel => exact ⟨k + 1, by omega, by go_num, H4.out, H5.out, H7.out.drew⟩
      case measure => simp [intOf]; omega
    · obtain rfl : k = 16 := by omega
      rw [mixd_all a b ha hb] at h1
      have H1 := Lib.hid h1
      clear h1 h2
      go_wp2
      go_end0
      exact ⟨⟨_, rfl⟩, H1.out, hB⟩
def blk (B : List Int) (i : Nat) : List Int := (B.drop (16 * i)).take 16
theorem blk_len {B : List Int} (hB : B.length = 256) {i : Nat} (hi : i < 16) : (blk B i).length = 16 := by simp [blk, hB]; omega
theorem blocks_calls (A : Option Addr) (c : Nat) (w : World) : Calls Tryd.prog 31 #[.slice A 256 c] w fun e w' => e = .returned (.func (.func 42) #[] #[.pointer (some ⟨w.heap.size, 0, none⟩)]) ∧ w' = w.alloc (.cells #[.slice A 256 c] 22) := by
  go_enter Tryd.func31, Tryd.ntmps31
  go_wp2
  go_ret
  exact ⟨rfl, rfl⟩
end Go.Proofs.YtknlbeojdmeljaaDoor.H
namespace Go.Proofs.YtknlbeojdmeljaaDoor.H
open Go.RowKit Go.Proofs.YtknlbeojdmeljaaDoorW.PrintWords Go.Proofs.YtknlbeojdmeljaaDoorW.PrintLast Go.Proofs.YtknlbeojdmeljaaDoorW.PrintMore Go.Proofs.YtknlbeojdmeljaaDoor.P
set_option linter.unusedVariables false
set_option linter.unusedSimpArgs false
theorem run_loadVar_any {P : Program} (w : World) (q : Addr) (ty : TypeId) (cs : List Value) (d : TypeDesc) (hc : ∀ j v, cs[j]? = some v → w.cell? (q.add j) = some v)
    (hu : P.underlying ty = some d) (hd : d.isRow = true) (hi : (P.info? ty).map (·.size) = some cs.length) : (loadVar ty q).run P w = .ok (.agg cs.toArray) w := by
  have hl : (loadCells q cs.length).run P w = .ok cs.toArray w := run_loadCells_list (P := P) w q cs hc
  cases hq : P.info? ty with
  | none => simp [hq] at hi
  | some i =>
    have hs : i.size = cs.length := by simpa [hq] using hi
    have hagg : (isAgg ty).run P w = .ok true w := by
      unfold isAgg
      rw [Sem.run_bind, run_underlying hu w]
      cases d <;> simp_all
    simp [loadVar, Sem.run_bind, hagg, sizeOf, typeInfo, hq, hs, hl]
theorem wpListIn_load_any {F : Fence} {n : Nat} {P : Program} {ops : Array Oper} {rest : List Oper} {op : Oper} {a : Act} {w : World} {Q : Exit → Act → World → Prop} (hgd : op.guard = none) (ty : TypeId) (x : Operand) (ho : op.op = .load ty x)
    (q : Addr) (hx : a.eval x = .pointer (some q)) (cs : List Value) (d : TypeDesc) (hc : ∀ j v, cs[j]? = some v → w.cell? (q.add j) = some v)
    (hu : P.underlying ty = some d) (hd : d.isRow = true) (hi : (P.info? ty).map (·.size) = some cs.length)
    (h : wpListIn F n P ops Q rest (a.put op.dst (.agg cs.toArray)) w) : wpListIn F n P ops Q (op :: rest) a w := by
  refine wpListIn_plain hgd fun K' hK' => ?_
  unfold Oper.wpIn
  refine ⟨by simp [Oper.about, ho], ?_⟩
  rw [Oper.semAt_plain F _ _ (by rw [ho]; intro c hc'; cases hc')]
  unfold execOp
  simp only [ho, hx, Instr.loadAt, Instr.sureAddr, Sem.run_bind, Sem.run_pure, Result.andThen_ok, run_loadVar_any w q ty cs d hc hu hd hi]
  exact hK' _ _ h
theorem add_add (a : Addr) (n m : Nat) : (a.add n).add m = a.add (n + m) := by
  unfold Addr.add
  by_cases h1 : n = 0 <;> by_cases h2 : m = 0 <;> simp [h1, h2] <;> omega
theorem blk_get {B : List Int} (hB : B.length = 256) {k j : Nat} {v : Value} (hk : k < 16) (h : (bys (blk B k))[j]? = some v) : v = .int .u8 (B.getD (k * 16 + j) 0) ∧ k * 16 + j < 256 := by
  have hj : j < 16 := by
    have := (List.getElem?_eq_some_iff.1 h).1
    rwa [bys_len, blk_len hB hk] at this
  have hlt : k * 16 + j < B.length := by omega
  have e : (blk B k)[j]? = some (B.getD (k * 16 + j) 0) := by
    unfold blk
    rw [List.getElem?_take_of_lt hj, List.getElem?_drop, show 16 * k + j = k * 16 + j by omega, List.getElem?_eq_getElem hlt, List.getD_eq_getElem?_getD, List.getElem?_eq_getElem hlt]
    rfl
  unfold bys at h
  rw [List.getElem?_map, e] at h
  exact ⟨(Option.some.inj h).symm, by omega⟩
structure Pg (Bs : Nat) (A : Option Addr) (c : Nat) (B : List Int) (W : World) : Prop where
  cell : W.cell? ⟨Bs, 0, none⟩ = some (.slice A 256 c)
  page : Kd.C (Kd.int .u8) W A 256 B
def encB (B : List Int) (i : Fin 16) : Array Value := #[.int .i64 (i.val : Int), .agg (bys (blk B i.val)).toArray]
def fr (k : Nat) : List (Fin 16) := (List.finRange 16).take k
theorem fr_len {k : Nat} (h : k ≤ 16) : (fr k).length = k := by simp [fr]; omega
theorem fr_succ {k : Nat} (h : k < 16) : fr (k + 1) = fr k ++ [⟨k, h⟩] := by
  unfold fr
  rw [List.take_succ_eq_append_getElem (by simpa using h)]
  simp
set_option maxRecDepth 100000 in
set_option maxHeartbeats 1000000 in
theorem page_in (n l Bs : Nat) (A : Option Addr) (c : Nat) (hc : 256 ≤ c) (B : List Int) (J Jx : List (Fin 16) → World → Prop) (Kp : World → World → Prop) (G : World → Prop) (W : World) (hG : ∀ X, G X → Pg Bs A c B X) (hK : ∀ X Y, Kp X Y → G X → G Y) (hp : G W)
    (hY : ∀ pre x W, J pre W → pre.length < 16 → YieldAt Fence.wide (n - 1) Tryd.prog l (encB B x) W fun e W' =>
      (e = .returned (.bool true) ∧ J (pre ++ [x]) W' ∧ Kp W W') ∨ (e = .returned (.bool false) ∧ Jx (pre ++ [x]) W')) (h0 : J [] W) :
    CallsIn Fence.wide n Tryd.prog 42 #[.func (.yield l) #[] #[], .pointer (some ⟨Bs, 0, none⟩)] W fun e W' => (∃ v, e = .returned v) ∧
      ((∃ ys, ys = fr 16 ∧ J ys W') ∨ (∃ pre, True ∧ Jx pre W')) := by
  have hro : Fence.wide.round = none := rfl
  have HY := Lib.hid hY
  have HK := Lib.hid hK
  have HP := Lib.hid hp
  have HG := Lib.hid hG
  clear hY hK hp hG
  refine callsIn_of_wp Tryd.func42 rfl trivial ?_ hro
  simp only [Tryd.ntmps42, List.size_toArray, List.length_cons, List.length_nil, Nat.reduceAdd, Nat.reduceSub, Array.replicate_succ, Array.replicate_zero, List.push_toArray, List.append_toArray, List.nil_append, List.cons_append]
  gi_wp2
  gi_loopw [3, 4] (fun _ i wr => ∃ k : Nat, k ≤ 16 ∧ i = .int .i64 k ∧ J (fr k) wr ∧ G wr) (fun _ i _ => 16 - (intOf i).toNat)
  case atStart => exact ⟨0, Nat.zero_le _, rfl, h0, HP.out⟩
  case round =>
    obtain ⟨k, hk, rfl, hJ, hg⟩ := hrel
    by_cases hlt : k < 16
    · have hP := HG.out _ hg
      have hcell := hP.cell
      have hB : B.length = 256 := hP.page.1
      obtain ⟨ad, hA, _⟩ := Kd.at_int hP.page 0 (by omega) (by omega)
      subst hA
      obtain ⟨q, hq⟩ : ∃ q : Addr, q = ad.add (k * 16) := ⟨_, rfl⟩
      have hrange : ∀ j v, (bys (blk B k))[j]? = some v → wr.cell? (q.add j) = some v := by
        intro j v hv
        obtain ⟨rfl, hj⟩ := blk_get hB hlt hv
        obtain ⟨ad', e', hc'⟩ := Kd.at_int hP.page ((k * 16 + j : Nat) : Int) (by omega) (by omega)
        cases e'
        rw [Int.toNat_natCast] at hc'
        rw [hq, add_add, hc']
        rfl
      have hsap : ∀ w, (Instr.arrayAt 54 (.slice (some (ad.add (k * 16))) (256 - k * 16) (c - k * 16))).run Tryd.prog w = .ok (.pointer (some q)) w := by
        intro w
        rw [hq]
        simp only [Instr.arrayAt, Sem.run_bind, run_underlying und54, Result.andThen_ok]
        rw [if_neg (by omega)]
        rfl
      have HQ := Lib.hid hq
      have hlen := blk_len hB hlt
      have HLN := Lib.hid (show (Tryd.prog.info? 54).map (·.size) = some (bys (blk B k)).length by rw [size54, bys_len, hlen])
      obtain ⟨E, hE⟩ : ∃ E, E = bys (blk B k) := ⟨_, rfl⟩
      rw [← hE] at hrange HLN
      have HE := Lib.hid hE
      clear hq hlen hE
      have HR := Lib.hid hrange
      have HJ := Lib.hid hJ
      have HPG := Lib.hid hg
      have hb1 : (k : Int) * 16 ≤ 256 := by omega
      have hb0 : 0 ≤ (k : Int) * 16 := by omega
      have HFS := Lib.hid (fr_succ hlt)
      clear hrange hJ hP hg
      obtain ⟨fn, tmps, assign, body, hy, hR⟩ := HY.out _ ⟨k, hlt⟩ wr HJ.out (by rw [fr_len hk]; exact hlt)
      simp only [encB, ← HE.out] at hy
      have HRR := Lib.hid hR
      clear hR
      gi_wp2_with (refine wpListIn_load_any rfl 54 _ rfl q rfl E _ HR.out und54 rfl HLN.out ?_)
      refine ⟨wide_depth, HRR.out.mono ?_⟩
      rintro e W3 (⟨rfl, hJ3, hk3⟩ | ⟨rfl, hJx3⟩)
      · gi_wp2
        go_roundw
        case rel => exact ⟨k + 1, by omega, by go_num, by rw [HFS.out]; exact hJ3, HK.out _ _ hk3 HPG.out⟩
        case measure => simp [intOf]; omega
      · gi_wp2
        refine bodyPost_ret (results_none rfl _ _ _) rfl ?_
        exact ⟨⟨_, rfl⟩, .inr ⟨_, trivial, hJx3⟩⟩
    · obtain rfl : k = 16 := by omega
      gi_wp2
      go_end0
      exact ⟨⟨_, rfl⟩, .inl ⟨_, rfl, hJ⟩⟩
theorem page_stops (n Bs : Nat) (A : Option Addr) (c : Nat) (hc : 256 ≤ c) (B : List Int) (Kp : World → World → Prop) (G : World → Prop) (w : World) (hG : ∀ X, G X → Pg Bs A c B X) (hK : ∀ X Y, Kp X Y → G X → G Y) (hp : ∀ X, Below w.heap.size w X → G X) :
    SeqStopsK Fence.wide n Tryd.prog 42 #[.pointer (some ⟨Bs, 0, none⟩)] (encB B) Kp (fun ys => ys = fr 16) (fun _ => True) 16 w := fun l J Jx W hW hJ _ hY h0 =>
  page_in n l Bs A c hc B J Jx Kp G W hG hK (hp W hW) hY h0
end Go.Proofs.YtknlbeojdmeljaaDoor.H
namespace Go.Proofs.YtknlbeojdmeljaaDoor.H
open Go.RowKit Go.Proofs.YtknlbeojdmeljaaDoorW.PrintWords Go.Proofs.YtknlbeojdmeljaaDoorW.PrintLast Go.Proofs.YtknlbeojdmeljaaDoorW.PrintMore Go.Proofs.YtknlbeojdmeljaaDoor.P
set_option linter.unusedVariables false
set_option linter.unusedSimpArgs false
/-- one round of the encoding: the sum and what is left of the set -/
def stepE (B : List Int) (x : List Int × Nat) (i : Nat) : List Int × Nat := if Lib.ctz 64 x.2 = i then (xorD x.1 (blk B i), x.2 &&& (x.2 - 1)) else x
def foldE (B : List Int) (m : Nat) (l : List (Fin 16)) : List Int × Nat := l.foldl (fun x i => stepE B x i.val) (List.replicate 16 0, m)
def goodE (n p s : Int) : Prop := n = 256 ∧ (0 ≤ p ∧ p < 16) ∧ 0 ≤ s ∧ s ≤ 1000000000
instance (n p s : Int) : Decidable (goodE n p s) := by unfold goodE; infer_instance
theorem foldE_snoc (B : List Int) (m : Nat) (l : List (Fin 16)) (i : Fin 16) : foldE B m (l ++ [i]) = stepE B (foldE B m l) i.val := by simp [foldE]
theorem stepE_ok {B : List Int} (hB : B.length = 256) {x : List Int × Nat} {i : Nat} (hi : i < 16) (h : x.1.length = 16 ∧ x.2 < 65536) : (stepE B x i).1.length = 16 ∧ (stepE B x i).2 < 65536 := by
  unfold stepE
  split
  · refine ⟨?_, Nat.lt_of_le_of_lt Nat.and_le_left h.2⟩
    simp [xorD, h.1, blk_len hB hi]
  · exact h
theorem foldE_ok {B : List Int} (hB : B.length = 256) {m : Nat} (hm : m < 65536) (l : List (Fin 16)) : (foldE B m l).1.length = 16 ∧ (foldE B m l).2 < 65536 := by
  unfold foldE
  have : ∀ (l : List (Fin 16)) (x : List Int × Nat), x.1.length = 16 ∧ x.2 < 65536 → (l.foldl (fun x i => stepE B x i.val) x).1.length = 16 ∧ (l.foldl (fun x i => stepE B x i.val) x).2 < 65536 := by
    intro l
    induction l with
    | nil => exact fun x h => h
    | cons a l ih => exact fun x h => ih _ (stepE_ok hB a.2 h)
  exact this l _ ⟨by simp, hm⟩
theorem size26 : (Tryd.prog.info? 26).map (·.size) = some 4 := by kernel_rfl
set_option maxRecDepth 100000 in
set_option maxHeartbeats 1000000 in
theorem encode_bad (A : Option Addr) (n c : Nat) (p s : Int) (w : World) (hg : ¬ goodE n p s) :
    Calls Tryd.prog 12 #[.slice A n c, .int .i64 p, .int .i64 s] w fun e w' => Below w.heap.size w w' ∧ e = .returned (.tuple #[.agg #[.int .i64 0, .int .i64 0, .slice none 0 0, .slice none 0 0], .int .i64 1]) := by
  refine (callsIn_wide (n := 3)).1 (callsIn_of_wp_marks Tryd.func12 rfl trivial (wpIn_wide.2 ?_) rfl)
  simp only [Tryd.ntmps12, List.size_toArray, List.length_cons, List.length_nil, Nat.reduceAdd, Nat.reduceSub, Array.replicate_succ, Array.replicate_zero, List.push_toArray, List.append_toArray, List.nil_append, List.cons_append]
  have hu26 := Tryd.underlying26
  have hb0 : Below w.heap.size w (w.alloc (.cells #[.int .i64 0, .int .i64 0, .slice none 0 0, .slice none 0 0] 26)) := (Below.refl _ _).alloc (Nat.le_refl _) _
  have hn0 : (w.alloc (.cells #[.int .i64 0, .int .i64 0, .slice none 0 0, .slice none 0 0] 26)).heap[w.heap.size]? = some (.cells #[.int .i64 0, .int .i64 0, .slice none 0 0, .slice none 0 0] 26 (0, 0)) := blk_new rfl
  have HB0 := Lib.hid hb0
  have HN0 := Lib.hid hn0
  clear hb0 hn0
  have hone : ∀ v ∈ [Value.int .i64 0, .int .i64 0, .slice none 0 0, .slice none 0 0], v.oneCell' = true := by decide
  by_cases hn : n = 256
  · subst hn
    by_cases hp : 0 ≤ p ∧ p < 16
    · have hs : decide (0 ≤ s ∧ s ≤ 1000000000) = false := decide_eq_false (fun h => hg ⟨rfl, hp, h⟩)
      have hp' : decide (0 ≤ p ∧ p < 16) = true := by simpa using hp
      have HP := Lib.hid hp'
      have HS := Lib.hid hs
      clear hg hp hp' hs
      go_wp2_with (first
        | (go_at_call 28; refine (ispage_calls _ _).mono ?_; rw [HP.out]; rintro e w1 ⟨rfl, hb1⟩; have HB1 := Lib.hid (HB0.out.trans (hb1.mono HB0.out.size)); have HN1 := Lib.hid ((hb1.block _ (by simp)).trans HN0.out); clear hb1)
        | (go_at_call 29; refine (isseed_calls _ _).mono ?_; rw [HS.out]; rintro e w2 ⟨rfl, hb2⟩; have HB2 := Lib.hid (HB1.out.trans (hb2.mono HB1.out.size)); have HN2 := Lib.hid ((hb2.block _ (Array.getElem?_eq_some_iff.1 HN1.out).1).trans HN1.out); clear hb2)
        | (refine wpList_store_row rfl 26 _ _ rfl _ [.int .i64 0, .int .i64 0, .slice none 0 0, .slice none 0 0] _ 26 rfl rfl HN2.out rfl size26 hone ?_; intro w3 g1 g2 g3 g4; have HB3 := Lib.hid (g4 _ _ (Nat.le_refl _) HB2.out); have HN3 := Lib.hid g1; clear g1 g2 g3 g4))
      exact ⟨_, results_ct rfl _ _ w.heap.size 26 _ (0, 0) _ rfl HN3.out hu26 rfl size26, HB3.out, rfl⟩
    · have hp' : decide (0 ≤ p ∧ p < 16) = false := decide_eq_false hp
      have HP := Lib.hid hp'
      clear hg hp hp'
      go_wp2_with (first
        | (go_at_call 28; refine (ispage_calls _ _).mono ?_; rw [HP.out]; rintro e w1 ⟨rfl, hb1⟩; have HB1 := Lib.hid (HB0.out.trans (hb1.mono HB0.out.size)); have HN1 := Lib.hid ((hb1.block _ (by simp)).trans HN0.out); clear hb1)
        | (refine wpList_store_row rfl 26 _ _ rfl _ [.int .i64 0, .int .i64 0, .slice none 0 0, .slice none 0 0] _ 26 rfl rfl HN1.out rfl size26 hone ?_; intro w3 g1 g2 g3 g4; have HB3 := Lib.hid (g4 _ _ (Nat.le_refl _) HB1.out); have HN3 := Lib.hid g1; clear g1 g2 g3 g4))
      exact ⟨_, results_ct rfl _ _ w.heap.size 26 _ (0, 0) _ rfl HN3.out hu26 rfl size26, HB3.out, rfl⟩
  · have e1 : ((n : Int) == 256) = false := by simp; omega
    clear hg
    go_wp2_with (first
        | (refine wpList_store_row rfl 26 _ _ rfl _ [.int .i64 0, .int .i64 0, .slice none 0 0, .slice none 0 0] _ 26 rfl rfl HN0.out rfl size26 hone ?_; intro w3 g1 g2 g3 g4; have HB3 := Lib.hid (g4 _ _ (Nat.le_refl _) HB0.out); have HN3 := Lib.hid g1; clear g1 g2 g3 g4))
    exact ⟨_, results_ct rfl _ _ w.heap.size 26 _ (0, 0) _ rfl HN3.out hu26 rfl size26, HB3.out, rfl⟩
end Go.Proofs.YtknlbeojdmeljaaDoor.H
namespace Go.Proofs.YtknlbeojdmeljaaDoor.H
open Go.RowKit Go.Proofs.YtknlbeojdmeljaaDoorW.PrintWords Go.Proofs.YtknlbeojdmeljaaDoorW.PrintLast Go.Proofs.YtknlbeojdmeljaaDoorW.PrintMore Go.Proofs.YtknlbeojdmeljaaDoor.P
set_option linter.unusedVariables false
set_option linter.unusedSimpArgs false
def KE (base k : Nat) (X Y : World) : Prop := Below base X Y ∧ Y.heap[k]? = X.heap[k]?
theorem KE.trans {base k : Nat} {A B C : World} (h : KE base k A B) (g : KE base k B C) : KE base k A C := ⟨h.1.trans g.1, g.2.trans h.2⟩
theorem u64_low (y : Nat) (h1 : 1 ≤ y) (h2 : y < 65536) : Go.bits .and .u64 (y : Int) (IntKind.u64.wrap ((y : Int) - 1)) = ((y &&& (y - 1) : Nat) : Int) := by
  have hw : IntKind.u64.wrap ((y : Int) - 1) = ((y - 1 : Nat) : Int) := by rw [IntKind.wrap_u64]; omega
  rw [hw]
  have e1 : (BitVec.ofInt 64 (y : Int)).toNat = y := by rw [BitVec.ofInt_natCast, BitVec.toNat_ofNat]; exact Nat.mod_eq_of_lt (by omega)
  have e2 : (BitVec.ofInt 64 ((y - 1 : Nat) : Int)).toNat = y - 1 := by rw [BitVec.ofInt_natCast, BitVec.toNat_ofNat]; exact Nat.mod_eq_of_lt (by omega)
  have hx : y &&& (y - 1) ≤ y := Nat.and_le_left
  show IntKind.u64.wrap ((BitVec.ofInt 64 (y : Int) &&& BitVec.ofInt 64 ((y - 1 : Nat) : Int)).toNat : Int) = _
  rw [BitVec.toNat_and, e1, e2, IntKind.wrap_u64]
  omega
theorem run_store_func' {P : Program} {w : World} {a : Addr} {m : Mode} (f : Fn) (x y : Array Value) : (store a (.func f x y) m).run P w = stored P w a (.func f x y) m := run_store P w a _ m rfl
attribute [local go_sem] run_store_func'
set_option maxRecDepth 100000 in
set_option maxHeartbeats 1000000 in
theorem encode_good (A : Option Addr) (c : Nat) (B : List Int) (p s : Int) (w : World) (hc : 256 ≤ c) (hr : Kd.C (Kd.int .u8) w A 256 B) (ht : Tabs w) (hp : 0 ≤ p ∧ p < 16) (hs : 0 ≤ s ∧ s ≤ 1000000000) :
    Calls Tryd.prog 12 #[.slice A 256 c, .int .i64 p, .int .i64 s] w fun e w' => ∃ v, e = .returned (.tuple #[.agg #[.int .i64 p, .int .i64 s, v, .slice none 0 0], .int .i64 0]) ∧ Kd.R (Kd.int .u8) 5 w' w.heap.size (fun _ => True) v (foldE B (setS s).toNat (fr 16)).1 ∧ Below w.heap.size w w' := by
  refine (callsIn_wide (n := 3)).1 (callsIn_of_wp_marks Tryd.func12 rfl trivial (wpIn_wide.2 ?_) rfl)
  simp only [Tryd.ntmps12, List.size_toArray, List.length_cons, List.length_nil, Nat.reduceAdd, Nat.reduceSub, Array.replicate_succ, Array.replicate_zero, List.push_toArray, List.append_toArray, List.nil_append, List.cons_append]
  have HR := Lib.hid hr
  have HT := Lib.hid ht
  have hsr := setS_range s hs.1 hs.2
  obtain ⟨m, hm⟩ : ∃ m : Nat, setS s = (m : Int) := ⟨(setS s).toNat, by omega⟩
  have hm1 : 1 ≤ m ∧ m < 65536 := by omega
  have HM := Lib.hid hm
  have HM1 := Lib.hid hm1
  have hp' : decide (0 ≤ p ∧ p < 16) = true := by simpa using hp
  have HP := Lib.hid hp'
  have hs' : decide (0 ≤ s ∧ s ≤ 1000000000) = true := by simpa using hs
  have HS := Lib.hid hs'
  have hu26 := Tryd.underlying26
  have hu54 := und54
  have hBl : B.length = 256 := hr.1
  have HBL := Lib.hid hBl
  have hcv : IntKind.u64.wrap (m : Int) = (m : Int) := by rw [IntKind.wrap_u64]; omega
  have HCV := Lib.hid hcv
  have hb0 : Below w.heap.size w (w.alloc (.cells #[.int .i64 0, .int .i64 0, .slice none 0 0, .slice none 0 0] 26)) := (Below.refl _ _).alloc (Nat.le_refl _) _
  have hn0 : (w.alloc (.cells #[.int .i64 0, .int .i64 0, .slice none 0 0, .slice none 0 0] 26)).heap[w.heap.size]? = some (.cells #[.int .i64 0, .int .i64 0, .slice none 0 0, .slice none 0 0] 26 (0, 0)) := blk_new rfl
  have HB0 := Lib.hid hb0
  have HN0 := Lib.hid hn0
  clear hb0 hn0 hr ht hsr hm hm1 hp' hs' hp hs hcv hBl
  have hmf : ∀ (fn : Fn) (first cap : Array Value) (w : World), (Instr.makeFunc fn first cap).run Tryd.prog w = .ok (.func fn first cap) w := fun _ _ _ _ => rfl
  go_wp2_with (first
    | (go_at_call 28; refine (ispage_calls _ _).mono ?_; rw [HP.out]; rintro e w1 ⟨rfl, hb1⟩; have HB1 := Lib.hid (HB0.out.trans (hb1.mono HB0.out.size)); have HN1 := Lib.hid ((hb1.block _ (by simp)).trans HN0.out); clear hb1)
    | (go_at_call 29; refine (isseed_calls _ _).mono ?_; rw [HS.out]; rintro e w2 ⟨rfl, hb2⟩; have HB2 := Lib.hid (HB1.out.trans (hb2.mono HB1.out.size)); have HN2 := Lib.hid ((hb2.block _ (Array.getElem?_eq_some_iff.1 HN1.out).1).trans HN1.out); clear hb2)
    | (go_at_call 18; have hsz := HB2.out.size; have hB2 := (HB2.out.alloc hsz (.cells #[.int .u8 0, .int .u8 0, .int .u8 0, .int .u8 0, .int .u8 0, .int .u8 0, .int .u8 0, .int .u8 0, .int .u8 0, .int .u8 0, .int .u8 0, .int .u8 0, .int .u8 0, .int .u8 0, .int .u8 0, .int .u8 0] 54)).alloc (by simp; omega) (.cells #[.func (.func 30) #[] #[.pointer (some ⟨w2.heap.size, 0, none⟩)]] 55); refine (set_calls s _ (HT.out.keep hB2)).mono ?_; rw [HM.out]; rintro e w3 ⟨rfl, hb3⟩; have HB3 := Lib.hid (hB2.trans (hb3.mono hB2.size)); have HZ3 := Lib.hid hb3.size; have HN3 := Lib.hid ((hb3.block _ (by simp; omega)).trans (((Below.heap_alloc _ _ _ (by simp; omega)).trans (Below.heap_alloc _ _ _ (Array.getElem?_eq_some_iff.1 HN2.out).1)).trans HN2.out)); have HS3 := Lib.hid ((hb3.block w2.heap.size (by simp; omega)).trans ((Below.heap_alloc _ _ _ (by simp)).trans (blk_new rfl))); have HF3 := Lib.hid ((hb3.block (w2.heap.size + 1) (by simp)).trans (blk_new (by simp))); clear hb3 hB2 hsz)
    | (go_at_call 31; refine (blocks_calls _ _ _).mono ?_; rintro e w4 ⟨rfl, rfl⟩))
  rw [HCV.out]
  have hz2 := HB2.out.size
  have hz3 := HZ3.out
  have hlt2 := (Array.getElem?_eq_some_iff.1 HN2.out).1
  simp only [World.size_alloc] at hz3
  have hB0 : Below w.heap.size w ((w3.alloc (.cells #[.int .u64 (m : Int)] 56)).alloc (.cells #[.slice A 256 c] 22)) := (HB3.out.alloc HB3.out.size _).alloc (by simp; omega) _
  have hmv : ∀ k, k < w3.heap.size → ((w3.alloc (.cells #[.int .u64 (m : Int)] 56)).alloc (.cells #[.slice A 256 c] 22)).heap[k]? = w3.heap[k]? := fun k hk => (Below.heap_alloc _ _ _ (by simp; omega)).trans (Below.heap_alloc _ _ _ hk)
  have bS := (hmv w2.heap.size (by omega)).trans HS3.out
  have bF := (hmv (w2.heap.size + 1) (by omega)).trans HF3.out
  have bN := (hmv w.heap.size (by omega)).trans HN3.out
  have bT : ((w3.alloc (.cells #[.int .u64 (m : Int)] 56)).alloc (.cells #[.slice A 256 c] 22)).heap[w3.heap.size]? = some (.cells #[.int .u64 (m : Int)] 56 (0, 0)) := (Below.heap_alloc _ _ _ (by simp)).trans (blk_new rfl)
  have bB : ((w3.alloc (.cells #[.int .u64 (m : Int)] 56)).alloc (.cells #[.slice A 256 c] 22)).heap[w3.heap.size + 1]? = some (.cells #[.slice A 256 c] 22 (0, 0)) := blk_new (by simp)
  have sz0 : ((w3.alloc (.cells #[.int .u64 (m : Int)] 56)).alloc (.cells #[.slice A 256 c] 22)).heap.size = w3.heap.size + 1 + 1 := by simp
  generalize (w3.alloc (.cells #[.int .u64 (m : Int)] 56)).alloc (.cells #[.slice A 256 c] 22) = W0 at *
  clear hmv HS3 HF3 HN3 HZ3 HB3 HN2 HB2 HN1 HB1 HN0 HB0
  generalize w2.heap.size = g2 at *
  generalize w3.heap.size = T at *
  generalize hG0 : w.heap.size = g0 at *
  refine (wpIn_wide (n := 3)).1 (wpIn_rangeFunc_ownH (F := Fence.wide) (n := 3) rfl (by omega) (gf := 42) (lb := #[.pointer (some ⟨T + 1, 0, none⟩)]) rfl trivial (enters_of Tryd.func42 (by kernel_rfl) rfl)
    (page_stops (3 - 1) (T + 1) A c hc B (KE g0 (T + 1)) (fun X => X.heap[T + 1]? = some (.cells #[.slice A 256 c] 22 (0, 0)) ∧ Below g0 w X) W0
      (fun X h => ⟨(cell_of_row X _ 0 _ 22 (0, 0) h.1).trans rfl, Kd.C_below HR.out (by rw [hG0]; exact h.2)⟩)
      (fun X Y hk h => ⟨hk.2.trans h.1, h.2.trans hk.1⟩)
      (fun X hX => ⟨(hX.block _ (by omega)).trans bB, hB0.trans (hX.mono (by omega))⟩))
    KE.trans (fun W l o o' hl ho hc hw => ⟨belowK_b (by omega) W l o o' hl ho hc hw, (grownBy_putObj' W l o').block (T + 1) (by have := (Array.getElem?_eq_some_iff.1 ho).1; omega) (fun e => by cases e; omega)⟩) (Below.refl _ _) (fun _ => rfl)
    (fun (pre : List (Fin 16)) W => W.heap[g2]? = some (.cells (bys (foldE B m pre).1).toArray 54 (0, 0)) ∧ W.heap[T]? = some (.cells #[.int .u64 ((foldE B m pre).2 : Int)] 56 (0, 0)) ∧ W.heap[g2 + 1]? = some (.cells #[.func (.func 30) #[] #[.pointer (some ⟨g2, 0, none⟩)]] 55 (0, 0)) ∧ W.heap[g0]? = some (.cells #[.int .i64 0, .int .i64 0, .slice none 0 0, .slice none 0 0] 26 (0, 0)) ∧ Below g0 w W ∧ W0.heap.size ≤ W.heap.size)
    (fun _ _ _ => False)
    (fun s X Y row hs hg hr => by
      obtain ⟨h0, h1, h2, h3, h4, h5⟩ := hs
      exact ⟨keep_block h0 hg hr, keep_block h1 hg hr, keep_block h2 hg hr, keep_block h3 hg hr, h4.grown hg (by have := h4.size; omega) (fun k e => by have := (hr k e).1; omega), Nat.le_trans h5 hg.size⟩)
    (fun c s X Y row hs hg hr => hs.elim)
    ⟨bS, bT, bF, bN, hB0, Nat.le_refl _⟩
    (fun x a' Z => ∃ Bx, W0.heap.size ≤ Bx ∧ Z.heap[Bx]? = some (.cells (bys (blk B x.val)).toArray 54 (0, 0)) ∧ a' = { tmps := #[.slice A 256 c, .int .i64 p, .int .i64 s, undef, undef, undef, .pointer (some ⟨g0, 0, none⟩), .int .i64 0, .pointer (some ⟨g2, 0, none⟩), .pointer (some ⟨g2 + 1, 0, none⟩), .pointer (some ⟨T, 0, none⟩), .int .i64 (x.val : Int), .pointer (some ⟨Bx, 0, none⟩), .slice A 256 c, .int .i64 256, .bool false, .bool false, .int .i64 p, .bool true, .bool false, .bool false, .bool false, .int .i64 s, .bool true, .bool false, .bool false, undef, .func (.func 30) #[] #[.pointer (some ⟨g2, 0, none⟩)], .int .i64 s, .int .i64 (m : Int), .int .u64 (m : Int), .slice A 256 c, .func (.func 42) #[] #[.pointer (some ⟨T + 1, 0, none⟩)], .int .i64 (x.val : Int), .agg (bys (blk B x.val)).toArray, undef, undef, undef, undef, undef, undef, undef, undef, undef, undef, undef, undef, undef, undef, undef, undef], defers := [] })
    (fun x a' s X Y row hs hg hr => by obtain ⟨Bx, h1, h2, h3⟩ := hs; exact ⟨Bx, h1, keep_block h2 hg hr, h3⟩)
    ?assign ?body ?done ?stop)
  case assign =>
    intro l pre x U K hI hK
    simp only [encB, List.zip_toArray, List.zip_cons_cons, List.zip_nil_right, List.foldl_toArray, List.foldl_cons, List.foldl_nil, List.setIfInBounds_toArray, List.set_cons_zero, List.set_cons_succ]
    have hl16 : (bys (blk B x.val)).length = 16 := by rw [bys_len]; exact blk_len HBL.out x.2
    have H16 := Lib.hid hl16
    have hone16 : ∀ v ∈ bys (blk B x.val), v.oneCell' = true := bys_one _
    have HK2 := Lib.hid hK
    have HI := Lib.hid hI
    clear hl16 hK hI bS bT bF bN bB
    refine wpIn_seq_k (fun K1 hK1 => ?_)
    refine plain_in (by rfl) (fun ⟨_, _, h⟩ => h) ?_
    go_wp2
    refine plain_in (by rfl) (fun ⟨_, _, h⟩ => h) ?_
    go_wp2_with (first | (refine wpList_store_row rfl 54 _ _ rfl U.heap.size (bys (blk B x.val)) _ 54 rfl rfl (blk_new rfl) (by rw [H16.out]; rfl) (by rw [H16.out]; exact size54) hone16 ?_; intro w1 g1 g2' g3 g4))
    obtain ⟨i0, i1, i2, i3, i4, i5⟩ := HI.out
    have hB1 : Below g0 U w1 := g4 _ _ (by omega) ((Below.refl _ _).alloc (by omega) _)
    have hn : ∀ k, k < U.heap.size → w1.heap[k]? = U.heap[k]? := fun k hk => (g2' k (by omega)).trans (Below.heap_alloc _ _ _ hk)
    exact HK2.out _ _ ((keeps_of_below ((Below.refl _ U).alloc (Nat.le_refl _) _) _).trans (keeps_of_cells (blk_new rfl) g2' g3 _)) ⟨hB1, hn _ (by omega)⟩
      ⟨(hn _ (by omega)).trans i0, (hn _ (by omega)).trans i1, (hn _ (by omega)).trans i2, (hn _ (by omega)).trans i3, i4.trans hB1, by rw [g3]; simp; omega⟩ ⟨U.heap.size, i5, g1, rfl⟩
  case body =>
    rintro l pre x a' U hl hrec ⟨i0, i1, i2, i3, i4, i5⟩ ⟨Bx, hBx, hx, rfl⟩ hlen
    have hok := foldE_ok HBL.out HM1.out.2 pre
    obtain ⟨a, ha⟩ : ∃ a, a = (foldE B m pre).1 := ⟨_, rfl⟩
    obtain ⟨y, hy⟩ : ∃ y, y = (foldE B m pre).2 := ⟨_, rfl⟩
    have hstep : foldE B m (pre ++ [x]) = stepE B (a, y) x.val := by rw [foldE_snoc, ha, hy]
    rw [← ha, ← hy] at hok
    rw [← ha] at i0
    rw [← hy] at i1
    have hbl := blk_len HBL.out x.2
    obtain ⟨b, hb⟩ : ∃ b, b = blk B x.val := ⟨_, rfl⟩
    rw [← hb] at hx hbl
    have hstep2 : stepE B (a, y) x.val = if Lib.ctz 64 y = x.val then (xorD a b, y &&& (y - 1)) else (a, y) := by rw [hb]; rfl
    rw [hstep2] at hstep
    simp only [← hb]
    have hy64 : y < 18446744073709551616 := by omega
    obtain ⟨z, hz⟩ : ∃ z, z = Lib.ctz 64 y := ⟨_, rfl⟩
    have htz := tzu_calls y hy64 U (HT.out.keep (by rw [hG0]; exact i4))
    rw [← hz] at htz hstep
    obtain ⟨xv, hxv⟩ : ∃ xv, xv = x.val := ⟨_, rfl⟩
    rw [← hxv] at hstep
    simp only [← hxv]
    have hx16 : xv < 16 := by rw [hxv]; exact x.2
    have hi16 : (Tryd.prog.info? 54).map (·.size) = some (bys b).length := by rw [bys_len, hbl]; exact size54
    have hrg : U.rangeAt Bx 0 (bys b) := by
      intro j v hv
      rw [Nat.zero_add, cell_of_row U _ j _ 54 (0, 0) hx]
      simpa using hv
    have cT : U.cell? ⟨T, 0, none⟩ = some (.int .u64 (y : Int)) := (cell_of_row U _ 0 _ 56 (0, 0) i1).trans rfl
    have cF : U.cell? ⟨g2 + 1, 0, none⟩ = some (.func (.func 30) #[] #[.pointer (some ⟨g2, 0, none⟩)]) := (cell_of_row U _ 0 _ 55 (0, 0) i2).trans rfl
    have HTZ := Lib.hid htz
    have HOK := Lib.hid hok
    have HST := Lib.hid hstep
    have HBN := Lib.hid hbl
    have HI16 := Lib.hid hi16
    have HRG := Lib.hid hrg
    have I0 := Lib.hid i0
    have I1 := Lib.hid i1
    have I2 := Lib.hid i2
    have I3 := Lib.hid i3
    have I4 := Lib.hid i4
    have HYZ := Lib.hid hz
    clear htz hok hstep hstep2 hbl hi16 hrg i0 i1 i2 i3 i4 hz ha hy hb hxv hx hlen bS bT bF bN bB hy64
    refine wpIn_block ?_
    refine wpIn_seq_k (fun K1 hK1 => ?_)
    refine plain_in (by rfl) (fun ⟨_, _, h⟩ => h) ?_
    go_wp2_with (first
      | (go_at_call 32; refine HTZ.out.mono ?_; rintro e w5 ⟨rfl, rfl⟩))
    by_cases he : z = xv
    · refine wpIn_cond_true (by show Value.bool _ = _; rw [he]; simp) ?_
      have hy1 : 1 ≤ y := by
        have h0 := HYZ.out
        by_cases h1 : y = 0
        · rw [h1] at h0
          have : Lib.ctz 64 0 = 64 := by decide
          omega
        · omega
      refine wpIn_seq_k (fun K3 hK3 => ?_)
      refine plain_in (by rfl) (fun ⟨_, _, h⟩ => h) ?_
      go_wp2_with (first
        | (refine wpList_load_mid rfl 54 _ rfl Bx 0 rfl (bys b) _ HRG.out und54 rfl HI16.out ?_)
        | (go_at_call 30; refine (addc_calls a b HOK.out.1 HBN.out g2 _ I0.out).mono ?_; rintro e w6 ⟨⟨v6, rfl⟩, hs6, hb6⟩; have S6 := Lib.hid hs6; have HB6 := Lib.hid hb6; have cT6 := (cell_of_row w6 T 0 _ 56 (0, 0) ((hb6.1 T (by omega) (by omega)).trans I1.out)).trans (show _ = some (Value.int .u64 (y : Int)) from rfl); have f6 := frozen_of_row w6 T 0 _ 56 ((hb6.1 T (by omega) (by omega)).trans I1.out); clear hs6 hb6))
      refine plain_in (by rfl) (fun ⟨_, _, h⟩ => h) ?_
      go_wp2
      have hv := u64_low y hy1 (show y < 65536 from HOK.out.2)
      rw [hv]
      have hs := HST.out
      rw [if_pos he] at hs
      have hTU := (Array.getElem?_eq_some_iff.1 I1.out).1
      have hmv : ∀ k, k < w5.heap.size → k ≠ g2 → k ≠ T → (w6.setCell ⟨T, 0, none⟩ (.int .u64 ((y &&& (y - 1) : Nat) : Int))).heap[k]? = w5.heap[k]? := fun k h1 h2 h3 => (Below.heap_setCell w6 ⟨T, 0, none⟩ _ k h3).trans (HB6.out.1 k h1 h2)
      have hb : Below g0 w5 (w6.setCell ⟨T, 0, none⟩ (.int .u64 ((y &&& (y - 1) : Nat) : Int))) := (HB6.out.2.mono (by omega)).setCell (p := ⟨T, 0, none⟩) (by simp; omega) _
      refine ⟨⟨hb.size, fun k o hk ho hc => ?_⟩, ⟨hb, hmv _ (by omega) (by omega) (by omega)⟩, ?_⟩
      · exact (hmv k (Array.getElem?_eq_some_iff.1 ho).1 (by omega) (by omega)).trans ho
      dsimp only
      rw [hs]
      refine ⟨(Below.heap_setCell w6 ⟨T, 0, none⟩ _ g2 (by simp; omega)).trans S6.out, ?_, (hmv _ (by omega) (by omega) (by omega)).trans I2.out, (hmv _ (by omega) (by omega) (by omega)).trans I3.out, I4.out.trans hb, by have := hb.size; omega⟩
      rw [heap_setCell_same w6 _ 0 _ 56 _ ((HB6.out.1 T hTU (by omega)).trans I1.out)]
      rfl
    · refine wpIn_cond_false (by show Value.bool _ = _; congr 1; simp; omega) (wpIn_skip ?_)
      have hs := HST.out
      rw [if_neg he] at hs
      refine ⟨(keeps_of_below (Below.refl _ _) _), ⟨Below.refl _ _, rfl⟩, ?_⟩
      dsimp only
      rw [hs]
      exact ⟨I0.out, I1.out, I2.out, I3.out, I4.out, i5⟩
  case done =>
    rintro D xs U hD hxs ⟨h1, h2, h3, h4, h5, h6⟩ hKm
    rw [hxs] at h1
    have hfl := (foldE_ok HBL.out HM1.out.2 (fr 16)).1
    have hmt : (setS s).toNat = m := by rw [HM.out]; rfl
    have HMT := Lib.hid hmt
    obtain ⟨E, hE⟩ : ∃ E, E = (foldE B m (fr 16)).1 := ⟨_, rfl⟩
    rw [← hE] at h1 hfl
    have HE := Lib.hid hE
    have H1 := Lib.hid h1
    have H4 := Lib.hid h4
    have H5 := Lib.hid h5
    have HFL := Lib.hid hfl
    have HKm := Lib.hid hKm
    have hsz := h5.size
    clear h1 h2 h3 h4 hfl hKm hxs hE hmt bS bT bF bN bB
    go_wp2_with (first
      | (go_at_call 33; refine (clone_calls g2 E HFL.out 54 _ H1.out).mono ?_; rintro e w5 ⟨v, rfl, hv, hb5⟩; obtain ⟨A', c', rfl⟩ := Kd.R_slice hv; have H45 := Lib.hid ((hb5.block g0 (Array.getElem?_eq_some_iff.1 H4.out).1).trans H4.out); have HV := Lib.hid hv; have HB5 := Lib.hid hb5; clear hv hb5)
      | (refine wpList_store_row rfl 26 _ _ rfl g0 [.int .i64 p, .int .i64 s, .slice A' E.length c', .slice none 0 0] _ 26 rfl rfl H45.out rfl size26 (by simp [Value.oneCell']) ?_; intro w6 g1 g2' g3 g4; have G1 := Lib.hid g1; have G2 := Lib.hid g2'; have G3 := Lib.hid g3; have G4 := Lib.hid g4; clear g1 g2' g3 g4))
    have hDU := (Array.getElem?_eq_some_iff.1 HKm.out).1
    have hgU := (Array.getElem?_eq_some_iff.1 H4.out).1
    have hD6 : w6.heap[D]? = some (.deferred (some [])) := (G2.out D (by omega)).trans ((HB5.out.block D hDU).trans HKm.out)
    have hbk := belowK_b (w := w) (Nat.le_refl _) w6 D _ (.deferred none) (by omega) hD6 rfl rfl
    refine ⟨by simp, .inl ⟨_, _, rfl, run_takeDeferred hD6, ?_⟩⟩
    refine ⟨_, results_ct rfl _ _ g0 26 _ (0, 0) _ rfl ((World.putObj_heap_other (by omega)).trans G1.out) hu26 rfl size26, ?_⟩
    rw [HMT.out, ← HE.out, hG0]
    refine ⟨_, rfl, ?_, (G4.out g0 w (Nat.le_refl _) (H5.out.trans (HB5.out.mono (by omega)))).trans (by rw [← hG0]; exact hbk)⟩
    refine Kd.R_mono (Kd.R_lower (Kd.R_step (Kd.R_bound HV.out) (fun k hk _ => ?_)) (by omega)) (fun _ _ => trivial)
    obtain ⟨_, hk1, hk2, _⟩ := hk
    exact (World.putObj_heap_other (by omega)).trans (G2.out k (by omega))
  case stop => exact fun D c pre W hD hS hI _ => hI.elim
end Go.Proofs.YtknlbeojdmeljaaDoor.H
namespace Go.Proofs.YtknlbeojdmeljaaDoor.H
open Go.RowKit Go.Proofs.YtknlbeojdmeljaaDoorW.PrintWords Go.Proofs.YtknlbeojdmeljaaDoorW.PrintLast Go.Proofs.YtknlbeojdmeljaaDoorW.PrintMore Go.Proofs.YtknlbeojdmeljaaDoor.P
set_option linter.unusedVariables false
set_option linter.unusedSimpArgs false
def goodR (p s n : Int) : Prop := (0 ≤ p ∧ p < 16) ∧ (0 ≤ s ∧ s ≤ 1000000000) ∧ n = 16
instance (n p s : Int) : Decidable (goodR n p s) := by unfold goodR; infer_instance
def recS (zs : List S25) (p s : Int) (ds : List Int) : List S25 × Bool × Int := if goodR p s ds.length then addS zs (setS s) ds else ([], false, 1)
set_option maxRecDepth 100000 in
set_option maxHeartbeats 1000000 in
theorem receive_bad (A : Option Addr) (cap n : Nat) (p s : Int) (A1 : Option Addr) (n1 c1 : Nat) (pr : Value) (hpr : pr.oneCell' = true) (w : World) (hg : ¬ goodR p s n1) :
    Calls Tryd.prog 14 #[.slice A n cap, .agg #[.int .i64 p, .int .i64 s, .slice A1 n1 c1, pr]] w fun e w' => e = .returned (.tuple #[.slice none 0 0, .bool false, .int .i64 1]) ∧ Below w.heap.size w w' := by
  have hb0 : Below w.heap.size w (w.alloc (.cells #[.int .i64 p, .int .i64 s, .slice A1 n1 c1, pr] 26)) := (Below.refl _ _).alloc (Nat.le_refl _) _
  have hn0 : (w.alloc (.cells #[.int .i64 p, .int .i64 s, .slice A1 n1 c1, pr] 26)).heap[w.heap.size]? = some (.cells #[.int .i64 p, .int .i64 s, .slice A1 n1 c1, pr] 26 (0, 0)) := blk_new rfl
  have HB0 := Lib.hid hb0
  have HN0 := Lib.hid hn0
  clear hb0 hn0
  by_cases hp : 0 ≤ p ∧ p < 16
  · have hp' : decide (0 ≤ p ∧ p < 16) = true := by simpa using hp
    have HP := Lib.hid hp'
    by_cases hs : 0 ≤ s ∧ s ≤ 1000000000
    · have hs' : decide (0 ≤ s ∧ s ≤ 1000000000) = true := by simpa using hs
      have HS := Lib.hid hs'
      have hn : ((n1 : Int) == 16) = false := by
        have : ¬ (n1 : Int) = 16 := fun h => hg ⟨hp, hs, h⟩
        simpa using this
      have HNN := Lib.hid hn
      clear hp hp' hs hs' hn hg
      go_enter Tryd.func14, Tryd.ntmps14
      go_wp2_with (first
        | (go_at_call 28; refine (ispage_calls _ _).mono ?_; rw [HP.out]; rintro e w1 ⟨rfl, hb1⟩; have HB1 := Lib.hid (HB0.out.trans (hb1.mono HB0.out.size)); have hn1 := (hb1.block _ (by simp)).trans HN0.out; have c11 := (cell_of_row w1 _ 1 _ 26 (0, 0) hn1).trans (show _ = some (Value.int .i64 s) from rfl); have HN1 := Lib.hid hn1; clear hb1 hn1)
        | (go_at_call 29; refine (isseed_calls _ _).mono ?_; rw [HS.out]; rintro e w2 ⟨rfl, hb2⟩; have HB2 := Lib.hid (HB1.out.trans (hb2.mono HB1.out.size)); have hn2 := (hb2.block _ (Array.getElem?_eq_some_iff.1 HN1.out).1).trans HN1.out; have c22 := (cell_of_row w2 _ 2 _ 26 (0, 0) hn2).trans (show _ = some (Value.slice A1 n1 c1) from rfl); have h16 := HNN.out; clear hb2 hn2))
      refine bodyPost_ret (by simp [results, Tryd.results14, go_sem]; rfl) rfl ?_
      exact ⟨rfl, HB2.out⟩
    · have hs' : decide (0 ≤ s ∧ s ≤ 1000000000) = false := decide_eq_false hs
      have HS := Lib.hid hs'
      clear hp hp' hs hs' hg
      go_enter Tryd.func14, Tryd.ntmps14
      go_wp2_with (first
        | (go_at_call 28; refine (ispage_calls _ _).mono ?_; rw [HP.out]; rintro e w1 ⟨rfl, hb1⟩; have HB1 := Lib.hid (HB0.out.trans (hb1.mono HB0.out.size)); have hn1 := (hb1.block _ (by simp)).trans HN0.out; have c11 := (cell_of_row w1 _ 1 _ 26 (0, 0) hn1).trans (show _ = some (Value.int .i64 s) from rfl); have HN1 := Lib.hid hn1; clear hb1 hn1)
        | (go_at_call 29; refine (isseed_calls _ _).mono ?_; rw [HS.out]; rintro e w2 ⟨rfl, hb2⟩; have HB2 := Lib.hid (HB1.out.trans (hb2.mono HB1.out.size)); clear hb2))
      refine bodyPost_ret (by simp [results, Tryd.results14, go_sem]; rfl) rfl ?_
      exact ⟨rfl, HB2.out⟩
  · have hp' : decide (0 ≤ p ∧ p < 16) = false := decide_eq_false hp
    have HP := Lib.hid hp'
    clear hp hp' hg
    go_enter Tryd.func14, Tryd.ntmps14
    go_wp2_with (first
      | (go_at_call 28; refine (ispage_calls _ _).mono ?_; rw [HP.out]; rintro e w1 ⟨rfl, hb1⟩; have HB1 := Lib.hid (HB0.out.trans (hb1.mono HB0.out.size)); clear hb1))
    refine bodyPost_ret (by simp [results, Tryd.results14, go_sem]; rfl) rfl ?_
    exact ⟨rfl, HB1.out⟩
set_option maxRecDepth 100000 in
set_option maxHeartbeats 1000000 in
theorem receive_good (A : Option Addr) (cap : Nat) (zs : List S25) (p s : Int) (A1 : Option Addr) (c1 : Nat) (ds : List Int) (pr : Value) (w : World) (hr : Kd.C k25 w A zs.length zs) (hx : Kd.C (Kd.int .u8) w A1 ds.length ds) (hlen : zs.length ≤ 1000000) (ht : Tabs w) (hg : goodR p s ds.length) :
    Calls Tryd.prog 14 #[.slice A zs.length cap, .agg #[.int .i64 p, .int .i64 s, .slice A1 ds.length c1, pr]] w fun e w' => ∃ v, e = .returned (.tuple #[v, .bool (addS zs (setS s) ds).2.1, .int .i64 (addS zs (setS s) ds).2.2]) ∧ Kd.S k25 52 w' w.heap.size (fun _ => True) v (addS zs (setS s) ds).1 ∧ Below w.heap.size w w' := by
  have hb0 : Below w.heap.size w (w.alloc (.cells #[.int .i64 p, .int .i64 s, .slice A1 ds.length c1, pr] 26)) := (Below.refl _ _).alloc (Nat.le_refl _) _
  have hn0 : (w.alloc (.cells #[.int .i64 p, .int .i64 s, .slice A1 ds.length c1, pr] 26)).heap[w.heap.size]? = some (.cells #[.int .i64 p, .int .i64 s, .slice A1 ds.length c1, pr] 26 (0, 0)) := blk_new rfl
  have HB0 := Lib.hid hb0
  have HN0 := Lib.hid hn0
  have HR := Lib.hid hr
  have HX := Lib.hid hx
  have HT := Lib.hid ht
  have hp' : decide (0 ≤ p ∧ p < 16) = true := by simpa using hg.1
  have HP := Lib.hid hp'
  have hs' : decide (0 ≤ s ∧ s ≤ 1000000000) = true := by simpa using hg.2.1
  have HS := Lib.hid hs'
  obtain ⟨n1, hn1⟩ : ∃ n1, n1 = ds.length := ⟨_, rfl⟩
  have h16 : n1 = 16 := by have := hg.2.2; omega
  have HD := Lib.hid hn1
  rw [← hn1] at hb0 hn0 HB0 HN0 ⊢
  subst h16
  obtain ⟨n2, hn2⟩ : ∃ n2, n2 = zs.length := ⟨_, rfl⟩
  have HZ := Lib.hid hn2
  rw [← hn2]
  obtain ⟨ans, hans⟩ : ∃ ans, ans = addS zs (setS s) ds := ⟨_, rfl⟩
  have ADD := Lib.hid (fun w' (h : Below w.heap.size w w') => add_calls A cap zs (setS s) A1 c1 ds w' (Kd.C_below hr h) (Kd.C_below hx h) hlen)
  simp only [← hn1, ← hn2, ← hans] at ADD ⊢
  clear hans
  clear hb0 hn0 hr hx ht hp' hs' hg hn1 hn2
  go_enter Tryd.func14, Tryd.ntmps14
  go_wp2_with (first
    | (go_at_call 28; refine (ispage_calls _ _).mono ?_; rw [HP.out]; rintro e w1 ⟨rfl, hb1⟩; have HB1 := Lib.hid (HB0.out.trans (hb1.mono HB0.out.size)); have hn1 := (hb1.block _ (by simp)).trans HN0.out; have c11 := (cell_of_row w1 _ 1 _ 26 (0, 0) hn1).trans (show _ = some (Value.int .i64 s) from rfl); have HN1 := Lib.hid hn1; clear hb1 hn1)
    | (go_at_call 29; refine (isseed_calls _ _).mono ?_; rw [HS.out]; rintro e w2 ⟨rfl, hb2⟩; have HB2 := Lib.hid (HB1.out.trans (hb2.mono HB1.out.size)); have hn2 := (hb2.block _ (Array.getElem?_eq_some_iff.1 HN1.out).1).trans HN1.out; have c22 := (cell_of_row w2 _ 2 _ 26 (0, 0) hn2).trans (show _ = some (Value.slice A1 16 c1) from rfl); have c21 := (cell_of_row w2 _ 1 _ 26 (0, 0) hn2).trans (show _ = some (Value.int .i64 s) from rfl); have HN2 := Lib.hid hn2; clear hb2 hn2))
  refine start_ (n := 14) (S := (fun V => V.cell? ⟨w.heap.size, 1, none⟩ = some (.int .i64 s) ∧ V.cell? ⟨w.heap.size, 2, none⟩ = some (.slice A1 16 c1) ∧ Below w.heap.size w V)) (ds := []) (bl 14 0) (by kernel_rfl) rfl rfl ⟨c21, c22, HB2.out.drew⟩ (fun hHeld => ?_)
  refine pU 0 23 (bl 14 1) (by kernel_rfl) (h := ?_)
  refine pU 1 24 (bl 14 3) (by kernel_rfl) (h := ?_)
  refine tU 2 25 (bl 14 7) (by kernel_rfl) hHeld (hy := by rintro w' ⟨s0, s1, s2⟩; go_simp; with_reducible rfl) (h := ?_)
  refine pU 4 27 (bl 14 23) (by kernel_rfl) (h := ?_)
  refine tU 5 28 (bl 14 55) (by kernel_rfl) hHeld (hy := by rintro w' ⟨s0, s1, s2⟩; go_simp; with_reducible rfl) (h := ?_)
  refine one_ (i := 3) (N := some 26) (bl 14 63) rfl rfl (by kernel_rfl) (by decide) (fun K hK => ?_)
  refine goes_ Tryd.func18 (by kernel_rfl) rfl #[.int .i64 s] (by rfl) rfl rfl (by simp only [List.map_toArray, List.map_cons, List.map_nil]; rfl) ?_
  refine (set_calls s _ (HT.out.keep hHeld.2.2)).mono ?_
  rintro e u ⟨rfl, hb⟩
  refine ⟨_, rfl, ?_⟩
  obtain ⟨q1, q2, q3⟩ := hHeld
  refine hK.out _ _ ⟨(hb.cell (World.block_lt_of_cell? _ _ q1)).trans q1, (hb.cell (World.block_lt_of_cell? _ _ q2)).trans q2, q3.trans (hb.mono q3.size)⟩ (fun hHeld => ?_)
  clear hK K hb
  refine nU 26 (h := ?_)
  refine pU 6 29 (bl 14 127) (by kernel_rfl) (h := ?_)
  refine one_ (i := 7) (N := some 30) (bl 14 255) rfl rfl (by kernel_rfl) (by decide) (fun K hK => ?_)
  refine goes_ Tryd.func34 (by kernel_rfl) rfl #[.slice A n2 cap, .agg #[.int .i64 (setS s), .slice A1 16 c1]] (by rfl) rfl rfl (by simp only [List.map_toArray, List.map_cons, List.map_nil]; rfl) ?_
  obtain ⟨q1, q2, q3⟩ := hHeld
  refine (ADD.out _ q3).mono ?_
  rintro e u2 ⟨v, rfl, hv, hb⟩
  have HV := Lib.hid (Kd.S_lower hv q3.size)
  have HB := Lib.hid (q3.trans (hb.mono q3.size))
  refine ⟨_, rfl, ?_⟩
  refine hK.out _ _ ⟨(hb.cell (World.block_lt_of_cell? _ _ q1)).trans q1, (hb.cell (World.block_lt_of_cell? _ _ q2)).trans q2, HB.out⟩ (fun hHeld => ?_)
  clear hK K hb hv
  refine nU 30 (h := ?_)
  refine pU 8 31 (bl 14 511) (by kernel_rfl) (h := ?_)
  refine pU 9 32 (bl 14 1023) (by kernel_rfl) (h := ?_)
  refine pU 10 33 (bl 14 2047) (by kernel_rfl) (h := ?_)
  refine pU 11 4 (bl 14 4095) (by kernel_rfl) (h := ?_)
  refine pU 12 5 (bl 14 8191) (by kernel_rfl) (h := ?_)
  refine pU 13 6 (bl 14 16383) (by kernel_rfl) (h := ?_)
  refine done_ (by kernel_rfl) ?_
  go_wp2
  refine bodyPost_ret (by simp [results, Tryd.results14, go_sem]; rfl) rfl ?_
  exact ⟨_, rfl, HV.out, HB.out⟩
end Go.Proofs.YtknlbeojdmeljaaDoor.H
namespace Go.Proofs.YtknlbeojdmeljaaDoor.H
open Go.RowKit Go.Proofs.YtknlbeojdmeljaaDoorW.PrintWords Go.Proofs.YtknlbeojdmeljaaDoorW.PrintLast Go.Proofs.YtknlbeojdmeljaaDoorW.PrintMore Go.Proofs.YtknlbeojdmeljaaDoor.P
set_option linter.unusedVariables false
set_option linter.unusedSimpArgs false
theorem solvedS_len (zs : List S25) (i : Int) : (solvedS zs i).1.length ≤ 16 := by
  unfold solvedS
  split
  · simp
  · rename_i h
    have hv : validS zs = true := by
      cases h' : validS zs
      · exact absurd (.inr (.inr h')) h
      · rfl
    obtain ⟨fz, rfl⟩ := valid_fz hv
    split
    · rename_i x hx
      have hm := List.mem_of_find?_eq_some hx
      obtain ⟨y, _, rfl⟩ := List.mem_map.1 hm
      have := FRow.spec y
      have := this.2.2
      simp [this]
    · simp
/-- the page that is found up to block k -/
def pageTo (zs : List S25) (k : Nat) : List Int := (List.range k).flatMap (fun (i : Nat) => if (solvedS zs (i : Int)).2 then (solvedS zs (i : Int)).1 else [])
def foundB (zs : List S25) (k i : Nat) : Bool := decide (i < k) && (solvedS zs (i : Int)).2
def foundTo (zs : List S25) (k : Nat) : List Bool := (List.range 16).map (foundB zs k)
def pageS (zs : List S25) : List Int × Bool := if (foundTo zs 16).all id then (pageTo zs 16, true) else ([], false)
theorem pageTo_succ (zs : List S25) (k : Nat) : pageTo zs (k + 1) = pageTo zs k ++ (if (solvedS zs (k : Int)).2 then (solvedS zs (k : Int)).1 else []) := by
  simp [pageTo, List.range_succ, List.flatMap_append]
theorem pageTo_len (zs : List S25) (k : Nat) : (pageTo zs k).length ≤ 16 * k := by
  induction k with
  | zero => simp [pageTo]
  | succ k ih =>
    rw [pageTo_succ, List.length_append]
    have := solvedS_len zs k
    split
    · omega
    · simp only [List.length_nil]; omega
theorem foundTo_len (zs : List S25) (k : Nat) : (foundTo zs k).length = 16 := by simp [foundTo]
theorem foundTo_set (zs : List S25) (k : Nat) (hk : k < 16) : (foundTo zs k).set k (solvedS zs (k : Int)).2 = foundTo zs (k + 1) := by
  apply List.ext_getElem
  · simp [foundTo]
  · intro i h1 h2
    rw [List.getElem_set]
    simp only [foundTo, List.getElem_map, List.getElem_range, foundB]
    split
    · rename_i e; subst e; simp
    · rename_i e
      have : decide (i < k + 1) = decide (i < k) := by
        by_cases h : i < k
        · simp [h]; omega
        · simp [h]; omega
      rw [this]
def bls (l : List Bool) : List Value := l.map Value.bool
theorem foundTo_zero (zs : List S25) : foundTo zs 0 = List.replicate 16 false := by
  apply List.ext_getElem
  · simp [foundTo]
  · intro i h1 h2
    simp only [foundTo, List.getElem_map, List.getElem_range, List.getElem_replicate, foundB]
    simp
theorem und64 : Tryd.prog.underlying 64 = some (.array 16 4) := by kernel_rfl
theorem size64 : (Tryd.prog.info? 64).map (·.size) = some 16 := by kernel_rfl
theorem row256_R {w : World} {g : Nat} {cur : Array Value} (base : Nat) (ok : Nat → Prop) (hok : ok g) (hb : base ≤ g) (h : w.heap[g]? = some (.cells cur 5 (0, 0))) (hs : cur.size = 256) : Kd.R (Kd.int .u8) 5 w base ok (.slice (some ⟨g, 0, none⟩) 0 256) [] := by
  refine Kd.R_of_own ⟨by simp [encs], .inr ⟨g, 256, cur, rfl, hb, h, ?_, ?_, ?_, ?_⟩⟩ ?_
  · exact Nat.zero_le _
  · decide
  · rw [hs]
  · simp [encs]
  · intro k hk
    simp [Value.ownBlock] at hk
    subst hk
    exact hok
theorem index_is (l : List Bool) (hl : l.length ≤ 1000) : ∀ (m k : Nat), k ≤ l.length → l.length - k + 1 ≤ m → ∃ r, slices_Index_bool_bool.l0 m l false (l.length : Int) (k : Int) = some r ∧ (0 ≤ r ↔ false ∈ l.drop k)
  | 0, k, h1, h2 => by omega
  | m + 1, k, h1, h2 => by
    unfold slices_Index_bool_bool.l0
    by_cases hk : k < l.length
    · have e : rdOf false l (k : Int) = l[k] := by simp [rdOf, hk]
      have hd : l.drop k = l[k] :: l.drop (k + 1) := List.drop_eq_getElem_cons hk
      rw [if_pos (by omega), if_pos (by omega), if_pos (by omega), e, hd]
      by_cases hb : l[k] = false
      · rw [hb]
        exact ⟨_, if_pos rfl, by simp⟩
      · have hb' : l[k] = true := by simpa using hb
        rw [hb', if_neg (by decide)]
        have hw : wrap64 ((k : Int) + 1) = ((k + 1 : Nat) : Int) := by unfold wrap64; omega
        rw [hw]
        obtain ⟨r, h3, h4⟩ := index_is l hl m (k + 1) (by omega) (by omega)
        exact ⟨r, h3, by rw [h4]; simp⟩
    · rw [if_neg (by omega)]
      refine ⟨_, rfl, ?_⟩
      rw [List.drop_of_length_le (by omega)]
      simp
theorem contains_is (l : List Bool) (hl : l.length ≤ 1000) : slices_Contains_bool_bool.f 1001 l false = some (!l.all id) := by
  unfold slices_Contains_bool_bool.f slices_Index_bool_bool.f
  obtain ⟨r, h1, h2⟩ := index_is l hl 1001 0 (by omega) (by omega)
  rw [show ((0 : Nat) : Int) = 0 from rfl] at h1
  rw [h1]
  simp only [Option.bind]
  congr 1
  rw [List.drop_zero] at h2
  by_cases h : false ∈ l
  · have : l.all id = false := by
      rw [Bool.eq_false_iff]
      intro hh
      have := List.all_eq_true.1 hh _ h
      cases this
    rw [this]
    simpa using h2.2 h
  · have : l.all id = true := List.all_eq_true.2 (fun x hx => by
      cases x
      · exact absurd hx h
      · rfl)
    rw [this]
    have := fun hh => h (h2.1 hh)
    simpa using this
theorem C_bools {w : World} {g : Nat} {d : List Bool} {t : TypeId} (h : w.heap[g]? = some (.cells (bls d).toArray t (0, 0))) (hl : d.length ≤ 9223372036854775807) : Kd.C Kd.bool w (some ⟨g, 0, none⟩) d.length d := by
  refine ⟨rfl, hl, fun _ => ⟨_, rfl, fun j p hj => ⟨[.bool p], rfl, rfl, fun i u hu => ?_⟩⟩⟩
  match i, hu with
  | 0, hu =>
    simp at hu
    subst hu
    have e : Kd.bool.sz = 1 := rfl
    rw [e, Addr.add_mid, cell_of_row w _ _ _ t (0, 0) h]
    simp [bls, hj]
theorem all_range_bool : ∀ (xs ys : List Bool), xs.length = ys.length → ((List.range xs.length).all fun i => xs.getD i false == ys.getD i false) = (xs == ys)
  | [], [], _ => rfl
  | x :: xs, y :: ys, h => by
    have ih := all_range_bool xs ys (by simpa using h)
    rw [List.length_cons, List.range_succ_eq_map, List.all_cons, List.all_map]
    simp only [List.getD_cons_zero, Function.comp_def, List.getD_cons_succ, ih]
    simp [List.cons_beq_cons]
  | [], _ :: _, h => by simp at h
  | _ :: _, [], h => by simp at h
theorem equalIn_bls {P : Program} (w : World) (d : Nat) (t e : TypeId) (n : Nat) (ht : P.underlying t = some (.array n e)) (he : P.underlying e = some .bool) (hsz : ∀ w, (sizeOf e).run P w = .ok 1 w)
    (xs ys : List Bool) (hx : xs.length = n) (hy : ys.length = n) :
    (Op.equalIn (d + 2) t (.agg (bls xs).toArray) (.agg (bls ys).toArray)).run P w = .ok (xs == ys) w := by
  rw [← all_range_bool xs ys (hx.trans hy.symm), hx, List.range_eq_range', Op.equalIn]
  simp only [Sem.run_bind, run_underlying ht, Result.andThen_ok, hsz, Std.Legacy.Range.forIn_eq_forIn_range', Std.Legacy.Range.size, Nat.sub_zero, Nat.add_sub_cancel, Nat.div_one]
  have hl : ∀ i ∈ List.range' 0 n 1, i < n := fun i hi => by simpa using (List.mem_range'_1.1 hi).2
  generalize List.range' 0 n 1 = l at hl ⊢
  induction l with
  | nil => simp
  | cons i l ih =>
    have hi : i < n := hl i (by simp)
    have px : (part e (bls xs).toArray (i * 1)).run P w = .ok (.bool (xs.getD i false)) w := by
      simp [bls, part, isAgg, run_underlying he, List.getD, List.getElem?_eq_getElem (show i < xs.length by omega)]
    have py : (part e (bls ys).toArray (i * 1)).run P w = .ok (.bool (ys.getD i false)) w := by
      simp [bls, part, isAgg, run_underlying he, List.getD, List.getElem?_eq_getElem (show i < ys.length by omega)]
    have pe : (Op.equalIn (d + 1) e (.bool (xs.getD i false)) (.bool (ys.getD i false))).run P w = .ok (xs.getD i false == ys.getD i false) w := by
      rw [run_equalIn_bool w d e _ _ he]
    simp only [List.forIn_cons, Sem.run_bind, px, py, pe, Result.andThen_ok, List.all_cons]
    cases hb : (xs.getD i false == ys.getD i false)
    · simp
    · simp only [Bool.not_true, Bool.false_eq_true, if_false, Sem.run_pure, Result.andThen_ok, Bool.true_and]
      exact ih fun j hj => hl j (by simp [hj])
theorem und4 : Tryd.prog.underlying 4 = some .bool := by kernel_rfl
theorem size4 (w : World) : (sizeOf 4).run Tryd.prog w = .ok 1 w := by kernel_rfl
theorem eq64 (xs : List Bool) (hx : xs.length = 16) (w : World) : (Go.binOp .eql 64 (.agg (bls xs).toArray) (.agg (bls (List.replicate 16 false)).toArray)).run Tryd.prog w = .ok (.bool (xs == List.replicate 16 false)) w := by
  rw [run_eql_struct, equalIn_bls w 9998 64 4 16 und64 und4 size4 xs (List.replicate 16 false) hx (by simp)]
  rfl
theorem eqg64 (x y : Operand) (xs ys : Array Value) (w : World) : (eqGuard .eql 64 x y (.agg xs) (.agg ys)).run Tryd.prog w = .ok () w := by
  kernel_rfl
theorem exec_eql64 {a : Act} {o : Oper} {x y : Operand} {s : TypeId} {xs : List Bool} {w : World} (ho : o.op = .binOp .eql 64 x y s) (hx : a.eval x = .agg (bls xs).toArray) (hy : a.eval y = .agg (bls (List.replicate 16 false)).toArray) (hd : xs.length = 16) {b : Bool} (hb : (xs == List.replicate 16 false) = b) :
    (execOp a.eval o).run Tryd.prog w = .ok (.value (.bool b)) w := by
  subst hb
  unfold execOp
  simp only [ho, Sem.run_bind]
  rw [hx, hy, eqg64]
  simp only [Result.andThen]
  rw [eq64 xs hd w]
  rfl
theorem bls_at (l : List Bool) (k : Nat) (h : k < l.length) : (bls l).toArray[k]? = some (.bool (l.getD k false)) := by
  simp [bls, h]
set_option maxRecDepth 100000 in
set_option maxHeartbeats 1000000 in
theorem page_calls (A : Option Addr) (cap : Nat) (zs : List S25) (w : World) (hr : Kd.C k25 w A zs.length zs) :
    Calls Tryd.prog 16 #[.slice A zs.length cap] w fun e w' => ∃ v, e = .returned (.tuple #[v, .bool (pageS zs).2]) ∧ Kd.R (Kd.int .u8) 5 w' w.heap.size (fun _ => True) v (pageS zs).1 ∧ Below w.heap.size w w' := by
  have HR := Lib.hid hr
  obtain ⟨n, hn⟩ : ∃ n, n = zs.length := ⟨_, rfl⟩
  have SOL := Lib.hid (fun w' (h : Below w.heap.size w w') (i : Int) => solved_calls A cap zs i w' (Kd.C_below hr h))
  rw [← hn] at HR SOL ⊢
  have hu64 := und64
  have hmk : ∀ w : World, (Instr.makeSlice 22 (.int .i64 0) (.int .i64 256)).run Tryd.prog w = .ok (.slice (some ⟨w.heap.size, 0, none⟩) 0 256) (w.alloc (.cells (Array.replicate 256 (.int .u8 0)) 5)) := fun w => by
    kernel_rfl
  clear hr hn
  go_enter Tryd.func16, Tryd.ntmps16
  go_wp2
  go_loopw [5, 9] (fun pv i wr => ∃ k : Nat, k ≤ 16 ∧ i = .int .i64 k ∧ Kd.R (Kd.int .u8) 5 wr w.heap.size (fun j => j ≠ w.heap.size) pv (pageTo zs k) ∧ wr.heap[w.heap.size]? = some (.cells (bls (foundTo zs k)).toArray 64 (0, 0)) ∧ Below w.heap.size w wr)
    (fun _ i _ => 16 - (intOf i).toNat)
  case atStart =>
    refine ⟨0, by omega, rfl, row256_R _ _ (by omega) (by omega) (blk_new (by simp)) (by simp), ?_, ((Below.refl _ _).alloc (Nat.le_refl _) _).alloc (by simp) _⟩
    rw [foundTo_zero]
    exact (Below.heap_alloc _ _ _ (by simp)).trans (blk_new rfl)
  case round =>
    obtain ⟨k, hk, rfl, h1, h2, hB⟩ := hrel
    by_cases hkt : k < 16
    · have hps := pageTo_succ zs k
      have hpl := pageTo_len zs k
      have hfs := foundTo_set zs k hkt
      have hfl := foundTo_len zs k
      have hsl := solvedS_len zs k
      have hsol := SOL.out wr hB (k : Int)
      obtain ⟨q, hq⟩ : ∃ q, q = solvedS zs (k : Int) := ⟨_, rfl⟩
      rw [← hq] at hps hfs hsl hsol
      obtain ⟨d, f⟩ := q
      simp only at hps hfs hsl hsol
      obtain ⟨A0, c0, rfl⟩ := Kd.R_slice h1
      have HPS := Lib.hid hps
      have HPL := Lib.hid hpl
      have HFS := Lib.hid hfs
      have HFL := Lib.hid hfl
      have HSL := Lib.hid hsl
      have HSOL := Lib.hid hsol
      have H1 := Lib.hid h1
      have H2 := Lib.hid h2
      have HB := Lib.hid hB
      obtain ⟨pl, hpl'⟩ : ∃ pl, pl = (pageTo zs k).length := ⟨_, rfl⟩
      have HPN := Lib.hid hpl'
      rw [← hpl']
      clear hps hpl hfs hfl hsl hsol hq h1 h2 hB hpl'
      cases f
      · go_wp2_with (first
          | (go_at_call 37; refine HSOL.out.mono ?_; rintro e w1 ⟨v, rfl, hv, hb⟩; have hsz := HB.out.size; have hlt := (Array.getElem?_eq_some_iff.1 H2.out).1; have HB1 := Lib.hid (HB.out.trans (hb.mono hsz)); have h21 := (hb.block _ hlt).trans H2.out; have c21 := (cell_of_row w1 _ k _ 64 (0, 0) h21).trans (bls_at _ k (by rw [HFL.out]; exact hkt)); have f21 := frozen_of_row w1 _ k _ 64 h21; have H21 := Lib.hid h21; have H11 := Lib.hid (Kd.R_below H1.out hb); clear hv hb h21))
        have hfin : (w1.setCell ⟨w.heap.size, k, none⟩ (.bool false)).heap[w.heap.size]? = some (.cells (bls (foundTo zs (k + 1))).toArray 64 (0, 0)) := by
          rw [heap_setCell_same w1 _ k _ 64 _ H21.out, ← HFS.out]
          simp [bls, List.map_set]
        have hpe : pageTo zs (k + 1) = pageTo zs k := by rw [HPS.out]; simp
        go_roundw
        case rel => exact ⟨k + 1, by omega, by go_num, by rw [hpe, HPN.out]; exact Kd.R_far H11.out (fun j h => h) _, hfin, HB1.out.setCell (p := ⟨w.heap.size, k, none⟩) (Nat.le_refl _) _⟩
        case measure => simp [intOf]; omega
      · go_wp2_with (first
          | (go_at_call 37; refine HSOL.out.mono ?_; rintro e w1 ⟨v, rfl, hv, hb⟩; have hsz := HB.out.size; have hlt := (Array.getElem?_eq_some_iff.1 H2.out).1; have HB1 := Lib.hid (HB.out.trans (hb.mono hsz)); have h21 := (hb.block _ hlt).trans H2.out; have c21 := (cell_of_row w1 _ k _ 64 (0, 0) h21).trans (bls_at _ k (by rw [HFL.out]; exact hkt)); have f21 := frozen_of_row w1 _ k _ 64 h21; have H21 := Lib.hid h21; have H11 := Lib.hid (Kd.R_below H1.out hb); obtain ⟨A1, c1, rfl⟩ := Kd.R_slice hv; have HV := Lib.hid hv; clear hv hb h21)
          | ((with_reducible refine gate_builtin (b := .append) (xs := #[.tmp 23, .tmp 24]) rfl ?_); at_builtin; refine Kd.R_append_rows (Kd.int .u8) (w0 := w) w.heap.size rfl (.tmp 23) (.tmp 24) 22 5 (.int .u8 0) 1 rfl Tryd.underlying22 info5 rfl (by decide) (by omega) (.slice A0 pl c0) (pageTo zs k) d _ _ _ (fun j => j ≠ w.heap.size) (fun _ => False) rfl rfl ?aO ?aR (fun _ _ h => h) (fun _ h => h.elim) (fun j h => ?aF) ?aB ?aS ?aL ?_; (case aO => rw [HPN.out]; exact Kd.R_far H11.out (fun j h => h) _); (case aR => exact (Kd.R_reads' (Kd.R_far (p := ⟨w.heap.size, k, none⟩) (Kd.R_bound HV.out) (fun j hj => by have := hj.2.1; simp; omega) _)).2.2); (case aF => have := (Array.getElem?_eq_some_iff.1 H21.out).1; rw [World.size_setCell] at h; omega); (case aB => exact HB1.out.setCell (p := ⟨w.heap.size, k, none⟩) (Nat.le_refl _) _); (case aS => have := (Array.getElem?_eq_some_iff.1 H21.out).1; rw [World.size_setCell]; omega); (case aL => have h1_ := HPL.out; have h2_ := HSL.out; omega); intro v1 w5 ho hb hg hat; have HO := Lib.hid ho; have HB5 := Lib.hid hb; have HG := Lib.hid hg; clear ho hb hg hat))
        have hlt1 := (Array.getElem?_eq_some_iff.1 H21.out).1
        have hfin : w5.heap[w.heap.size]? = some (.cells (bls (foundTo zs (k + 1))).toArray 64 (0, 0)) := by
          rw [HG.out.block w.heap.size (by rw [World.size_setCell]; exact hlt1) (fun e => H11.out.1 _ (by rw [← HPN.out]; exact e.symm) rfl), heap_setCell_same w1 _ k _ 64 _ H21.out, ← HFS.out]
          simp [bls, List.map_set]
        have hpe : pageTo zs (k + 1) = pageTo zs k ++ d := by rw [HPS.out]; simp
        go_roundw
        case rel => exact ⟨k + 1, by omega, by go_num, by rw [hpe]; exact HO.out, hfin, HB5.out⟩
        case measure => simp [intOf]; omega
    · obtain rfl : k = 16 := by omega
      have hcon := contains_is (foundTo zs 16) (by rw [foundTo_len]; omega)
      have H1 := Lib.hid h1
      have H2 := Lib.hid h2
      have HB := Lib.hid hB
      have HCON := Lib.hid hcon
      clear h1 h2 hB hcon
      have hfl := foundTo_len zs 16
      have hps : pageS zs = if (foundTo zs 16).all id then (pageTo zs 16, true) else ([], false) := rfl
      obtain ⟨F, hF⟩ : ∃ F, F = foundTo zs 16 := ⟨_, rfl⟩
      rw [← hF] at hfl H2 HCON hps
      have hi : (Tryd.prog.info? 64).map (·.size) = some (bls F).length := by rw [show (bls F).length = 16 by simp [bls, hfl]]; exact size64
      have HI := Lib.hid hi
      have HFL := Lib.hid hfl
      have HPS := Lib.hid hps
      have hrg : wr.rangeAt w.heap.size 0 (bls F) := by
        intro j v hv
        rw [Nat.zero_add, cell_of_row wr _ j _ 64 (0, 0) H2.out]
        simpa using hv
      have HRG := Lib.hid hrg
      obtain ⟨bz, hbz⟩ : ∃ bz, (F == List.replicate 16 false) = bz := ⟨_, rfl⟩
      have HBZ := Lib.hid hbz
      clear hi hfl hrg hps hF hbz
      have hcall : Calls Tryd.prog 38 #[.slice (some ⟨w.heap.size, 0, none⟩) 16 16, .bool false] wr fun e w' => e = .returned (.bool (!F.all id)) ∧ Drawn0 wr w' := by
        have := slices_Contains_bool_bool.calls 1001 (some ⟨w.heap.size, 0, none⟩) 16 F false _ wr (C_bools H2.out (by rw [HFL.out]; omega)) (by rw [HFL.out]; omega) HCON.out
        rwa [HFL.out] at this
      have HCALL := Lib.hid hcall
      clear hcall
      cases bz
      · cases ha : F.all id
        · have HAL := Lib.hid ha
          clear ha
          go_wp2_with (first
            | (refine wpList_load_mid rfl 64 _ rfl w.heap.size 0 rfl (bls F) _ HRG.out und64 rfl HI.out ?_)
            | (refine Kd.event_run rfl (exec_eql64 (x := .tmp 27) (y := .tmp 28) (xs := F) rfl rfl rfl HFL.out HBZ.out) ?_)
            | (go_at_call 38; refine HCALL.out.mono ?_; rw [HAL.out]; rintro e w5 ⟨rfl, ⟨nd, rfl⟩⟩))
          refine bodyPost_ret (by simp [results, Tryd.results16, go_sem]; rfl) rfl ?_
          rw [HPS.out, HAL.out]
          exact ⟨_, rfl, Kd.R_nil _ _ _ _ _, pw_below_drewN HB.out nd⟩
        · have HAL := Lib.hid ha
          clear ha
          go_wp2_with (first
            | (refine wpList_load_mid rfl 64 _ rfl w.heap.size 0 rfl (bls F) _ HRG.out und64 rfl HI.out ?_)
            | (refine Kd.event_run rfl (exec_eql64 (x := .tmp 27) (y := .tmp 28) (xs := F) rfl rfl rfl HFL.out HBZ.out) ?_)
            | (go_at_call 38; refine HCALL.out.mono ?_; rw [HAL.out]; rintro e w5 ⟨rfl, ⟨nd, rfl⟩⟩))
          refine bodyPost_ret (by simp [results, Tryd.results16, go_sem]; rfl) rfl ?_
          rw [HPS.out, HAL.out]
          exact ⟨_, rfl, Kd.R_mono (Kd.R_below H1.out (pw_below_drewN (Below.refl _ _) nd)) (fun _ _ => trivial), pw_below_drewN HB.out nd⟩
      · have hall : F.all id = false := by
          have := HBZ.out
          rw [eq_of_beq this]
          rfl
        have HAL := Lib.hid hall
        clear hall
        go_wp2_with (first
          | (refine wpList_load_mid rfl 64 _ rfl w.heap.size 0 rfl (bls F) _ HRG.out und64 rfl HI.out ?_)
          | (refine Kd.event_run rfl (exec_eql64 (x := .tmp 27) (y := .tmp 28) (xs := F) rfl rfl rfl HFL.out HBZ.out) ?_))
        refine bodyPost_ret (by simp [results, Tryd.results16, go_sem]; rfl) rfl ?_
        rw [HPS.out, HAL.out]
        exact ⟨_, rfl, Kd.R_nil _ _ _ _ _, HB.out⟩
end Go.Proofs.YtknlbeojdmeljaaDoor.H
namespace Go.Proofs.YtknlbeojdmeljaaDoor.H
open Go.RowKit Go.Proofs.YtknlbeojdmeljaaDoorW.PrintWords Go.Proofs.YtknlbeojdmeljaaDoorW.PrintLast Go.Proofs.YtknlbeojdmeljaaDoorW.PrintMore Go.Proofs.YtknlbeojdmeljaaDoor.P
set_option linter.unusedVariables false
set_option linter.unusedSimpArgs false
def sumE (B : List Int) (s : Int) : List Int := (foldE B (setS s).toNat (fr 16)).1
def recL (B : List Int) : List Int → List S25 → Int → List S25 × Int × Bool
  | [], l, n => (l, n, true)
  | s :: r, l, n => if (addS l (setS s) (sumE B s)).2.2 = 0 then recL B r (addS l (setS s) (sumE B s)).1 (if (addS l (setS s) (sumE B s)).2.1 then n + 1 else n) else ([], 0, false)
theorem insL_len1 (e : Nat × List Int) (p : List S25) : (insL e p).1.length = p.length + (insL e p).2.toNat := by
  have key : ∀ (q : List S25) (s : List S25 × Bool), (q.foldl (insStep e) s).1.length + s.2.toNat = s.1.length + q.length + (q.foldl (insStep e) s).2.toNat := by
    intro q
    induction q with
    | nil => intro s; simp
    | cons r q ih =>
      intro s
      have h2 := ih (insStep e s r)
      simp only [List.foldl_cons, List.length_cons]
      have h3 : (insStep e s r).1.length + s.2.toNat = s.1.length + 1 + (insStep e s r).2.toNat := by
        unfold insStep
        obtain ⟨s1, s2⟩ := s
        cases s2
        · split <;> simp
        · simp
      omega
  have := key p ([], false)
  simpa [insL] using this
theorem addS_len (l : List S25) (m : Int) (d : List Int) : (addS l m d).1.length ≤ l.length + 1 := by
  unfold addS
  split
  · simp
  · split
    · simp
    · split
      · simp
      · show (insS _ l).length ≤ _
        have := insL_len1 (redS l (m.toNat, d)) l
        unfold insS
        split
        · rename_i h; rw [h] at this; rw [this]; simp
        · rename_i h
          rw [List.length_append, this, show (insL (redS l (m.toNat, d)) l).2 = false by simpa using h]
          simp
theorem sumE_len {B : List Int} (hB : B.length = 256) (s : Int) (hs : 0 ≤ s ∧ s ≤ 1000000000) : (sumE B s).length = 16 := by
  have := setS_range s hs.1 hs.2
  exact (foldE_ok hB (by omega) _).1
set_option maxRecDepth 100000 in
set_option maxHeartbeats 1000000 in
theorem received_calls (A : Option Addr) (c : Nat) (B : List Int) (A2 : Option Addr) (c2 : Nat) (seeds : List Int) (w : World) (hc : 256 ≤ c) (hr : Kd.C (Kd.int .u8) w A 256 B) (hr2 : Kd.C (Kd.int .i64) w A2 seeds.length seeds) (hl : seeds.length ≤ 200) (hg : ∀ s ∈ seeds, 0 ≤ s ∧ s ≤ 1000000000) (ht : Tabs w) :
    Calls Tryd.prog 24 #[.slice A 256 c, .slice A2 seeds.length c2] w fun e w' => ∃ v, e = .returned (.tuple #[v, .int .i64 (recL B seeds [] 0).2.1, .bool (recL B seeds [] 0).2.2]) ∧ Kd.S k25 52 w' w.heap.size (fun _ => True) v (recL B seeds [] 0).1 ∧ Below w.heap.size w w' := by
  have ENC := Lib.hid (fun s w' (h : Below w.heap.size w w') hs => encode_good A c B 0 s w' hc (Kd.C_below hr h) (ht.keep h) (by omega) hs)
  have HR2 := Lib.hid hr2
  have HT := Lib.hid ht
  have HG := Lib.hid hg
  have hBl : B.length = 256 := hr.1
  have HBL := Lib.hid hBl
  obtain ⟨N, hN⟩ : ∃ N, N = seeds.length := ⟨_, rfl⟩
  have HN := Lib.hid hN
  obtain ⟨ans, hans⟩ : ∃ ans, ans = recL B seeds [] 0 := ⟨_, rfl⟩
  have HANS := Lib.hid hans
  rw [← hN] at hl HR2 ⊢
  rw [← hans]
  clear hr hr2 ht hg hBl hN hans
  go_enter Tryd.func24, Tryd.ntmps24
  go_wp2
  go_loopw [7, 8, 9] (fun lv mv i wr => ∃ (k : Nat) (zs : List S25) (n : Int), k ≤ N ∧ i = .int .i64 k ∧ mv = .int .i64 n ∧ 0 ≤ n ∧ n ≤ k ∧ zs.length ≤ k ∧ Kd.S k25 52 wr w.heap.size (fun _ => True) lv zs ∧ ans = recL B (seeds.drop k) zs n ∧ Below w.heap.size w wr)
    (fun _ _ i _ => N - (intOf i).toNat)
  case atStart => exact ⟨0, [], 0, Nat.zero_le _, rfl, rfl, by omega, by omega, by simp, Kd.S_nil _ _ _ _ _, HANS.out, Below.refl _ _⟩
  case round =>
    obtain ⟨k, zs, n, hk, rfl, rfl, hn0, hn1, hz, hS, hrec, hB⟩ := hrel
    by_cases hlt : k < N
    · have hks : k < seeds.length := by rw [← HN.out]; exact hlt
      obtain ⟨s, hs⟩ : ∃ s, s = seeds[k] := ⟨_, rfl⟩
      have hgs : 0 ≤ s ∧ s ≤ 1000000000 := HG.out s (by rw [hs]; exact List.getElem_mem hks)
      have hd : seeds.drop k = s :: seeds.drop (k + 1) := by rw [hs]; exact List.drop_eq_getElem_cons hks
      rw [hd] at hrec
      simp only [recL] at hrec
      obtain ⟨ad, hA2, hcell⟩ := Kd.at_int (Kd.C_below HR2.out hB) (k : Int) (by omega) (by omega)
      have hrd : rd seeds (k : Int) = s := by simp [rd, hks, hs]
      rw [hrd, Int.toNat_natCast] at hcell
      subst hA2
      have henc := ENC.out s wr hB hgs
      rw [show (foldE B (setS s).toNat (fr 16)).1 = sumE B s from rfl] at henc
      have hsl := sumE_len HBL.out s hgs
      obtain ⟨E, hE⟩ : ∃ E, E = sumE B s := ⟨_, rfl⟩
      rw [← hE] at henc hsl hrec
      obtain ⟨A3, c3, rfl⟩ := Kd.R_slice (Kd.S_R hS)
      have HENC := Lib.hid henc
      have HSL := Lib.hid hsl
      have HGS := Lib.hid hgs
      have HREC := Lib.hid hrec
      have HS := Lib.hid hS
      have HB := Lib.hid hB
      obtain ⟨zl, hzl⟩ : ∃ zl, zl = zs.length := ⟨_, rfl⟩
      have HZL := Lib.hid hzl
      rw [← hzl] at hz ⊢
      have h14 := fun (A4 : Option Addr) W (hW : Below w.heap.size w W) (h1 : Kd.C k25 W A3 zs.length zs) (h2 : Kd.C (Kd.int .u8) W A4 E.length E) (c4 : Nat) => receive_good A3 c3 zs 0 s A4 c4 E (.slice none 0 0) W h1 h2 (by omega) (HT.out.keep hW) ⟨by omega, hgs, by rw [hsl]; rfl⟩
      have hal := addS_len zs (setS s) E
      obtain ⟨an, han⟩ : ∃ an, an = addS zs (setS s) E := ⟨_, rfl⟩
      rw [← han] at hrec hal
      simp only [← han] at h14
      obtain ⟨zs2, f2, e2⟩ := an
      simp only at hrec hal h14
      rw [← hzl] at h14
      have HREC := Lib.hid hrec
      have HAL := Lib.hid hal
      have HREV := Lib.hid h14
      clear h14 han hal
      clear henc hsl hgs hrec hS hB hzl hE hs hd hrd hks
      have h200 : (k : Int) < 200 := by omega
      have hrec2 := HREC.out
      by_cases he : e2 = 0
      · subst he
        rw [if_pos rfl] at hrec2
        have HREC2 := Lib.hid hrec2
        clear hrec2
        cases f2
        · go_wp2_with (first
            | (go_at_call 12; refine HENC.out.mono ?_; rintro e w1 ⟨v, rfl, hv, hb⟩; have hsz := HB.out.size; obtain ⟨A4, c4, rfl⟩ := Kd.R_slice hv; have HV := Lib.hid hv; have HB1 := Lib.hid hb; have HBB1 := Lib.hid (HB.out.trans (hb.mono hsz)); clear hv hb)
            | (go_at_call 14; have hbb := HBB1.out.alloc HBB1.out.size (.cells #[.int .i64 0, .int .i64 s, .slice A4 E.length c4, .slice none 0 0] 26); have hb0 := (Below.refl w1.heap.size w1).alloc (Nat.le_refl _) (.cells #[.int .i64 0, .int .i64 s, .slice A4 E.length c4, .slice none 0 0] 26); refine (HREV.out A4 _ hbb (by rw [HZL.out] at *; exact (Kd.S_reads' (Kd.S_below (Kd.S_below HS.out HB1.out) hb0)).2.2) (Kd.R_reads' (Kd.R_below HV.out hb0)).2.2 c4).mono ?_; rintro e w2 ⟨v2, rfl, hv2, hb2⟩; have HV2 := Lib.hid (Kd.S_lower hv2 hbb.size); have HB2 := Lib.hid (hbb.trans (hb2.mono hbb.size)); clear hv2 hb2 hbb hb0))
          go_roundw
          case rel => exact ⟨k + 1, zs2, n, by omega, by go_num, rfl, by omega, by omega, by have := HAL.out; have := HZL.out; omega, HV2.out, by rw [HREC2.out]; rfl, HB2.out⟩
          case measure => simp [intOf]; omega
        · go_wp2_with (first
            | (go_at_call 12; refine HENC.out.mono ?_; rintro e w1 ⟨v, rfl, hv, hb⟩; have hsz := HB.out.size; obtain ⟨A4, c4, rfl⟩ := Kd.R_slice hv; have HV := Lib.hid hv; have HB1 := Lib.hid hb; have HBB1 := Lib.hid (HB.out.trans (hb.mono hsz)); clear hv hb)
            | (go_at_call 14; have hbb := HBB1.out.alloc HBB1.out.size (.cells #[.int .i64 0, .int .i64 s, .slice A4 E.length c4, .slice none 0 0] 26); have hb0 := (Below.refl w1.heap.size w1).alloc (Nat.le_refl _) (.cells #[.int .i64 0, .int .i64 s, .slice A4 E.length c4, .slice none 0 0] 26); refine (HREV.out A4 _ hbb (by rw [HZL.out] at *; exact (Kd.S_reads' (Kd.S_below (Kd.S_below HS.out HB1.out) hb0)).2.2) (Kd.R_reads' (Kd.R_below HV.out hb0)).2.2 c4).mono ?_; rintro e w2 ⟨v2, rfl, hv2, hb2⟩; have HV2 := Lib.hid (Kd.S_lower hv2 hbb.size); have HB2 := Lib.hid (hbb.trans (hb2.mono hbb.size)); clear hv2 hb2 hbb hb0))
          go_roundw
          case rel => exact ⟨k + 1, zs2, n + 1, by omega, by go_num, rfl, by omega, by omega, by have := HAL.out; have := HZL.out; omega, HV2.out, by rw [HREC2.out]; rfl, HB2.out⟩
          case measure => simp [intOf]; omega
      · rw [if_neg he] at hrec2
        have HREC2 := Lib.hid hrec2
        have e1 : (e2 == 0) = false := by simpa using he
        clear hrec2
        go_wp2_with (first
          | (go_at_call 12; refine HENC.out.mono ?_; rintro e w1 ⟨v, rfl, hv, hb⟩; have hsz := HB.out.size; obtain ⟨A4, c4, rfl⟩ := Kd.R_slice hv; have HV := Lib.hid hv; have HB1 := Lib.hid hb; have HBB1 := Lib.hid (HB.out.trans (hb.mono hsz)); clear hv hb)
          | (go_at_call 14; have hbb := HBB1.out.alloc HBB1.out.size (.cells #[.int .i64 0, .int .i64 s, .slice A4 E.length c4, .slice none 0 0] 26); have hb0 := (Below.refl w1.heap.size w1).alloc (Nat.le_refl _) (.cells #[.int .i64 0, .int .i64 s, .slice A4 E.length c4, .slice none 0 0] 26); refine (HREV.out A4 _ hbb (by rw [HZL.out] at *; exact (Kd.S_reads' (Kd.S_below (Kd.S_below HS.out HB1.out) hb0)).2.2) (Kd.R_reads' (Kd.R_below HV.out hb0)).2.2 c4).mono ?_; rintro e w2 ⟨v2, rfl, hv2, hb2⟩; have HV2 := Lib.hid (Kd.S_lower hv2 hbb.size); have HB2 := Lib.hid (hbb.trans (hb2.mono hbb.size)); clear hv2 hb2 hbb hb0))
        refine bodyPost_ret (by simp [results, Tryd.results24, go_sem]; rfl) rfl ?_
        rw [HREC2.out]
        exact ⟨_, rfl, Kd.S_nil _ _ _ _ _, HB2.out⟩
    · obtain rfl : k = N := by omega
      have hdr : seeds.drop k = [] := List.drop_of_length_le (by rw [← HN.out]; omega)
      rw [hdr] at hrec
      have HREC := Lib.hid hrec
      have HS := Lib.hid hS
      have HB := Lib.hid hB
      clear hrec hS hB
      go_wp2
      refine bodyPost_ret (by simp [results, Tryd.results24, go_sem]; rfl) rfl ?_
      rw [HREC.out]
      exact ⟨_, rfl, HS.out, HB.out⟩
end Go.Proofs.YtknlbeojdmeljaaDoor.H
namespace Go.Proofs.YtknlbeojdmeljaaDoor.H
open Go.RowKit Go.Proofs.YtknlbeojdmeljaaDoorW.PrintWords Go.Proofs.YtknlbeojdmeljaaDoorW.PrintLast Go.Proofs.YtknlbeojdmeljaaDoorW.PrintMore Go.Proofs.YtknlbeojdmeljaaDoor.P
set_option linter.unusedVariables false
set_option linter.unusedSimpArgs false
/-- the example page: block i consists of bytes i -/
def exB : List Int := (List.range 256).map (fun i => ((i / 16 : Nat) : Int))
def up15 : List Int := [0, 1, 2, 3, 4, 5, 6, 7, 8, 9, 10, 11, 12, 13, 14]
def dn16 : List Int := [15, 14, 13, 12, 11, 10, 9, 8, 7, 6, 5, 4, 3, 2, 1, 0]
theorem ex_enc : (foldE exB 8 (fr 16)).1 = List.replicate 16 3 := by kernel_rfl
theorem ex_up : (recL exB up15 [] 0).2 = (15, true) := by kernel_rfl
theorem ex_upP : (pageS (recL exB up15 [] 0).1).2 = false := by kernel_rfl
theorem ex_dn : (recL exB dn16 [] 0).2 = (16, true) := by kernel_rfl
theorem ex_dnP : pageS (recL exB dn16 [] 0).1 = (exB, true) := by kernel_rfl
theorem ex_is : slotmeshlaw34_example.f 300 = some exB := by kernel_rfl
theorem ex_b3 : slotmeshref33_Bytes.f 300 (List.replicate 16 3) (List.replicate 16 3) = some true := by kernel_rfl
theorem ex_bb : slotmeshref33_Bytes.f 300 exB exB = some true := by kernel_rfl
end Go.Proofs.YtknlbeojdmeljaaDoor.H
namespace Go.Proofs.YtknlbeojdmeljaaDoor.L
open Go.RowKit Go.Proofs.YtknlbeojdmeljaaDoorW.PrintWords Go.Proofs.YtknlbeojdmeljaaDoorW.PrintLast Go.Proofs.YtknlbeojdmeljaaDoorW.PrintMore Go.Proofs.YtknlbeojdmeljaaDoor.P Go.Proofs.YtknlbeojdmeljaaDoor.H
set_option linter.unusedVariables false
set_option linter.unusedSimpArgs false
def sumTo (B : List Int) (m : Nat) : Nat → List Int
  | 0 => z16
  | k + 1 => if m.testBit k = true then xorD (sumTo B m k) (blk B k) else sumTo B m k
def sumB (B : List Int) (m : Nat) : List Int := sumTo B m 16
theorem sumTo_len {B : List Int} (hB : B.length = 256) (m : Nat) : ∀ k, k ≤ 16 → (sumTo B m k).length = 16
  | 0, _ => rfl
  | k + 1, h => by
    have h1 := sumTo_len hB m k (by omega)
    unfold sumTo
    split
    · simp [xorD, h1, blk_len hB (show k < 16 by omega)]
    · exact h1
/-- one more equation that is true of the blocks -/
def stepA (B : List Int) (l : Option (List S25)) (m : Int) : Option (List S25) :=
  match l with
  | none => none
  | some l => if m = 0 then some l else if (addS l m (sumB B m.toNat)).2.2 = 0 then some (addS l m (sumB B m.toNat)).1 else none
structure PB (B : List Int) : Prop where
  len : B.length = 256
  rng : ∀ b ∈ B, isB b
theorem xorD_eq (a b : List Int) : ((0 : Nat), xorD a b) = addE (0, a) (0, b) := pair_ext (Nat.xor_self 0).symm rfl
theorem blk_ge {B : List Int} (hB : PB B) {i : Nat} (hi : i < 16) : GE (0, blk B i) :=
  data_ge (blk_len hB.len hi) (fun b hb => hB.rng b (List.mem_of_mem_drop (List.mem_of_mem_take hb)))
theorem sumTo_ge {B : List Int} (hB : PB B) (m : Nat) : ∀ k, k ≤ 16 → GE (0, sumTo B m k)
  | 0, _ => zeroE_ge
  | k + 1, h => by
    have h1 := sumTo_ge hB m k (by omega)
    unfold sumTo
    split
    · rw [xorD_eq]; exact h1.add (blk_ge hB (show k < 16 by omega))
    · exact h1
theorem sumTo_xor {B : List Int} (hB : PB B) (a b : Nat) : ∀ k, k ≤ 16 → ((0 : Nat), sumTo B (a ^^^ b) k) = addE (0, sumTo B a k) (0, sumTo B b k)
  | 0, _ => (addE_zero zeroE_ge).symm
  | k + 1, h => by
    have ih := sumTo_xor hB a b k (by omega)
    have ga := sumTo_ge hB a k (by omega)
    have gb := sumTo_ge hB b k (by omega)
    have gk := blk_ge hB (show k < 16 by omega)
    unfold sumTo
    rw [Nat.testBit_xor]
    cases ha : a.testBit k <;> cases hb : b.testBit k
    · exact ih
    · rw [if_pos (by rfl), if_neg (by simp), if_pos rfl, xorD_eq, ih, xorD_eq, addE_assoc ga gb gk]
    · rw [if_pos (by rfl), if_pos rfl, if_neg (by simp), xorD_eq, ih, xorD_eq, addE_assoc ga gb gk, addE_comm gb gk, ← addE_assoc ga gk gb]
    · rw [if_neg (by simp), if_pos rfl, if_pos rfl, ih, xorD_eq, xorD_eq, addE_four ga gk gb gk, addE_self gk, addE_zero (ga.add gb)]
theorem sumTo_zero (B : List Int) : ∀ k, sumTo B 0 k = z16
  | 0 => rfl
  | k + 1 => by unfold sumTo; rw [if_neg (by simp)]; exact sumTo_zero B k
/-- true equations -/
def TE (B : List Int) (x : Nat × List Int) : Prop := x.1 < 65536 ∧ x.2 = sumB B x.1
theorem TE.ge {B : List Int} (hB : PB B) {x : Nat × List Int} (h : TE B x) : GE x := by
  have := sumTo_ge hB x.1 16 (by omega)
  exact ⟨h.1, by rw [h.2]; exact this.len, by rw [h.2]; exact this.rng⟩
theorem TE.add {B : List Int} (hB : PB B) {x y : Nat × List Int} (hx : TE B x) (hy : TE B y) : TE B (addE x y) := by
  refine ⟨((hx.ge hB).add (hy.ge hB)).m, ?_⟩
  have h := congrArg Prod.snd (sumTo_xor hB x.1 y.1 16 (by omega))
  show xorD x.2 y.2 = sumTo B (x.1 ^^^ y.1) 16
  rw [hx.2, hy.2]
  exact h.symm
theorem TE.mk_ (B : List Int) {m : Nat} (hm : m < 65536) : TE B (m, sumB B m) := ⟨hm, rfl⟩
theorem TE.null {B : List Int} {x : Nat × List Int} (hx : TE B x) (h : x.1 = 0) : x = zeroE := by
  refine pair_ext h ?_
  rw [hx.2, h]
  exact sumTo_zero B 16
/-- rows that are true of the blocks -/
structure TR (B : List Int) (l : List S25) : Prop where
  vp : VP l
  gr : GR l
  tr : ∀ r ∈ l, TE B (rowv r)
theorem TR.nil (B : List Int) : TR B [] := ⟨VP.of_pair (by simp) List.Pairwise.nil, ⟨by simp, by simp⟩, by simp⟩
theorem TR.red {B : List Int} (hB : PB B) {l : List S25} (hg : GR l) (ht : ∀ r ∈ l, TE B (rowv r)) : ∀ {x : Nat × List Int}, TE B x → TE B (redS l x) := by
  induction l with
  | nil => intro x hx; exact hx
  | cons r l ih =>
    intro x hx
    obtain ⟨j, _, hj, _⟩ := hg.lead List.mem_cons_self
    refine ih hg.tail (fun s hs => ht s (List.mem_cons_of_mem _ hs)) (x := stepS x r) ?_
    rw [stepS_eq x r hj]
    split
    · exact hx.add hB (ht r List.mem_cons_self)
    · exact hx
theorem TR.add {B : List Int} (hB : PB B) {l : List S25} (h : TR B l) {m : Nat} (h1 : 1 ≤ m) (h2 : m < 65536) :
    ((redS l (m, sumB B m)).1 = 0 ∧ redS l (m, sumB B m) = zeroE ∧ addS l (m : Int) (sumB B m) = (l, false, 0)) ∨
    ((redS l (m, sumB B m)).1 ≠ 0 ∧ NE l (redS l (m, sumB B m)) ∧ addS l (m : Int) (sumB B m) = (insS (redS l (m, sumB B m)) l, true, 0) ∧ TR B (insS (redS l (m, sumB B m)) l)) := by
  have ht := TR.red hB h.gr h.tr (TE.mk_ B h2)
  have hge := (TE.mk_ B h2).ge hB
  have hv := (validS_iff l).2 h.vp
  have hf : fineB (m : Int) (sumB B m) = true := by
    have : (sumB B m).length = 16 := hge.len
    unfold fineB
    simp [this]
    omega
  have hs : addS l (m : Int) (sumB B m) = if redS l (m, sumB B m) = (0, z16) then (l, false, 0) else if (redS l (m, sumB B m)).1 = 0 then ([], false, 12) else (insS (redS l (m, sumB B m)) l, true, 0) := by
    unfold addS; rw [if_neg (by rw [hv, hf]; simp)]; rfl
  by_cases h0 : (redS l (m, sumB B m)).1 = 0
  · have hz := ht.null h0
    exact .inl ⟨h0, hz, by rw [hs]; exact if_pos hz⟩
  · have hne : NE l (redS l (m, sumB B m)) := ⟨redS_ge h.gr hge, h0, redS_clear h.gr h.vp hge⟩
    obtain ⟨hv2, hg2, _⟩ := insS_ok h.gr h.vp hne
    refine .inr ⟨h0, hne, by rw [hs, if_neg (fun e => h0 (by rw [e])), if_neg h0], hv2, hg2, fun r hr => ?_⟩
    obtain ⟨_, _, h3⟩ := insS_mem h.vp (redS l (m, sumB B m))
    rcases h3 r hr with rfl | ⟨s, hs2, rfl⟩
    · rw [rowE_v]; exact ht
    · rcases mixE_or h.gr hne hs2 with e | e
      · rw [e]; exact (h.tr s hs2).add hB ht
      · rw [e]; exact h.tr s hs2
theorem TR.step {B : List Int} (hB : PB B) {l : List S25} (h : TR B l) {m : Int} (h0 : 0 ≤ m) (h2 : m < 65536) : ∃ l', stepA B (some l) m = some l' ∧ TR B l' := by
  unfold stepA
  by_cases hm : m = 0
  · exact ⟨l, by simp [hm], h⟩
  · obtain ⟨m, rfl⟩ := Int.eq_ofNat_of_zero_le h0
    rcases h.add hB (m := m) (by omega) (by omega) with ⟨_, _, e⟩ | ⟨_, _, e, ht⟩
    · refine ⟨l, ?_, h⟩
      simp only [if_neg hm, Int.toNat_natCast, e]
      rfl
    · refine ⟨_, ?_, ht⟩
      simp only [if_neg hm, Int.toNat_natCast, e]
      rfl
theorem TR.all {B : List Int} (hB : PB B) : ∀ (ms : List Int) {l : List S25}, TR B l → (∀ x ∈ ms, 0 ≤ x ∧ x < 65536) → ∃ l', ms.foldl (stepA B) (some l) = some l' ∧ TR B l'
  | [], l, h, _ => ⟨l, rfl, h⟩
  | m :: ms, l, h, hm => by
    obtain ⟨l1, e1, h1⟩ := h.step hB (m := m) (hm m List.mem_cons_self).1 (hm m List.mem_cons_self).2
    obtain ⟨l2, e2, h2⟩ := TR.all hB ms h1 (fun x hx => hm x (List.mem_cons_of_mem _ hx))
    exact ⟨l2, by rw [List.foldl_cons, e1, e2], h2⟩
theorem xorD_z {B : List Int} (hB : PB B) {d : List Int} (hd : GE (0, d)) {m : Nat} (hm : m < 65536) (h : xorD d (sumB B m) = z16) : d = sumB B m := by
  have h2 : addE (0, d) (0, sumB B m) = zeroE := pair_ext (Nat.xor_self 0) h
  exact congrArg Prod.snd (addE_eq_zero hd (sumTo_ge hB m 16 (by omega)) h2)
/-- what follows from true rows is true -/
theorem TR.sum {B : List Int} (hB : PB B) {l : List S25} (h : TR B l) (m : Nat) (hm : m < 65536) (hf : (sumS l (m : Int)).2 = true) : (sumS l (m : Int)).1 = sumB B m := by
  have hv := (validS_iff l).2 h.vp
  have hs := sumS_eq hv m hm
  rw [hs] at hf ⊢
  by_cases h0 : (redS l (m, z16)).1 = 0
  · rw [if_neg (fun e => e h0)]
    have ht := TR.red hB h.gr h.tr (TE.mk_ B hm)
    have hge := (TE.mk_ B hm).ge hB
    rw [redS_split h.gr m hm hge.len hge.rng] at ht
    have h1 : (addE (redS l (m, z16)) (0, sumB B m)).1 = 0 := by show (redS l (m, z16)).1 ^^^ 0 = 0; rw [h0]; rfl
    have h2 := congrArg Prod.snd (ht.null h1)
    have hg := redS_ge h.gr (mask_ge m hm)
    exact xorD_z hB ⟨by show (0 : Nat) < 65536; omega, hg.len, hg.rng⟩ hm h2
  · rw [if_pos h0] at hf
    cases hf
theorem desc_ext : ∀ (L L' : List Nat), L.Pairwise (· > ·) → L'.Pairwise (· > ·) → (∀ x ∈ L, x ∈ L') → (∀ x ∈ L', x ∈ L) → L = L'
  | [], [], _, _, _, _ => rfl
  | [], b :: L', _, _, _, h => absurd (h b List.mem_cons_self) (by simp)
  | a :: L, [], _, _, h, _ => absurd (h a List.mem_cons_self) (by simp)
  | a :: L, b :: L', hp, hq, h1, h2 => by
    rw [List.pairwise_cons] at hp hq
    have hab : a = b := by
      have x1 := h1 a List.mem_cons_self
      have x2 := h2 b List.mem_cons_self
      rcases List.mem_cons.1 x1 with e | e
      · exact e
      · rcases List.mem_cons.1 x2 with e2 | e2
        · exact e2.symm
        · have := hp.1 b e2
          have := hq.1 a e
          omega
    subst hab
    rw [desc_ext L L' hp.2 hq.2 (fun x hx => ?_) (fun x hx => ?_)]
    · rcases List.mem_cons.1 (h1 x (List.mem_cons_of_mem _ hx)) with e | e
      · have := hp.1 x hx
        omega
      · exact e
    · rcases List.mem_cons.1 (h2 x (List.mem_cons_of_mem _ hx)) with e | e
      · have := hq.1 x hx
        omega
      · exact e
end Go.Proofs.YtknlbeojdmeljaaDoor.L
namespace Go.Proofs.YtknlbeojdmeljaaDoor.L
open Go.RowKit Go.Proofs.YtknlbeojdmeljaaDoorW.PrintWords Go.Proofs.YtknlbeojdmeljaaDoorW.PrintLast Go.Proofs.YtknlbeojdmeljaaDoorW.PrintMore Go.Proofs.YtknlbeojdmeljaaDoor.P Go.Proofs.YtknlbeojdmeljaaDoor.H
set_option linter.unusedVariables false
set_option linter.unusedSimpArgs false
theorem sumTo_succ (B : List Int) (m k : Nat) : sumTo B m (k + 1) = if m.testBit k = true then xorD (sumTo B m k) (blk B k) else sumTo B m k := rfl
theorem foldE_sum {B : List Int} {m : Nat} (hm : m < 65536) : ∀ k, k ≤ 16 → foldE B m (fr k) = (sumTo B m k, hiS m k)
  | 0, _ => by rw [hiS_zero]; rfl
  | k + 1, h => by
    rw [fr_succ (show k < 16 by omega), foldE_snoc, foldE_sum hm k (by omega)]
    rw [sumTo_succ]
    unfold stepE
    by_cases hb : m.testBit k = true
    · rw [if_pos ((ctz_eq hm (by omega)).2 hb), if_pos hb, hiS_step hb]
    · rw [if_neg (fun h => hb ((ctz_eq hm (by omega)).1 h)), if_neg hb, hiS_same (by simpa using hb)]
theorem sumE_eq (B : List Int) (s : Int) (hs : 0 ≤ s ∧ s ≤ 1000000000) : sumE B s = sumB B (setS s).toNat := by
  have := setS_range s hs.1 hs.2
  exact congrArg Prod.fst (foldE_sum (B := B) (m := (setS s).toNat) (by omega) 16 (Nat.le_refl _))
def Good (l : List Int) : Prop := ∀ s ∈ l, 0 ≤ s ∧ s ≤ 1000000000
theorem Good.ms {l : List Int} (h : Good l) : ∀ x ∈ l.map setS, 0 ≤ x ∧ x < 65536 := by
  intro x hx
  obtain ⟨s, hs, rfl⟩ := List.mem_map.1 hx
  have := setS_range s (h s hs).1 (h s hs).2
  omega
theorem setN (s : Int) (hs : 0 ≤ s ∧ s ≤ 1000000000) : ∃ m : Nat, setS s = (m : Int) ∧ 1 ≤ m ∧ m < 65536 := by
  have := setS_range s hs.1 hs.2
  exact ⟨(setS s).toNat, by omega, by omega, by omega⟩
theorem find_iff (l : List S25) (i : Nat) : (l.find? (fun x => x.f0.toNat == 2 ^ i)).isSome = true ↔ ∃ r ∈ l, r.f0.toNat = 2 ^ i := by
  rw [List.find?_isSome]
  simp
theorem solved_iff {l : List S25} (hv : validS l = true) {i : Nat} (hi : i < 16) : (solvedS l (i : Int)).2 = true ↔ ∃ r ∈ l, r.f0.toNat = 2 ^ i := by
  rw [← find_iff]
  unfold solvedS
  rw [if_neg (by rw [hv]; simp; omega), Int.toNat_natCast]
  cases l.find? (fun x => x.f0.toNat == 2 ^ i) <;> simp
def down16 : List Nat := [15, 14, 13, 12, 11, 10, 9, 8, 7, 6, 5, 4, 3, 2, 1, 0]
theorem down16_mem {i : Nat} : i ∈ down16 ↔ i < 16 := by
  unfold down16
  simp only [List.mem_cons, List.not_mem_nil, or_false]
  omega
theorem full {l : List S25} (hl : GR l) (hv : VP l) (h : ∀ i, i < 16 → ∃ r ∈ l, H.lead r.f0.toNat = 2 ^ i) : l.length = 16 := by
  have := desc_ext (l.map expo) down16 (expo_desc hl hv) (by decide) (fun x hx => ?_) (fun x hx => ?_)
  · have h2 := congrArg List.length this
    rw [List.length_map] at h2
    exact h2
  · obtain ⟨r, hr, rfl⟩ := List.mem_map.1 hx
    exact down16_mem.2 (expo_spec hl hr).1
  · obtain ⟨r, hr, e⟩ := h x (down16_mem.1 hx)
    refine List.mem_map.2 ⟨r, hr, ?_⟩
    have := (expo_spec hl hr).2
    rw [e] at this
    exact ((Nat.pow_right_inj (show 1 < 2 by omega)).1 this).symm
theorem found_all (l : List S25) : (foundTo l 16).all id = true ↔ ∀ i : Nat, i < 16 → (solvedS l (i : Int)).2 = true := by
  unfold foundTo foundB
  rw [List.all_eq_true]
  constructor
  · intro h i hi
    have := h _ (List.mem_map.2 ⟨i, List.mem_range.2 hi, rfl⟩)
    simp only [id, Bool.and_eq_true] at this
    exact this.2
  · intro h x hx
    obtain ⟨i, hi, rfl⟩ := List.mem_map.1 hx
    have hi := List.mem_range.1 hi
    simp only [id, Bool.and_eq_true, decide_eq_true_eq]
    exact ⟨hi, h i hi⟩
theorem lead_pow {l : List S25} (hl : GR l) {r : S25} (hr : r ∈ l) {i : Nat} (hi : i < 16) (h : r.f0.toNat = 2 ^ i) : H.lead r.f0.toNat = 2 ^ i := by
  rw [h]
  exact lead_two_pow i hi
theorem enough {l : List S25} {B : List Int} (hB : PB B) (h : TR B l) (h16 : l.length = 16) {m : Nat} (h1 : 1 ≤ m) (h2 : m < 65536) : redS l (m, sumB B m) = zeroE ∧ addS l (m : Int) (sumB B m) = (l, false, 0) := by
  rcases h.add hB h1 h2 with ⟨_, e, e2⟩ | ⟨_, hne, _, ht⟩
  · exact ⟨e, e2⟩
  · have := len16 ht.gr ht.vp
    rw [(insS_ok h.gr h.vp hne).2.2] at this
    omega
theorem PB.xor {A B : List Int} (hA : PB A) (hB : PB B) : PB (xorD A B) := by
  refine ⟨by simp [xorD, hA.len, hB.len], fun b hb => ?_⟩
  unfold xorD at hb
  obtain ⟨i, hi, rfl⟩ := List.getElem_of_mem hb
  simp only [List.length_zipWith] at hi
  rw [List.getElem_zipWith]
  have a := hA.rng _ (List.getElem_mem (show i < A.length by omega))
  have b := hB.rng _ (List.getElem_mem (show i < B.length by omega))
  exact xorB_isB a b
end Go.Proofs.YtknlbeojdmeljaaDoor.L
namespace Go.Proofs.YtknlbeojdmeljaaDoor.R
open Go.ChangeShapes Go.WideShapes Go.ChangeAt Go.RowKit Go.Proofs.YtknlbeojdmeljaaDoorW.PrintWords Go.Proofs.YtknlbeojdmeljaaDoor.P
open Go.Proofs.YtknlbeojdmeljaaDoor.L (isB)
set_option linter.unusedVariables false
theorem open_num {k : IntKind} {t te : TypeId} (hu : Tryd.prog.underlying t = some (.slice te)) (hk : Tryd.prog.underlying te = some (.int k)) (hc1 : Tryd.prog.cellsOf te = 1) {H : Type} {enc : TypeId × Value → H} {W : World} {a : Option Addr} {len cap : Nat} {d : DataW H} {p : List MemPlace} (h : DataW.Trod enc Tryd.prog W 0 (fun _ => true) true t (.slice a len cap) d p) :
    ∃ ds : List Int, len = ds.length ∧ len ≤ cap ∧ Kd.C (Kd.int k) W a len ds ∧ ∀ b ∈ ds, (Lit.int k b).wf = true := by
  obtain ⟨n, h⟩ := h
  rcases open_ints hu hk hc1 h with ⟨hcs, _⟩ | ⟨ad, l, c, zs, hcs, _, hl, hm, hz, _, hcell, hwz⟩
  · simp [Value.cells] at hcs
    obtain ⟨rfl, rfl, rfl⟩ := hcs
    exact ⟨[], rfl, Nat.le_refl _, ⟨rfl, by simp, fun h => absurd h (by simp)⟩, by simp⟩
  · simp [Value.cells] at hcs
    obtain ⟨rfl, rfl, rfl⟩ := hcs
    have hz' : zs.length = cap := by simpa using hz
    have hl' : len ≤ cap := by simpa using hl
    have htl : (zs.take len).length = len := by rw [List.length_take]; omega
    refine ⟨zs.take len, htl.symm, hl', ⟨htl, by have : cap ≤ maxLen := hm; unfold maxLen at this; omega, fun _ => ⟨ad, rfl, fun j p hj => ⟨[.int k p], rfl, rfl, fun i u hu => ?_⟩⟩⟩, fun b hb => hwz b (List.mem_of_mem_take hb)⟩
    match i, hu with
    | 0, hu =>
      simp at hu
      subst hu
      rw [List.getElem?_take] at hj
      split at hj
      · rename_i hjl
        have h2 := hcell j (by omega)
        rw [List.getD_eq_getElem?_getD, hj] at h2
        have e : (Kd.int k).sz = 1 := rfl
        rw [e, Nat.mul_one]
        exact h2
      · cases hj
theorem open_byteS {H : Type} {enc : TypeId × Value → H} {W : World} {a : Option Addr} {len cap : Nat} {d : DataW H} {p : List MemPlace} (h : DataW.Trod enc Tryd.prog W 0 (fun _ => true) true 22 (.slice a len cap) d p) :
    ∃ ds : List Int, len = ds.length ∧ len ≤ cap ∧ Kd.C (Kd.int .u8) W a len ds ∧ ∀ b ∈ ds, isB b := by
  obtain ⟨ds, h1, h2, h3, h4⟩ := open_num Tryd.underlying22 Tryd.underlying5 cell5' h
  refine ⟨ds, h1, h2, h3, fun b hb => ?_⟩
  have h3 := h4 b hb
  simp only [Lit.wf, Bool.and_eq_true, decide_eq_true_eq] at h3
  have e1 : IntKind.u8.min = 0 := rfl
  have e2 : IntKind.u8.max = 255 := rfl
  rw [e1, e2] at h3
  exact ⟨h3.1, by omega⟩
end Go.Proofs.YtknlbeojdmeljaaDoor.R
namespace Go.Proofs.YtknlbeojdmeljaaDoor.R
open Go.ChangeShapes Go.WideShapes Go.ChangeAt Go.RowKit Go.Proofs.YtknlbeojdmeljaaDoorW.PrintWords Go.Proofs.YtknlbeojdmeljaaDoor.P
open Go.Proofs.YtknlbeojdmeljaaDoor.L (isB)
set_option linter.unusedVariables false
theorem cell25 : Tryd.prog.cellsOf 52 = 2 := by kernel_rfl
theorem cell5b : Tryd.prog.cellsOf 5 = 1 := by kernel_rfl
theorem cell3 : Tryd.prog.cellsOf 3 = 1 := by kernel_rfl
theorem cell23 : Tryd.prog.cellsOf 22 = 1 := by kernel_rfl
theorem open_bytes {H : Type} {enc : TypeId × Value → H} {W : World} {n : Nat} {v : Value} {x : DataW H × List MemPlace} (h : DataW.trod enc Tryd.prog W 0 (fun _ => true) true n 22 [v] = some x) :
    ∃ (A : Option Addr) (c : Nat) (ds : List Int), v = .slice A ds.length c ∧ ds.length ≤ c ∧ Kd.C (Kd.int .u8) W A ds.length ds ∧ ∀ b ∈ ds, isB b := by
  rcases open_ints Tryd.underlying22 Tryd.underlying5 cell5b h with ⟨hcs, _⟩ | ⟨ad, l, c, zs, hcs, _, hl, hm, hz, _, hcell, hwz⟩
  · have : v = .slice none 0 0 := by simpa using hcs
    subst this
    exact ⟨none, 0, [], rfl, Nat.le_refl _, ⟨rfl, by simp, fun h => absurd h (by simp)⟩, by simp⟩
  · have hv : v = .slice (some ad) l c := by simpa using hcs
    subst hv
    have hz' : zs.length = c := by simpa using hz
    have htl : (zs.take l).length = l := by rw [List.length_take]; omega
    refine ⟨some ad, c, zs.take l, by rw [htl], by omega, ⟨rfl, by rw [htl]; have : c ≤ maxLen := hm; unfold maxLen at this; omega, fun _ => ⟨ad, rfl, fun j p hj => ⟨[.int .u8 p], rfl, ?_, fun i u hu => ?_⟩⟩⟩, fun b hb => ?_⟩
    · rfl
    · match i, hu with
      | 0, hu =>
        simp at hu
        subst hu
        rw [List.getElem?_take] at hj
        split at hj
        · rename_i hjl
          have h2 := hcell j (by omega)
          rw [List.getD_eq_getElem?_getD, hj] at h2
          have e : (Kd.int .u8).sz = 1 := rfl
          rw [e, Nat.mul_one]
          exact h2
        · cases hj
    · have := hwz b (List.mem_of_mem_take hb)
      have h3 : (Lit.int .u8 b).wf = true := this
      simp only [Lit.wf, Bool.and_eq_true, decide_eq_true_eq] at h3
      have e1 : IntKind.u8.min = 0 := rfl
      have e2 : IntKind.u8.max = 255 := rfl
      rw [e1, e2] at h3
      exact ⟨h3.1, by omega⟩
instance : Inhabited S25 := ⟨z25⟩
theorem open_rows {H : Type} {enc : TypeId × Value → H} {W : World} {a : Option Addr} {len cap : Nat} {d : DataW H} {p : List MemPlace} (h : DataW.Trod enc Tryd.prog W 0 (fun _ => true) true 23 (.slice a len cap) d p) :
    ∃ zs : List S25, zs.length = len ∧ Kd.C k25 W a zs.length zs ∧ zs.length ≤ cap ∧ zs.length < 9223372036854775808 ∧ ∀ x ∈ zs, ∀ b ∈ x.f1, isB b := by
  obtain ⟨fuel, hf⟩ := h
  rcases Deep.open_slice_pairs Tryd.underlying23 Tryd.underlying52 cell25 rfl rfl cell3 cell23 hf with ⟨hcs, _⟩ | ⟨ad, l, c, m, n, V0, V1, D0, D1, P0, P1, hcs, _, hl, hm, hmm, _, hat⟩
  · simp [Value.cells] at hcs
    obtain ⟨rfl, rfl, rfl⟩ := hcs
    exact ⟨[], rfl, ⟨rfl, by simp, fun h => absurd h (by simp)⟩, Nat.le_refl _, by simp, by simp⟩
  · simp [Value.cells] at hcs
    obtain ⟨rfl, rfl, rfl⟩ := hcs
    have hlm : len ≤ m := by rw [hmm]; split <;> omega
    have each : ∀ i, i < len → ∃ x : S25, ∃ A1 c1, W.cell? (ad.add (i * 2)) = some (.int .i64 x.f0) ∧ W.cell? (ad.add (i * 2 + 1)) = some (.slice A1 x.f1.length c1) ∧ x.f1.length ≤ c1 ∧ Kd.C (Kd.int .u8) W A1 x.f1.length x.f1 ∧ ∀ b ∈ x.f1, isB b := by
      intro i hi
      obtain ⟨h0, h1, h2, h3⟩ := hat i (by omega)
      obtain ⟨z, hz, _, _⟩ := DataW.trod_int Tryd.underlying3 h2
      obtain ⟨A1, c1, ds, hv, hl1, hC, hB⟩ := open_bytes h3
      have hz' : V0 i = .int .i64 z := by simpa using hz
      exact ⟨⟨z, ds⟩, A1, c1, by rw [h0, hz'], by rw [h1, hv], hl1, hC, hB⟩
    obtain ⟨f, hf2⟩ := Deep.choose_lt each
    have hsz : k25.sz = 2 := rfl
    have hcap : cap ≤ 9223372036854775807 := hm
    refine ⟨(List.range len).map f, by simp, ⟨rfl, by simp; omega, fun _ => ⟨ad, rfl, fun j q hj => ?_⟩⟩, by simpa using hl, ?_, ?_⟩
    · rw [List.getElem?_map] at hj
      obtain ⟨i, hi, rfl⟩ := Option.map_eq_some_iff.1 hj
      have hij : i = j ∧ j < len := by
        rcases Nat.lt_or_ge j len with h | h
        · rw [List.getElem?_range h] at hi
          injection hi with hi
          exact ⟨hi.symm, h⟩
        · rw [List.getElem?_eq_none (by simpa using h)] at hi; cases hi
      obtain ⟨rfl, hlt⟩ := hij
      obtain ⟨A1, c1, g0, g1, g2, g3, g4⟩ := hf2 i hlt
      refine ⟨[.int .i64 (f i).f0, .slice A1 (f i).f1.length c1], rfl, k25_mk W (f i) g2 g3, fun k u hu => ?_⟩
      rw [hsz]
      match k, hu with
      | 0, hu => simp at hu; subst hu; exact g0
      | 1, hu => simp at hu; subst hu; exact g1
    · simp only [List.length_map, List.length_range]; omega
    · intro x hx
      obtain ⟨i, hi, rfl⟩ := List.mem_map.1 hx
      obtain ⟨A1, c1, g0, g1, g2, g3, g4⟩ := hf2 i (List.mem_range.1 hi)
      exact g4
theorem open_num1 {k : IntKind} {t te : TypeId} (hu : Tryd.prog.underlying t = some (.slice te)) (hk : Tryd.prog.underlying te = some (.int k)) (hc1 : Tryd.prog.cellsOf te = 1) {H : Type} {enc : TypeId × Value → H} {W : World} {n : Nat} {v : Value} {x : DataW H × List MemPlace} (h : DataW.trod enc Tryd.prog W 0 (fun _ => true) true n t [v] = some x) :
    ∃ (A : Option Addr) (c : Nat) (ds : List Int), v = .slice A ds.length c ∧ ds.length ≤ c ∧ Kd.C (Kd.int k) W A ds.length ds := by
  rcases open_ints hu hk hc1 h with ⟨hcs, _⟩ | ⟨ad, l, c, zs, hcs, _, hl, hm, hz, _, hcell, hwz⟩
  · have : v = .slice none 0 0 := by simpa using hcs
    subst this
    exact ⟨none, 0, [], rfl, Nat.le_refl _, ⟨rfl, by simp, fun h => absurd h (by simp)⟩⟩
  · have hv : v = .slice (some ad) l c := by simpa using hcs
    subst hv
    have hz' : zs.length = c := by simpa using hz
    have htl : (zs.take l).length = l := by rw [List.length_take]; omega
    refine ⟨some ad, c, zs.take l, by rw [htl], by omega, ⟨rfl, by rw [htl]; have : c ≤ maxLen := hm; unfold maxLen at this; omega, fun _ => ⟨ad, rfl, fun j p hj => ⟨[.int k p], rfl, rfl, fun i u hu => ?_⟩⟩⟩⟩
    match i, hu with
    | 0, hu =>
      simp at hu
      subst hu
      rw [List.getElem?_take] at hj
      split at hj
      · rename_i hjl
        have h2 := hcell j (by omega)
        rw [List.getD_eq_getElem?_getD, hj] at h2
        have e : (Kd.int k).sz = 1 := rfl
        rw [e, Nat.mul_one]
        exact h2
      · cases hj
theorem cell26 : Tryd.prog.cellsOf 26 = 4 := by kernel_rfl
theorem cell24' : Tryd.prog.cellsOf 24 = 1 := by kernel_rfl
theorem open_block {H : Type} {enc : TypeId × Value → H} {W : World} {b0 : Nat} {v : Value} {d : DataW H} {p : List MemPlace} (hval : Value.okWide Tryd.prog W .any b0 26 v) (h : DataW.Trod enc Tryd.prog W 0 (fun _ => true) true 26 v d p) :
    ∃ (m s : Int) (A : Option Addr) (n cap : Nat) (zs : List Int) (A1 : Option Addr) (n1 cap1 : Nat) (qs : List Int), v = .agg #[.int .i64 m, .int .i64 s, .slice A n cap, .slice A1 n1 cap1] ∧ n = zs.length ∧ n ≤ cap ∧ Kd.C (Kd.int .u8) W A n zs ∧ (∀ b ∈ zs, isB b) ∧ n1 = qs.length ∧ n1 ≤ cap1 ∧ Kd.C (Kd.int .u64) W A1 n1 qs := by
  obtain ⟨cs, rfl, hsz⟩ := okWide_struct Tryd.underlying26 hval
  rw [cell26] at hsz
  obtain ⟨fuel, hf⟩ := h
  obtain ⟨xs, k, hk, hxy, _, hxl, hfs⟩ := DataW.trod_struct Tryd.underlying26 hf
  obtain ⟨l⟩ := cs
  match l, hsz, hf, hfs with
  | [v0, v1, v2, v3], _, hf, hfs =>
    match xs, hxl, hfs with
    | [y0, y1, y2, y3], _, hfs =>
      have g0 := hfs 0 _ rfl
      have g1 := hfs 1 _ rfl
      have g2 := hfs 2 _ rfl
      have g3 := hfs 3 _ rfl
      simp [Value.cells, cell3, cell23, cell24'] at g0 g1 g2 g3
      obtain ⟨z0, hz0, _, _⟩ := DataW.trod_int Tryd.underlying3 g0
      obtain ⟨z1, hz1, _, _⟩ := DataW.trod_int Tryd.underlying3 g1
      obtain ⟨A, c, ds, hv, hl, hC, hB⟩ := open_bytes g2
      obtain ⟨A1, c1, qs, hv1, hl1, hC1⟩ := open_num1 Tryd.underlying24 Tryd.underlying69 cell69 g3
      have hz0' : v0 = .int .i64 z0 := by simpa using hz0
      have hz1' : v1 = .int .i64 z1 := by simpa using hz1
      subst hz0' hz1' hv hv1
      exact ⟨z0, z1, A, ds.length, c, ds, A1, qs.length, c1, qs, rfl, rfl, hl, hC, hB, rfl, hl1, hC1⟩
end Go.Proofs.YtknlbeojdmeljaaDoor.R
namespace Go.Proofs.YtknlbeojdmeljaaDoor.H
open Go.RowKit Go.Proofs.YtknlbeojdmeljaaDoorW.PrintWords Go.Proofs.YtknlbeojdmeljaaDoorW.PrintLast Go.Proofs.YtknlbeojdmeljaaDoorW.PrintMore Go.Proofs.YtknlbeojdmeljaaDoor.P
set_option linter.unusedVariables false
set_option linter.unusedSimpArgs false
/-- What is held of rows and blocks, in one bundle. -/
def Hold (w0 w : World) (ls : List (Option Addr × Nat × List S25)) (bs : List (Option Addr × Nat × List Int)) : Prop :=
  Below w0.heap.size w0 w ∧ (∀ p ∈ ls, Kd.C k25 w p.1 p.2.1 p.2.2) ∧ (∀ p ∈ bs, Kd.C (Kd.int .u8) w p.1 p.2.1 p.2.2)
theorem Hold.below {w0 w u : World} {ls : List (Option Addr × Nat × List S25)} {bs : List (Option Addr × Nat × List Int)} (h : Hold w0 w ls bs) (hb : Below w.heap.size w u) : Hold w0 u ls bs :=
  ⟨h.1.trans (hb.mono h.1.size), fun p hp => Kd.C_below (h.2.1 p hp) hb, fun p hp => Kd.C_below (h.2.2 p hp) hb⟩
theorem Hold.addl {w0 w : World} {ls : List (Option Addr × Nat × List S25)} {bs : List (Option Addr × Nat × List Int)} (h : Hold w0 w ls bs) {A : Option Addr} {n : Nat} {xs : List S25} (hc : Kd.C k25 w A n xs) : Hold w0 w ((A, n, xs) :: ls) bs :=
  ⟨h.1, fun p hp => by rcases List.mem_cons.1 hp with rfl | hp; exact hc; exact h.2.1 p hp, h.2.2⟩
theorem Hold.addb {w0 w : World} {ls : List (Option Addr × Nat × List S25)} {bs : List (Option Addr × Nat × List Int)} (h : Hold w0 w ls bs) {A : Option Addr} {n : Nat} {xs : List Int} (hc : Kd.C (Kd.int .u8) w A n xs) : Hold w0 w ls ((A, n, xs) :: bs) :=
  ⟨h.1, h.2.1, fun p hp => by rcases List.mem_cons.1 hp with rfl | hp; exact hc; exact h.2.2 p hp⟩
theorem ex_h {w0 w : World} {ls : List (Option Addr × Nat × List S25)} {bs : List (Option Addr × Nat × List Int)} (h : Hold w0 w ls bs) :
    Calls Tryd.prog 27 #[] w fun e u => ∃ A c, e = .returned (.slice A 256 c) ∧ 256 ≤ c ∧ Hold w0 u ls ((A, 256, exB) :: bs) := by
  obtain ⟨E, hE⟩ : ∃ E, E = exB := ⟨_, rfl⟩
  have hcall := slotmeshlaw34_example.calls 300 E w (by rw [hE]; exact ex_is)
  rw [← hE]
  have hl256 : E.length = 256 := by rw [hE]; simp [exB]
  clear hE
  refine hcall.mono ?_
  rintro e u ⟨v, rfl, hR, hb⟩
  obtain ⟨A, c, rfl⟩ := Kd.R_slice hR
  obtain ⟨_, hl, hc⟩ := Kd.R_reads' hR
  rw [hl256] at hl hc ⊢
  exact ⟨A, c, rfl, hl, (h.below hb).addb hc⟩
theorem enc_h {w0 w : World} {ls : List (Option Addr × Nat × List S25)} {bs : List (Option Addr × Nat × List Int)} (h : Hold w0 w ls bs) (ht : Tabs w0) {A : Option Addr} {c : Nat} (B : List Int) (p s : Int) (hA : (A, 256, B) ∈ bs) (hc : 256 ≤ c) (hp : 0 ≤ p ∧ p < 16) (hs : 0 ≤ s ∧ s ≤ 1000000000) :
    Calls Tryd.prog 12 #[.slice A 256 c, .int .i64 p, .int .i64 s] w fun e u => ∃ A' c', e = .returned (.tuple #[.agg #[.int .i64 p, .int .i64 s, .slice A' 16 c', .slice none 0 0], .int .i64 0]) ∧ 16 ≤ c' ∧ Hold w0 u ls ((A', 16, sumE B s) :: bs) := by
  refine (encode_good A c B p s w hc (h.2.2 _ hA) (ht.keep h.1) hp hs).mono ?_
  rintro e u ⟨v, rfl, hR, hb⟩
  have hl16 : (sumE B s).length = 16 := sumE_len (h.2.2 _ hA).1 s hs
  obtain ⟨A', c', rfl⟩ := Kd.R_slice hR
  obtain ⟨_, hl, hcc⟩ := Kd.R_reads' hR
  rw [show (foldE B (setS s).toNat (fr 16)).1 = sumE B s from rfl, hl16] at hl hcc ⊢
  exact ⟨A', c', rfl, hl, (h.below hb).addb hcc⟩
theorem rcv_h {w0 w : World} {ls : List (Option Addr × Nat × List S25)} {bs : List (Option Addr × Nat × List Int)} (h : Hold w0 w ls bs) (ht : Tabs w0) {A : Option Addr} {c : Nat} (B : List Int) (A2 : Option Addr) (c2 n2 : Nat) (seeds : List Int) (hn : n2 = seeds.length) (hA : (A, 256, B) ∈ bs) (hc : 256 ≤ c)
    (hr2 : Kd.C (Kd.int .i64) w A2 seeds.length seeds) (hl : seeds.length ≤ 200) (hg : ∀ s ∈ seeds, 0 ≤ s ∧ s ≤ 1000000000) (zs : List S25) (m : Int) (b : Bool) (k : Nat) (hres : recL B seeds [] 0 = (zs, m, b)) (hk : zs.length = k) :
    Calls Tryd.prog 24 #[.slice A 256 c, .slice A2 n2 c2] w fun e u => ∃ A' c', e = .returned (.tuple #[.slice A' k c', .int .i64 m, .bool b]) ∧ k ≤ c' ∧ Hold w0 u ((A', k, zs) :: ls) bs := by
  subst hn hk
  have hcall := received_calls A c B A2 c2 seeds w hc (h.2.2 _ hA) hr2 hl hg (ht.keep h.1)
  rw [hres] at hcall
  refine hcall.mono ?_
  rintro e u ⟨v, rfl, hS, hb⟩
  obtain ⟨A', c', rfl⟩ := Kd.R_slice (Kd.S_R hS)
  obtain ⟨_, hl', hcc⟩ := Kd.R_reads' (Kd.S_R hS)
  exact ⟨A', c', rfl, hl', (h.below hb).addl hcc⟩
theorem page_h {w0 w : World} {ls : List (Option Addr × Nat × List S25)} {bs : List (Option Addr × Nat × List Int)} (h : Hold w0 w ls bs) {A : Option Addr} {cap n : Nat} (xs : List S25) (ys : List Int) (b : Bool) (k : Nat)
    (hA : (A, n, xs) ∈ ls) (hn : n = xs.length) (hr : pageS xs = (ys, b)) (hk : ys.length = k) :
    Calls Tryd.prog 16 #[.slice A n cap] w fun e u => ∃ A' c', e = .returned (.tuple #[.slice A' k c', .bool b]) ∧ k ≤ c' ∧ Hold w0 u ls ((A', k, ys) :: bs) := by
  subst hn hk
  have hc := page_calls A cap xs w (h.2.1 _ hA)
  rw [hr] at hc
  refine hc.mono ?_
  rintro e u ⟨v, rfl, hR, hb⟩
  obtain ⟨A', c', rfl⟩ := Kd.R_slice hR
  obtain ⟨_, hl', hcc⟩ := Kd.R_reads' hR
  exact ⟨A', c', rfl, hl', (h.below hb).addb hcc⟩
theorem bytes_h {w0 w : World} {ls : List (Option Addr × Nat × List S25)} {bs : List (Option Addr × Nat × List Int)} (h : Hold w0 w ls bs) {A A1 : Option Addr} {c c1 n n1 : Nat} (xs ys : List Int) (b : Bool) (k : Nat) (hA : (A, n, xs) ∈ bs) (hB : (A1, n1, ys) ∈ bs) (hn : n = xs.length) (hn1 : n1 = ys.length) (hc : n ≤ c) (hc1 : n1 ≤ c1) (hr : slotmeshref33_Bytes.f k xs ys = some b) :
    Calls Tryd.prog 22 #[.slice A n c, .slice A1 n1 c1] w fun e u => e = .returned (.bool b) ∧ Hold w0 u ls bs := by
  subst hn hn1
  refine (slotmeshref33_Bytes.calls k A c xs A1 c1 ys b w (h.2.2 _ hA) hc (h.2.2 _ hB) hc1 hr).mono ?_
  rintro e u ⟨rfl, hd⟩
  exact ⟨rfl, h.below hd.below⟩
end Go.Proofs.YtknlbeojdmeljaaDoor.H
namespace Go.Proofs.YtknlbeojdmeljaaDoor.H
open Go.RowKit Go.Proofs.YtknlbeojdmeljaaDoorW.PrintWords Go.Proofs.YtknlbeojdmeljaaDoorW.PrintLast Go.Proofs.YtknlbeojdmeljaaDoorW.PrintMore Go.Proofs.YtknlbeojdmeljaaDoor.P
set_option linter.unusedVariables false
set_option linter.unusedSimpArgs false
/-- a block's cells, told by their values -/
def Box (w : World) (b : Nat) (vs : List Value) : Prop := b < w.heap.size ∧ ∀ k v, vs[k]? = some v → w.cell? ⟨b, k, none⟩ = some v
theorem Box.below {w u : World} {b : Nat} {vs : List Value} (h : Box w b vs) (hb : Below w.heap.size w u) : Box u b vs :=
  ⟨Nat.lt_of_lt_of_le h.1 hb.size, fun k v hk => (hb.cell (p := ⟨b, k, none⟩) h.1).trans (h.2 k v hk)⟩
theorem Box.new (w : World) (vs : List Value) (t : TypeId) : Box (w.alloc (.cells vs.toArray t)) w.heap.size vs := by
  refine ⟨blk_lt (heap_alloc_new w _), fun k v hk => ?_⟩
  rw [blk_cell (heap_alloc_new w _) k]
  simpa using hk
theorem Hold.alloc {w0 w : World} {ls : List (Option Addr × Nat × List S25)} {bs : List (Option Addr × Nat × List Int)} (h : Hold w0 w ls bs) (o : Obj) : Hold w0 (w.alloc o) ls bs :=
  h.below ((Below.refl _ _).alloc (Nat.le_refl _) _)
theorem lit_C (k : IntKind) (w : World) (e : TypeId) (xs : List Int) (h : xs.length ≤ 9223372036854775807) : Kd.C (Kd.int k) (w.alloc (.cells (nums k xs).toArray e)) (some ⟨w.heap.size, 0, none⟩) xs.length xs := by
  refine ⟨rfl, h, fun _ => ⟨_, rfl, fun j p hj => ⟨[.int k p], rfl, rfl, fun i u hu => ?_⟩⟩⟩
  match i, hu with
  | 0, hu =>
    simp at hu
    subst hu
    have e1 : (Kd.int k).sz = 1 := rfl
    rw [e1, Nat.mul_one, Nat.add_zero, add_plain, blk_cell (heap_alloc_new w _) j]
    simp [nums, hj]
theorem Hold.rebase {w0 w : World} {ls : List (Option Addr × Nat × List S25)} {bs : List (Option Addr × Nat × List Int)} (h : Hold w0 w ls bs) : Hold w w ls bs := ⟨Below.refl _ _, h.2.1, h.2.2⟩
theorem Hold.onto {w0 w u : World} {ls ls' : List (Option Addr × Nat × List S25)} {bs bs' : List (Option Addr × Nat × List Int)} (h : Hold w0 w ls bs) (k : Hold w u ls' bs') : Hold w0 u ls' bs' := ⟨h.1.trans (k.1.mono h.1.size), k.2.1, k.2.2⟩
theorem set_h {w0 w : World} {ls : List (Option Addr × Nat × List S25)} {bs : List (Option Addr × Nat × List Int)} (h : Hold w0 w ls bs) (ht : Tabs w0) (n v : Int) (hv : setS n = v) :
    Calls Tryd.prog 18 #[.int .i64 n] w fun e u => e = .returned (.int .i64 v) ∧ Hold w0 u ls bs := by
  subst hv
  exact (set_calls n w (ht.keep h.1)).mono fun e u ⟨he, hb⟩ => ⟨he, h.below hb⟩
theorem bad_h {w0 w : World} {ls : List (Option Addr × Nat × List S25)} {bs : List (Option Addr × Nat × List Int)} (h : Hold w0 w ls bs) (A : Option Addr) (n c : Nat) (p s : Int) (hg : ¬ goodE n p s) :
    Calls Tryd.prog 12 #[.slice A n c, .int .i64 p, .int .i64 s] w fun e u => e = .returned (.tuple #[.agg #[.int .i64 0, .int .i64 0, .slice none 0 0, .slice none 0 0], .int .i64 1]) ∧ Hold w0 u ls bs :=
  (encode_bad A n c p s w hg).mono fun e u ⟨hb, he⟩ => ⟨he, h.below hb⟩
set_option maxRecDepth 100000 in
set_option maxHeartbeats 1000000 in
theorem head_calls (w : World) (ht : Tabs w) : Calls Tryd.prog 10 #[] w fun e w' => e = .returned (.bool true) ∧ Below w.heap.size w w' := by
  have HT := Lib.hid ht
  have H0 := Lib.hid (show Hold w w [] [] from ⟨Below.refl _ _, (fun _ h => by cases h), (fun _ h => by cases h)⟩)
  obtain ⟨E, hE⟩ : ∃ E, E = exB := ⟨_, rfl⟩
  have HE := Lib.hid hE
  obtain ⟨z1, hz1⟩ : ∃ z, z = (recL exB up15 [] 0).1 := ⟨_, rfl⟩
  obtain ⟨z2, hz2⟩ : ∃ z, z = (recL exB dn16 [] 0).1 := ⟨_, rfl⟩
  have R1 := Lib.hid (show recL E up15 [] 0 = (z1, 15, true) by rw [hE, hz1, ← ex_up])
  have R2 := Lib.hid (show recL E dn16 [] 0 = (z2, 16, true) by rw [hE, hz2, ← ex_dn])
  obtain ⟨⟨p1, b1⟩, hp1⟩ : ∃ p, p = pageS z1 := ⟨_, rfl⟩
  have hb1 : b1 = false := by have := ex_upP; rw [← hz1, ← hp1] at this; exact this
  subst hb1
  have P1 := Lib.hid hp1.symm
  have P2 := Lib.hid (show pageS z2 = (E, true) by rw [hE, hz2, ex_dnP])
  have S3 := Lib.hid (show sumE E 3 = List.replicate 16 3 by rw [hE]; exact ex_enc)
  have EX := Lib.hid (fun w0 w1 ls bs (h : Hold w0 w1 ls bs) => hE ▸ ex_h h)
  have LE := Lib.hid (show E.length = 256 by rw [hE]; simp [exB])
  clear ht hE hz1 hz2 hp1
  go_enter Tryd.func10, Tryd.ntmps10
  go_wp2_with fail
  refine (EX.out _ _ _ _ H0.out).mono ?_
  rintro e u1 ⟨A1, c1, rfl, hc1, h1⟩
  have H1 := Lib.hid h1
  clear h1
  go_wp2_with fail
  refine (enc_h H1.out HT.out E 2 3 (List.mem_cons_self) hc1 (by omega) (by omega)).mono ?_
  rintro e u2 ⟨A2, c2, rfl, hc2, h2⟩
  have H2 := Lib.hid h2
  clear h2
  go_wp2_with fail
  obtain ⟨u2b, hu2⟩ : ∃ u, u = u2.alloc (Obj.cells #[Value.int IntKind.i64 2, Value.int IntKind.i64 3, Value.slice A2 16 c2, Value.slice none 0 0] 26) := ⟨_, rfl⟩
  have X2 := Lib.hid (show Box u2b u2.heap.size [Value.int IntKind.i64 2, Value.int IntKind.i64 3, Value.slice A2 16 c2, Value.slice none 0 0] by rw [hu2]; exact Box.new _ _ _)
  have H2b := Lib.hid (show Hold w u2b _ _ by rw [hu2]; exact H2.out.alloc _)
  have K2 := Lib.hid H2b.out.rebase
  have TB := Lib.hid (HT.out.keep H2b.out.1)
  rw [← hu2]
  clear hu2
  refine (EX.out _ _ _ _ K2.out).mono ?_
  rintro e u3 ⟨A3, c3, rfl, hc3, h3⟩
  have H3 := Lib.hid h3
  clear h3
  go_wp2_with fail
  refine (rcv_h (H3.out.alloc _) TB.out E _ _ _ up15 rfl List.mem_cons_self hc3 (lit_C .i64 u3 3 up15 (by decide)) (by decide) (by decide) z1 15 true _ R1.out rfl).mono ?_
  rintro e u4 ⟨A4, c4, rfl, hc4, h4⟩
  have H4 := Lib.hid h4
  clear h4
  go_wp2_with fail
  refine (page_h H4.out z1 p1 false _ List.mem_cons_self rfl P1.out rfl).mono ?_
  rintro e u5 ⟨A5, c5, rfl, hc5, h5⟩
  have H5 := Lib.hid h5
  clear h5
  go_wp2_with fail
  refine (EX.out _ _ _ _ H5.out).mono ?_
  rintro e u6 ⟨A6, c6, rfl, hc6, h6⟩
  have H6 := Lib.hid h6
  clear h6
  go_wp2_with fail
  refine (rcv_h (H6.out.alloc _) TB.out E _ _ _ dn16 rfl List.mem_cons_self hc6 (lit_C .i64 u6 3 dn16 (by decide)) (by decide) (by decide) z2 16 true _ R2.out rfl).mono ?_
  rintro e u7 ⟨A7, c7, rfl, hc7, h7⟩
  have H7 := Lib.hid h7
  clear h7
  go_wp2_with fail
  refine (page_h H7.out z2 E true _ List.mem_cons_self rfl P2.out LE.out).mono ?_
  rintro e u8 ⟨A8, c8, rfl, hc8, h8⟩
  have H8 := Lib.hid h8
  clear h8
  go_wp2_with fail
  refine (bad_h H8.out _ _ _ _ _ (by unfold goodE; omega)).mono ?_
  rintro e u9 ⟨rfl, h9⟩
  have H9 := Lib.hid h9
  clear h9
  go_wp2_with fail
  refine (set_h (H9.out.alloc _) TB.out _ 1 (by decide)).mono ?_
  rintro e u10 ⟨rfl, h10⟩
  have H10 := Lib.hid h10
  clear h10
  go_wp2_with fail
  refine (set_h H10.out TB.out _ 8 (by decide)).mono ?_
  rintro e u11 ⟨rfl, h11⟩
  have H11 := Lib.hid h11
  clear h11
  go_wp2_with fail
  refine (set_h H11.out TB.out _ 32768 (by decide)).mono ?_
  rintro e u12 ⟨rfl, h12⟩
  have H12 := Lib.hid h12
  clear h12
  go_wp2_with fail
  refine (set_h H12.out TB.out _ 0 (by decide)).mono ?_
  rintro e u13 ⟨rfl, h13⟩
  have H13 := Lib.hid h13
  clear h13
  have X13 := Lib.hid (X2.out.below H13.out.1)
  have xc0 := X13.out.2 0 _ rfl
  have xc1 := X13.out.2 1 _ rfl
  have xc2 := X13.out.2 2 _ rfl
  go_wp2_with fail
  have hm2 : (A2, 16, List.replicate 16 3) ∈ [(A8, 256, E), (A6, 256, E), (A5, p1.length, p1), (A3, 256, E), (A2, 16, sumE E 3), (A1, 256, E)] := by rw [S3.out]; simp
  refine (bytes_h ((H13.out.alloc _).addb (lit_C .u8 u13 5 (List.replicate 16 3) (by decide))) (List.replicate 16 3) (List.replicate 16 3) true 300 (List.mem_cons_of_mem _ hm2) List.mem_cons_self rfl rfl hc2 (Nat.le_refl 16) ex_b3).mono ?_
  rintro e u14 ⟨rfl, h14⟩
  have H14 := Lib.hid h14
  clear h14 hm2
  go_wp2_with fail
  refine (EX.out _ _ _ _ H14.out).mono ?_
  rintro e u15 ⟨A15, c15, rfl, hc15, h15⟩
  have H15 := Lib.hid h15
  clear h15
  go_wp2_with fail
  refine (bytes_h H15.out E E true 300 (List.mem_cons_of_mem _ (List.mem_cons_of_mem _ List.mem_cons_self)) List.mem_cons_self LE.out.symm LE.out.symm hc8 hc15 (by rw [HE.out]; exact ex_bb)).mono ?_
  rintro e u16 ⟨rfl, h16⟩
  have H16 := Lib.hid h16
  clear h16
  go_wp2_with fail
  go_ret
  exact ⟨rfl, (H2b.out.onto H16.out).1⟩
end Go.Proofs.YtknlbeojdmeljaaDoor.H
namespace Go.Proofs.YtknlbeojdmeljaaDoor.L
open Go.RowKit Go.Proofs.YtknlbeojdmeljaaDoorW.PrintWords Go.Proofs.YtknlbeojdmeljaaDoorW.PrintLast Go.Proofs.YtknlbeojdmeljaaDoorW.PrintMore Go.Proofs.YtknlbeojdmeljaaDoor.P Go.Proofs.YtknlbeojdmeljaaDoor.H
set_option linter.unusedVariables false
set_option linter.unusedSimpArgs false
def seedB (s : Int) : Bool := decide (0 ≤ s ∧ s ≤ 1000000000)
theorem seed_f (n : Int) : slotmeshref34_Seed.f n = some (seedB n) := by
  unfold slotmeshref34_Seed.f seedB
  by_cases h : 0 ≤ n
  · rw [if_pos h]; simp [h]
  · rw [if_neg h]; simp [h]
end Go.Proofs.YtknlbeojdmeljaaDoor.L
namespace Go.Proofs.YtknlbeojdmeljaaDoor.H
open Go.RowKit Go.Proofs.YtknlbeojdmeljaaDoorW.PrintWords Go.Proofs.YtknlbeojdmeljaaDoorW.PrintLast Go.Proofs.YtknlbeojdmeljaaDoorW.PrintMore Go.Proofs.YtknlbeojdmeljaaDoor.P
set_option linter.unusedVariables false
set_option linter.unusedSimpArgs false
variable {w0 w : World} {ls : List (Option Addr × Nat × List S25)} {bs : List (Option Addr × Nat × List Int)}
theorem head_h (h : Hold w0 w ls bs) (ht : Tabs w0) : Calls Tryd.prog 10 #[] w fun e u => e = .returned (.bool true) ∧ Hold w0 u ls bs :=
  (head_calls w (ht.keep h.1)).mono fun e u ⟨he, hb⟩ => ⟨he, h.below hb⟩
theorem bytesE_h (h : Hold w0 w ls bs) {A A1 : Option Addr} {c c1 n n1 : Nat} (xs ys : List Int) (b : Bool) (hA : (A, n, xs) ∈ bs) (hB : (A1, n1, ys) ∈ bs) (hn : n = xs.length) (hn1 : n1 = ys.length) (hc : n ≤ c) (hc1 : n1 ≤ c1) (hb : (xs == ys) = b) :
    Calls Tryd.prog 22 #[.slice A n c, .slice A1 n1 c1] w fun e u => e = .returned (.bool b) ∧ Hold w0 u ls bs := by
  have hl := (h.2.2 _ hA).2.1
  obtain ⟨K, hK⟩ := L.refBytes xs ys (by simp only at hl; omega)
  exact bytes_h h xs ys b K hA hB hn hn1 hc hc1 (by rw [← hb]; exact hK K (Nat.le_refl K))
theorem sameE_h (h : Hold w0 w ls bs) {A A1 : Option Addr} {c c1 n n1 : Nat} (xs ys : List S25) (hx : ∀ x ∈ xs, x.f1.length < 9223372036854775808) (b : Bool) (hA : (A, n, xs) ∈ ls) (hB : (A1, n1, ys) ∈ ls) (hn : n = xs.length) (hn1 : n1 = ys.length) (hc : n ≤ c) (hc1 : n1 ≤ c1) (hb : L.sameB xs ys = b) :
    Calls Tryd.prog 21 #[.slice A n c, .slice A1 n1 c1] w fun e u => e = .returned (.bool b) ∧ Hold w0 u ls bs := by
  subst hn hn1 hb
  have hl := (h.2.1 _ hA).2.1
  obtain ⟨K, hK⟩ := L.refSame xs ys (by simp only at hl; omega) hx
  exact (slotmeshref33_Same.calls K A c xs A1 c1 ys _ w (h.2.1 _ hA) hc (h.2.1 _ hB) hc1 (hK K (Nat.le_refl K))).mono fun e u ⟨he, hd⟩ => ⟨he, h.below hd.below⟩
theorem rcv1_h (h : Hold w0 w ls bs) (ht : Tabs w0) {A : Option Addr} {cap n : Nat} (zs : List S25) (p s : Int) {A1 : Option Addr} {c1 n1 : Nat} (ds : List Int) (pr : Value) (hA : (A, n, zs) ∈ ls) (hB : (A1, n1, ds) ∈ bs) (hn : n = zs.length) (hn1 : n1 = ds.length) (hlen : zs.length ≤ 1000000) (hg : goodR p s ds.length)
    (xs : List S25) (f : Bool) (e : Int) (k : Nat) (hr : addS zs (setS s) ds = (xs, f, e)) (hk : xs.length = k) :
    Calls Tryd.prog 14 #[.slice A n cap, .agg #[.int .i64 p, .int .i64 s, .slice A1 n1 c1, pr]] w fun e2 u => ∃ A' c', e2 = .returned (.tuple #[.slice A' k c', .bool f, .int .i64 e]) ∧ k ≤ c' ∧ Hold w0 u ((A', k, xs) :: ls) bs := by
  subst hn hn1 hk
  have hc := receive_good A cap zs p s A1 c1 ds pr w (h.2.1 _ hA) (h.2.2 _ hB) hlen (ht.keep h.1) hg
  rw [hr] at hc
  refine hc.mono ?_
  rintro e2 u ⟨v, rfl, hS, hb⟩
  obtain ⟨A', c', rfl⟩ := Kd.R_slice (Kd.S_R hS)
  obtain ⟨_, hl', hcc⟩ := Kd.R_reads' (Kd.S_R hS)
  exact ⟨A', c', rfl, hl', (h.below hb).addl hcc⟩
end Go.Proofs.YtknlbeojdmeljaaDoor.H
namespace Go.Proofs.YtknlbeojdmeljaaDoor.H
open Go.RowKit Go.Proofs.YtknlbeojdmeljaaDoorW.PrintWords Go.Proofs.YtknlbeojdmeljaaDoorW.PrintLast Go.Proofs.YtknlbeojdmeljaaDoorW.PrintMore Go.Proofs.YtknlbeojdmeljaaDoor.P
set_option linter.unusedVariables false
set_option linter.unusedSimpArgs false
theorem same_self (l : List S25) : L.sameB l l = true := by unfold L.sameB; exact beq_self_eq_true _
end Go.Proofs.YtknlbeojdmeljaaDoor.H
namespace Go.Proofs.YtknlbeojdmeljaaDoor.L
open Go.RowKit Go.Proofs.YtknlbeojdmeljaaDoorW.PrintWords Go.Proofs.YtknlbeojdmeljaaDoorW.PrintLast Go.Proofs.YtknlbeojdmeljaaDoorW.PrintMore Go.Proofs.YtknlbeojdmeljaaDoor.P Go.Proofs.YtknlbeojdmeljaaDoor.H
set_option linter.unusedVariables false
set_option linter.unusedSimpArgs false
def finS (e : Nat × List Int) (s : List S25 × Bool) : List S25 := if s.2 = true then s.1 else s.1 ++ [rowE e]
theorem at_set_ne (l : List S25) {i j : Nat} (h : i ≠ j) (x : S25) : at_ (l.set i x) j = at_ l j := by
  unfold at_
  rw [List.getD_eq_getElem?_getD, List.getD_eq_getElem?_getD, List.getElem?_set_ne h]
theorem at_set_eq (l : List S25) {i : Nat} (h : i < l.length) (x : S25) : at_ (l.set i x) i = x := by
  unfold at_
  rw [List.getD_eq_getElem?_getD, List.getElem?_set_self h]
  rfl
theorem add_j3 {l : List S25} (hl : l.length ≤ 1000000) (hv : ∀ x ∈ l, fineB x.f0 x.f1 = true) {e : Nat × List Int} (he : e.1 < 65536) (hd : e.2.length = 16) {i : Nat} (hi : i < l.length) {rows : List S25} (hrl : rows.length = l.length) (hra : ∀ j, i ≤ j → j < l.length → at_ rows j = at_ l j) {out : List S25} (ho : out.length ≤ 2 * i + 1) (dn : Bool) {R : List S25 × Bool × Int}
    (hn : ∀ rows' : List S25, rows'.length = l.length → (∀ j, i + 1 ≤ j → j < l.length → at_ rows' j = at_ l j) → Ev (fun k => slotmeshref33_Add.l0 k (H.lead e.1 : Int) (out ++ [mixE e (at_ l i)]) dn rows' ((i + 1 : Nat) : Int) (e.1 : Int) e.2) R) :
    Ev (fun k => slotmeshref33_Add.j3 k (H.lead e.1 : Int) out dn rows (i : Int) (e.1 : Int) e.2) R := by
  have hf := fine_spec (hv _ (mem_at hi))
  have hre : rd_T25 rows (i : Int) = at_ l i := by rw [rd_at, hra i (Nat.le_refl _) hi]
  have hlt := lead_lt e.1 he
  have hand := i64_and_int (at_ l i).f0 ⟨hf.1, hf.2.1⟩ (H.lead e.1) hlt
  have hxor := i64_xor_int (at_ l i).f0 (e.1 : Int) ⟨by omega, hf.2.1⟩ ⟨by omega, by omega⟩
  rw [Int.toNat_natCast] at hxor
  have hw := wrap_succ i (by omega)
  have HW := Lib.hid hw
  have HAND := Lib.hid hand
  have HXOR := Lib.hid hxor
  clear hw hand hxor
  by_cases hz : (at_ l i).f0.toNat &&& H.lead e.1 = 0
  · have hm : mixE e (at_ l i) = at_ l i := by unfold mixE; rw [if_neg (fun h => h hz)]
    have h1 := hn rows hrl (fun j h1 h2 => hra j (Nat.le_of_succ_le h1) h2)
    rw [hm] at h1
    refine h1.succ (fun k hk => ?_)
    rw [slotmeshref33_Add.j3, if_pos (by omega), if_pos (by omega), hre, HAND.out, if_pos (by omega), if_pos (by omega), HW.out]
    exact hk
  · have hm : mixE e (at_ l i) = ⟨(((at_ l i).f0.toNat ^^^ e.1 : Nat) : Int), xorD (at_ l i).f1 e.2⟩ := by unfold mixE; rw [if_pos hz]
    have hx := refXor (at_ l i).f1 e.2 hf.2.2 hd
    have h1 := hn (rows.set i (mixE e (at_ l i))) (by simp [hrl]) (fun j h1 h2 => by rw [at_set_ne _ (Nat.ne_of_lt h1)]; exact hra j (Nat.le_of_succ_le h1) h2)
    have hset : rd_T25 (rows.set i (mixE e (at_ l i))) (i : Int) = mixE e (at_ l i) := by rw [rd_at, at_set_eq _ (by omega)]
    refine hx.succ2 h1 (fun k hk1 hk => ?_)
    rw [slotmeshref33_Add.j3, if_pos (by omega), if_pos (by omega), hre, HAND.out, if_neg (by omega), hk1]
    simp only [Option.bind_some]
    rw [HXOR.out, Int.toNat_natCast, ← hm, hset, if_pos (by omega), HW.out]
    exact hk
theorem add_j2 {l : List S25} (hl : l.length ≤ 1000000) (hv : ∀ x ∈ l, fineB x.f0 x.f1 = true) {e : Nat × List Int} (he : e.1 < 65536) (hd : e.2.length = 16) {i : Nat} (hi : i < l.length) {rows : List S25} (hrl : rows.length = l.length) (hra : ∀ j, i ≤ j → j < l.length → at_ rows j = at_ l j) {out : List S25} (ho : out.length ≤ 2 * i) (dn x55 : Bool) {R : List S25 × Bool × Int}
    (hn : ∀ rows' : List S25, rows'.length = l.length → (∀ j, i + 1 ≤ j → j < l.length → at_ rows' j = at_ l j) → Ev (fun k => slotmeshref33_Add.l0 k (H.lead e.1 : Int) ((if x55 = true then out ++ [rowE e] else out) ++ [mixE e (at_ l i)]) (if x55 = true then true else dn) rows' ((i + 1 : Nat) : Int) (e.1 : Int) e.2) R) :
    Ev (fun k => slotmeshref33_Add.j2 k (H.lead e.1 : Int) out dn rows (i : Int) x55 (e.1 : Int) e.2) R := by
  cases x55
  · have h := add_j3 hl hv he hd hi hrl hra (out := out) (by omega) dn (R := R) hn
    refine h.succ (fun k hk => ?_)
    rw [slotmeshref33_Add.j2, if_neg (by simp)]
    exact hk
  · have h := add_j3 hl hv he hd hi hrl hra (out := out ++ [rowE e]) (by simp; omega) true (R := R) hn
    refine h.succ (fun k hk => ?_)
    rw [slotmeshref33_Add.j2, if_pos rfl, if_pos (by omega)]
    exact hk
theorem add_l0 {l : List S25} (hl : l.length ≤ 1000000) (hv : ∀ x ∈ l, fineB x.f0 x.f1 = true) {e : Nat × List Int} (he : e.1 < 65536) (hd : e.2.length = 16) : ∀ n i, i + n = l.length → ∀ (rows : List S25), rows.length = l.length → (∀ j, i ≤ j → j < l.length → at_ rows j = at_ l j) → ∀ (out : List S25) (dn : Bool), out.length ≤ 2 * i →
    Ev (fun k => slotmeshref33_Add.l0 k (H.lead e.1 : Int) out dn rows (i : Int) (e.1 : Int) e.2) (finS e ((l.drop i).foldl (insStep e) (out, dn)), true, 0) := by
  intro n
  induction n with
  | zero =>
    intro i hi rows hrl hra out dn ho
    refine Ev.one (fun k => ?_)
    rw [slotmeshref33_Add.l0, if_neg (by omega), List.drop_of_length_le (by omega)]
    cases dn
    · rw [if_neg (by simp), if_pos (by omega)]
      rfl
    · rw [if_pos rfl]
      rfl
  | succ n ih =>
    intro i hi rows hrl hra out dn ho
    have hlt : i < l.length := by omega
    have hf := fine_spec (hv _ (mem_at hlt))
    have hre : rd_T25 rows (i : Int) = at_ l i := by rw [rd_at, hra i (Nat.le_refl _) hlt]
    rw [drop_at l i hlt, List.foldl_cons]
    cases dn
    · have hle := leading_ev' (at_ l i).f0 (by omega) hf.2.1
      have hj := add_j2 hl hv he hd hlt hrl hra ho false (decide ((H.lead (at_ l i).f0.toNat : Int) < (H.lead e.1 : Int))) (R := (finS e ((l.drop (i + 1)).foldl (insStep e) (insStep e (out, false) (at_ l i))), true, 0)) (fun rows' h1 h2 => by
        have h3 : insStep e (out, false) (at_ l i) = ((if decide ((H.lead (at_ l i).f0.toNat : Int) < (H.lead e.1 : Int)) = true then out ++ [rowE e] else out) ++ [mixE e (at_ l i)], if decide ((H.lead (at_ l i).f0.toNat : Int) < (H.lead e.1 : Int)) = true then true else false) := by
          unfold insStep
          by_cases hc : H.lead (at_ l i).f0.toNat < H.lead e.1
          · rw [if_pos ⟨rfl, hc⟩, if_pos (by simp; omega), if_pos (by simp; omega)]
            simp
          · rw [if_neg (fun h => hc h.2), if_neg (by simp; omega), if_neg (by simp; omega)]
        rw [h3]
        refine ih (i + 1) (by omega) rows' h1 h2 _ _ ?_
        split <;> simp <;> omega)
      refine hle.succ2 hj (fun k hk1 hk2 => ?_)
      rw [slotmeshref33_Add.l0, if_pos (by omega), if_neg (by simp), if_pos (by omega), hre, hk1]
      exact hk2
    · have hj := add_j2 hl hv he hd hlt hrl hra ho true false (R := (finS e ((l.drop (i + 1)).foldl (insStep e) (insStep e (out, true) (at_ l i))), true, 0)) (fun rows' h1 h2 => by
        have h3 : insStep e (out, true) (at_ l i) = ((if false = true then out ++ [rowE e] else out) ++ [mixE e (at_ l i)], if false = true then true else true) := by
          unfold insStep
          rw [if_neg (fun h => by cases h.1)]
          simp
        rw [h3]
        refine ih (i + 1) (by omega) rows' h1 h2 _ _ ?_
        simp
        omega)
      refine hj.succ (fun k hk2 => ?_)
      rw [slotmeshref33_Add.l0, if_pos (by omega), if_pos rfl]
      exact hk2
theorem zeros_iff {d : List Int} (h : d.length = 16) : d.all (· == 0) = (d == z16) := by
  rw [Bool.eq_iff_iff, List.all_eq_true, beq_iff_eq]
  constructor
  · intro h2
    refine List.ext_getElem (by rw [h]; rfl) (fun i hi hj => ?_)
    have := h2 _ (List.getElem_mem hi)
    simp only [z16, List.getElem_replicate]
    exact beq_iff_eq.1 this
  · rintro rfl x hx
    have : x = 0 := List.eq_of_mem_replicate hx
    simp [this]
theorem refAdd (l : List S25) (hl : l.length ≤ 1000000) (m : Int) (d : List Int) : Ev (fun k => slotmeshref33_Add.f k l m d) (addS l m d) := by
  have hno : (validS l = false ∨ fineB m d = false) → Ev (fun k => slotmeshref33_Add.j0 k l true m d) (addS l m d) := fun h => by
    have : addS l m d = ([], false, 1) := if_pos h
    rw [this]
    exact Ev.one (fun k => by rw [slotmeshref33_Add.j0, if_pos rfl])
  refine Ev.bind (g := fun k t205 => (if t205 = true then ((slotmeshref33_Formed.f m d).bind fun t206 => (slotmeshref33_Add.j0 k l (!t206) m d)) else (slotmeshref33_Add.j0 k l true m d))) (refValid' l (by omega)) ?_
  cases hv : validS l
  · exact hno (.inl hv)
  show Ev (fun k => (slotmeshref33_Formed.f m d).bind fun t206 => (slotmeshref33_Add.j0 k l (!t206) m d)) (addS l m d)
  rw [formed_eq]
  show Ev (fun k => slotmeshref33_Add.j0 k l (!(fineB m d)) m d) (addS l m d)
  cases hf : fineB m d
  · exact hno (.inr hf)
  have hsp := fine_spec hf
  obtain ⟨m, rfl⟩ := Int.eq_ofNat_of_zero_le (show 0 ≤ m by omega)
  have hm : m < 65536 := by omega
  have hvp := (validS_iff l).1 hv
  have hs : addS l (m : Int) d = if redS l (m, d) = (0, z16) then (l, false, 0) else if (redS l (m, d)).1 = 0 then ([], false, 12) else (insS (redS l (m, d)) l, true, 0) := by
    unfold addS; rw [if_neg (by rw [hv, hf]; simp)]; rfl
  have hred := refReduce l (by omega) hv m d hm hsp.2.2
  have hok : (redS l (m, d)).1 < 65536 ∧ (redS l (m, d)).2.length = 16 := by
    have key : ∀ (q : List S25), (∀ x ∈ q, fineB x.f0 x.f1 = true) → ∀ x : Nat × List Int, (x.1 < 65536 ∧ x.2.length = 16) → (redS q x).1 < 65536 ∧ (redS q x).2.length = 16 := by
      intro q
      induction q with
      | nil => intro _ x h; exact h
      | cons r q ih => intro hq x h; exact ih (fun y hy => hq y (List.mem_cons_of_mem _ hy)) _ (stepS_ok x r (hq r List.mem_cons_self) h)
    exact key l hvp.fine (m, d) ⟨hm, hsp.2.2⟩
  rw [hs]
  generalize redS l (m, d) = e at hred hok hs
  have hcopy := refCopy l (by omega) (fun x hx => by have := fine_spec (hvp.fine x hx); omega)
  by_cases h1 : e.1 = 0
  · have hz := refZero e.2 (by omega)
    rw [zeros_iff hok.2] at hz
    by_cases h2 : e.2 = z16
    · rw [if_pos (Prod.ext h1 h2)]
      rw [h2, beq_self_eq_true] at hz
      obtain ⟨K1, b1⟩ := hred
      obtain ⟨K2, b2⟩ := hz
      obtain ⟨K3, b3⟩ := hcopy
      refine ⟨K1 + K2 + K3 + 1, fun k hk => ?_⟩
      obtain ⟨k, rfl⟩ : ∃ q, k = q + 1 := ⟨k - 1, by omega⟩
      have c1 : slotmeshref33_reduce.f k l (m : Int) d = _ := b1 k (by omega)
      have c2 : slotmeshref33_Zero.f k z16 = _ := b2 k (by omega)
      have c3 : slotmeshref33_Copy.f k l = _ := b3 k (by omega)
      show slotmeshref33_Add.j0 (k + 1) l (!true) (m : Int) d = _
      rw [slotmeshref33_Add.j0, if_neg (by simp), c1]
      simp only [Option.bind_some]
      rw [if_pos (by omega), h2, c2]
      simp only [Option.bind_some, if_true]
      rw [c3]
      rfl
    · rw [if_neg (fun h => h2 (congrArg Prod.snd h)), if_pos h1]
      rw [beq_eq_false_iff_ne.2 h2] at hz
      refine hred.succ2 hz (fun k a1 a2 => ?_)
      show slotmeshref33_Add.j0 (k + 1) l (!true) (m : Int) d = _
      rw [slotmeshref33_Add.j0, if_neg (by simp), a1]
      simp only [Option.bind_some]
      rw [if_pos (by omega), a2]
      rfl
  · rw [if_neg (fun h => h1 (congrArg Prod.fst h)), if_neg h1]
    have hle := leading_ev e.1 (by omega) hok.1
    have hloop := add_l0 hl hvp.fine hok.1 hok.2 l.length 0 (by omega) l rfl (fun _ _ _ => rfl) [] false (by simp)
    obtain ⟨K1, b1⟩ := hred
    obtain ⟨K2, b2⟩ := hle
    obtain ⟨K3, b3⟩ := hcopy
    obtain ⟨K4, b4⟩ := hloop
    refine ⟨K1 + K2 + K3 + K4 + 1, fun k hk => ?_⟩
    obtain ⟨k, rfl⟩ : ∃ q, k = q + 1 := ⟨k - 1, by omega⟩
    have c1 : slotmeshref33_reduce.f k l (m : Int) d = _ := b1 k (by omega)
    have c2 : slotmeshref33_Leading.f k (e.1 : Int) = _ := b2 k (by omega)
    have c3 : slotmeshref33_Copy.f k l = _ := b3 k (by omega)
    have c4 : slotmeshref33_Add.l0 k (H.lead e.1 : Int) [] false l ((0 : Nat) : Int) (e.1 : Int) e.2 = _ := b4 k (by omega)
    show slotmeshref33_Add.j0 (k + 1) l (!true) (m : Int) d = _
    rw [slotmeshref33_Add.j0, if_neg (by simp), c1]
    simp only [Option.bind_some]
    rw [if_neg (by omega), c2]
    simp only [Option.bind_some]
    rw [c3]
    exact c4
end Go.Proofs.YtknlbeojdmeljaaDoor.L
namespace Go.Proofs.YtknlbeojdmeljaaDoor.L
open Go.RowKit Go.Proofs.YtknlbeojdmeljaaDoorW.PrintWords Go.Proofs.YtknlbeojdmeljaaDoorW.PrintLast Go.Proofs.YtknlbeojdmeljaaDoorW.PrintMore Go.Proofs.YtknlbeojdmeljaaDoor.P Go.Proofs.YtknlbeojdmeljaaDoor.H
set_option linter.unusedVariables false
set_option linter.unusedSimpArgs false
theorem shl16 : ∀ k : Nat, k < 16 → shl .i64 1 (IntKind.u64.wrap (k : Int)) = ((2 ^ k : Nat) : Int) ∧ 0 ≤ IntKind.u64.wrap (k : Int) := by decide
theorem wrap_idem (x : Int) : IntKind.u64.wrap (IntKind.u64.wrap x) = IntKind.u64.wrap x := by
  show (x % 18446744073709551616) % 18446744073709551616 = x % 18446744073709551616
  omega
theorem bits_wrap (op : BinOp) (a b : Int) : IntKind.u64.wrap (Go.bits op .u64 a b) = Go.bits op .u64 a b := by
  unfold Go.bits
  split <;> exact wrap_idem _
theorem next_f (s : Int) : slotmeshref06_Next.f s = some (nextS s) := by
  unfold slotmeshref06_Next.f
  congr 1
  have e0 : nextTo s 0 = IntKind.u64.wrap (s + 11400714819323198485) := rfl
  have e1 : nextTo s 1 = IntKind.u64.wrap (Go.bits .xor .u64 (nextTo s 0) (nextTo s 0 / 1073741824) * 13787848793156543929) := rfl
  have e2 : nextTo s 2 = IntKind.u64.wrap (Go.bits .xor .u64 (nextTo s 1) (nextTo s 1 / 134217728) * 10723151780598845931) := rfl
  have e3 : nextTo s 3 = IntKind.u64.wrap (Go.bits .xor .u64 (nextTo s 2) (nextTo s 2 / 2147483648) * 1) := rfl
  rw [← e0, ← e1, ← e2]
  show _ = nextTo s 3
  rw [e3, Int.mul_one, bits_wrap]
theorem mask_f (k : Nat) (s : Int) : slotmeshref06_Mask.f (k + 1) s 16 = some (maskS s) := by
  unfold slotmeshref06_Mask.f
  rw [if_neg (by omega), show decide ((16 : Int) > 16) = false by decide]
  simp only [slotmeshref06_Mask.j0]
  rw [if_neg (by simp), next_f]
  simp only [Option.bind_some, slotmeshref06_Half.f]
  have h1 : (0 : Int) ≤ IntKind.u64.wrap 16 := by decide
  have h2 : wrap64 (shl .i64 1 (IntKind.u64.wrap 16) - 1) = 65535 := by kernel_rfl
  rw [if_pos h1, h2, if_neg (by omega)]
  have hr := firstS_range s
  have hf : firstS s = nextS s / 4294967296 := rfl
  rw [← hf]
  have h3 : wrap64 (firstS s) = firstS s := by unfold wrap64; omega
  rw [h3, Int.tmod_eq_emod_of_nonneg hr.1]
  congr 1
  unfold maskS
  have := Int.emod_nonneg (firstS s) (show (65535 : Int) ≠ 0 by omega)
  have := Int.emod_lt_of_pos (firstS s) (show (0 : Int) < 65535 by omega)
  unfold wrap64
  omega
theorem set_ev (s : Int) : Ev (fun k => slotmeshref34_Set.f k s) (setS s) := by
  refine ⟨1, fun k hk => ?_⟩
  obtain ⟨k, rfl⟩ : ∃ m, k = m + 1 := ⟨k - 1, by omega⟩
  show slotmeshref34_Set.f (k + 1) s = _
  unfold slotmeshref34_Set.f
  rw [seed_f]
  simp only [Option.bind_some]
  unfold seedB
  by_cases h : 0 ≤ s ∧ s ≤ 1000000000
  · have hS : setS s = if s < 16 then ((2 ^ s.toNat : Nat) : Int) else maskS s := by unfold setS; rw [if_neg (by omega)]
    rw [if_pos (by simpa using h), hS]
    by_cases h16 : s < 16
    · rw [if_pos h16, if_pos h16]
      obtain ⟨n, rfl⟩ := Int.eq_ofNat_of_zero_le h.1
      obtain ⟨a, b⟩ := shl16 n (by omega)
      rw [if_pos b, a, Int.toNat_natCast]
    · rw [if_neg h16, if_neg h16]
      have hw : IntKind.u64.wrap s = s := by show s % 18446744073709551616 = s; omega
      rw [hw, mask_f]
      rfl
  · rw [if_neg (by simpa using h)]
    unfold setS
    rw [if_pos (by omega)]
def encS (P : List Int) (p s : Int) : Int × Int × List Int × List Int × Int := if goodE P.length p s then (p, s, sumE P s, [], 0) else (0, 0, [], [], 1)
theorem cut_blk (P : List Int) (i : Nat) : (P.take (16 * i + 16)).drop (16 * i) = blk P i := by
  unfold blk
  rw [List.drop_take]
  congr 1
  omega
theorem tdiv2 (q : Nat) (h : q < 65536) : wrap64 (Int.tdiv (q : Int) 2) = ((q / 2 : Nat) : Int) := by
  rw [Int.tdiv_eq_ediv_of_nonneg (by omega)]
  unfold wrap64
  omega
theorem tmod2 (q : Nat) : Int.tmod (q : Int) 2 = ((q % 2 : Nat) : Int) := by
  rw [Int.tmod_eq_emod_of_nonneg (by omega)]
  omega
theorem encode_l0 {P : List Int} (hP : P.length = 256) (p s : Int) (m : Nat) (hm : m < 65536) : ∀ n i : Nat, i + n = 16 →
    Ev (fun k => slotmeshref34_Encode.l0 k P p s (sumTo P m i) ((m / 2 ^ i : Nat) : Int) (i : Int)) (p, s, sumTo P m 16, [], 0)
  | 0, i, hi => by
    refine ⟨1, fun k hk => ?_⟩
    obtain ⟨k, rfl⟩ : ∃ m, k = m + 1 := ⟨k - 1, by omega⟩
    obtain rfl : i = 16 := by omega
    simp only [slotmeshref34_Encode.l0]
    rw [if_neg (by omega)]
  | n + 1, i, hi => by
    obtain ⟨K, hK⟩ := encode_l0 hP p s m hm n (i + 1) (by omega)
    have hdiv : m / 2 ^ i / 2 = m / 2 ^ (i + 1) := by rw [Nat.pow_succ, Nat.div_div_eq_div_mul]
    have hlt : m / 2 ^ i < 65536 := Nat.lt_of_le_of_lt (Nat.div_le_self _ _) hm
    have h2 : wrap64 (Int.tdiv ((m / 2 ^ i : Nat) : Int) 2) = ((m / 2 ^ (i + 1) : Nat) : Int) := by rw [tdiv2 _ hlt, hdiv]
    have h3 : wrap64 ((i : Int) + 1) = ((i + 1 : Nat) : Int) := by unfold wrap64; omega
    have htm : Int.tmod ((m / 2 ^ i : Nat) : Int) 2 = ((m / 2 ^ i % 2 : Nat) : Int) := tmod2 _
    have hbit : m.testBit i = true ↔ m / 2 ^ i % 2 = 1 := by rw [Nat.testBit_eq_decide_div_mod_eq]; simp
    by_cases hb : m.testBit i = true
    · have hx := refXor (sumTo P m i) (blk P i) (sumTo_len hP m i (by omega)) (blk_len hP (by omega))
      obtain ⟨K2, hK2⟩ := hx
      refine ⟨K + K2 + 1, fun k hk => ?_⟩
      obtain ⟨k, rfl⟩ : ∃ m, k = m + 1 := ⟨k - 1, by omega⟩
      have w1 : wrap64 (16 * (i : Int)) = ((16 * i : Nat) : Int) := by unfold wrap64; omega
      have w2 : wrap64 (((16 * i : Nat) : Int) + 16) = ((16 * i + 16 : Nat) : Int) := by unfold wrap64; omega
      simp only [slotmeshref34_Encode.l0]
      rw [if_pos (by omega), htm, if_pos (by rw [hbit.1 hb]; rfl), w1, w2, if_pos (by omega), if_pos (by omega), if_pos (by omega), Int.toNat_natCast, Int.toNat_natCast, cut_blk]
      have := hK2 k (by omega)
      simp only at this
      rw [this]
      simp only [Option.bind_some]
      rw [h2, h3]
      have h4 := hK k (by omega)
      simp only at h4
      rw [sumTo_succ, if_pos hb] at h4
      exact h4
    · refine ⟨K + 1, fun k hk => ?_⟩
      obtain ⟨k, rfl⟩ : ∃ m, k = m + 1 := ⟨k - 1, by omega⟩
      simp only [slotmeshref34_Encode.l0]
      rw [if_pos (by omega), htm, if_neg (fun h : ((m / 2 ^ i % 2 : Nat) : Int) = 1 => hb (hbit.2 (Int.ofNat.inj h))), h2, h3]
      have h4 := hK k (by omega)
      simp only at h4
      rw [sumTo_succ, if_neg hb] at h4
      exact h4
theorem encode_ev (P : List Int) (p s : Int) : Ev (fun k => slotmeshref34_Encode.f k P p s) (encS P p s) := by
  have bad : Ev (fun k => slotmeshref34_Encode.j0 k P p s true) (0, 0, [], [], 1) := by
    refine ⟨1, fun k hk => ?_⟩
    obtain ⟨k, rfl⟩ : ∃ m, k = m + 1 := ⟨k - 1, by omega⟩
    simp only [slotmeshref34_Encode.j0]
    rw [if_pos trivial]
  unfold encS
  by_cases hs : 0 ≤ s ∧ s ≤ 1000000000
  · by_cases hP : P.length = 256
    · by_cases hp : 0 ≤ p ∧ p < 16
      · rw [if_pos ⟨by omega, hp, hs⟩]
        obtain ⟨m, m1, m2, m3⟩ := setN s hs
        obtain ⟨K, hK⟩ := encode_l0 hP p s m m3 16 0 rfl
        obtain ⟨K2, hK2⟩ := set_ev s
        refine ⟨K + K2 + 1, fun k hk => ?_⟩
        obtain ⟨k, rfl⟩ : ∃ m, k = m + 1 := ⟨k - 1, by omega⟩
        show slotmeshref34_Encode.f (k + 1) P p s = _
        unfold slotmeshref34_Encode.f
        rw [seed_f]
        simp only [Option.bind_some]
        rw [if_pos (by unfold seedB; simpa using hs), if_pos (by omega), if_neg (by omega), show decide (p > 15) = false by simp; omega]
        simp only [slotmeshref34_Encode.j0]
        rw [if_neg (by simp), if_pos (by omega)]
        have h1 := hK2 k (by omega)
        simp only at h1
        rw [h1]
        simp only [Option.bind_some]
        have h2 := hK k (by omega)
        simp only [Nat.pow_zero, Nat.div_one] at h2
        rw [m1, sumE_eq P s hs, m1, Int.toNat_natCast]
        exact h2
      · rw [if_neg (fun h => hp h.2.1)]
        obtain ⟨K, hK⟩ := bad
        refine ⟨K, fun k hk => ?_⟩
        show slotmeshref34_Encode.f k P p s = _
        unfold slotmeshref34_Encode.f
        rw [seed_f]
        simp only [Option.bind_some]
        rw [if_pos (by unfold seedB; simpa using hs), if_pos (by omega)]
        by_cases h0 : p < 0
        · rw [if_pos h0]; exact hK k hk
        · rw [if_neg h0, show decide (p > 15) = true by simp; omega]; exact hK k hk
    · rw [if_neg (fun h => hP (by have := h.1; omega))]
      obtain ⟨K, hK⟩ := bad
      refine ⟨K, fun k hk => ?_⟩
      show slotmeshref34_Encode.f k P p s = _
      unfold slotmeshref34_Encode.f
      rw [seed_f]
      simp only [Option.bind_some]
      rw [if_pos (by unfold seedB; simpa using hs), if_neg (by omega)]
      exact hK k hk
  · rw [if_neg (fun h => hs h.2.2)]
    obtain ⟨K, hK⟩ := bad
    refine ⟨K, fun k hk => ?_⟩
    show slotmeshref34_Encode.f k P p s = _
    unfold slotmeshref34_Encode.f
    rw [seed_f]
    simp only [Option.bind_some]
    rw [if_neg (by unfold seedB; simpa using hs)]
    exact hK k hk
theorem receive_ev (l : List S25) (hl : l.length ≤ 1000000) (p s : Int) (d pr : List Int) : Ev (fun k => slotmeshref34_Receive.f k l p s d pr) (recS l p s d) := by
  have hval : slotmeshref34_Valid.f p s d pr = some (decide (goodR p s d.length)) := by
    unfold slotmeshref34_Valid.f
    rw [seed_f]
    simp only [Option.bind_some]
    unfold seedB
    by_cases hs : 0 ≤ s ∧ s ≤ 1000000000
    · rw [if_pos (by simpa using hs)]
      by_cases h0 : 0 ≤ p
      · rw [if_pos h0]
        by_cases h1 : p < 16
        · rw [if_pos h1]
          by_cases h2 : (d.length : Int) = 16
          · have : decide (goodR p s d.length) = true := decide_eq_true ⟨⟨h0, h1⟩, hs, h2⟩
            rw [this, h2]
            rfl
          · have : decide (goodR p s d.length) = false := decide_eq_false (fun h => h2 h.2.2)
            rw [this]
            congr 1
            simpa using h2
        · rw [if_neg h1]
          exact congrArg some (decide_eq_false (fun h => h1 h.1.2)).symm
      · rw [if_neg h0]
        exact congrArg some (decide_eq_false (fun h => h0 h.1.1)).symm
    · rw [if_neg (by simpa using hs)]
      exact congrArg some (decide_eq_false (fun h => hs h.2.1)).symm
  obtain ⟨K, hK⟩ := set_ev s
  obtain ⟨K2, hK2⟩ := refAdd l hl (setS s) d
  refine ⟨K + K2, fun k hk => ?_⟩
  show slotmeshref34_Receive.f k l p s d pr = _
  unfold slotmeshref34_Receive.f recS
  rw [hval]
  simp only [Option.bind_some]
  by_cases hg : goodR p s d.length
  · rw [if_pos (by simpa using hg), if_pos hg]
    have h1 := hK k (by omega)
    have h2 := hK2 k (by omega)
    simp only at h1 h2
    rw [h1]
    simp only [Option.bind_some]
    rw [h2]
    rfl
  · rw [if_neg (by simpa using hg), if_neg hg]
end Go.Proofs.YtknlbeojdmeljaaDoor.L
namespace Go.Proofs.YtknlbeojdmeljaaDoor.L
open Go.RowKit Go.Proofs.YtknlbeojdmeljaaDoorW.PrintWords Go.Proofs.YtknlbeojdmeljaaDoorW.PrintLast Go.Proofs.YtknlbeojdmeljaaDoorW.PrintMore Go.Proofs.YtknlbeojdmeljaaDoor.P Go.Proofs.YtknlbeojdmeljaaDoor.H
set_option linter.unusedVariables false
set_option linter.unusedSimpArgs false
def flatS (l : List S25) : List Int := l.reverse.flatMap (fun x => x.f1)
def pgS (l : List S25) : List Int × Bool := if validS l = true ∧ l.length = 16 then (flatS l, true) else ([], false)
theorem leads16 {l : List S25} (hl : GR l) (hv : VP l) (h : ∀ i, i < 16 → ∃ r ∈ l, H.lead r.f0.toNat = 2 ^ i) : l.map expo = down16 := by
  refine desc_ext (l.map expo) down16 (expo_desc hl hv) (by decide) (fun x hx => ?_) (fun x hx => ?_)
  · obtain ⟨r, hr, rfl⟩ := List.mem_map.1 hx
    exact down16_mem.2 (expo_spec hl hr).1
  · obtain ⟨r, hr, e⟩ := h x (down16_mem.1 hx)
    refine List.mem_map.2 ⟨r, hr, ?_⟩
    have := (expo_spec hl hr).2
    rw [e] at this
    exact ((Nat.pow_right_inj (show 1 < 2 by omega)).1 this).symm
theorem down16_at : ∀ j, j < 16 → down16[j]? = some (15 - j) := by decide
theorem flat_range {α β : Type} (f : α → List β) (d : α) (L : List α) : L.flatMap f = (List.range L.length).flatMap (fun i => f (L.getD i d)) := by
  have : L = (List.range L.length).map (fun i => L.getD i d) := by
    refine List.ext_getElem (by simp) (fun i h1 h2 => ?_)
    simp [h1]
  conv => lhs; rw [this]
  rw [List.flatMap_map]
theorem solved_at {l : List S25} (hl : GR l) (hv : validS l = true) (h16 : l.length = 16) {i : Nat} (hi : i < 16) : solvedS l (i : Int) = ((l.reverse.getD i z25).f1, true) := by
  have hvp := (validS_iff l).1 hv
  have hall := all16 hl hvp h16
  have hex := leads16 hl hvp (fun j hj => by
    obtain ⟨r, hr, e⟩ := hall j hj
    exact ⟨r, hr, lead_pow hl hr hj e⟩)
  have hs : solvedS l (i : Int) = match l.find? (fun x => x.f0.toNat == 2 ^ i) with | some x => (x.f1, true) | none => ([], false) := by
    unfold solvedS; rw [if_neg (by rw [hv]; simp; omega)]; rfl
  rw [hs]
  cases hfi : l.find? (fun x => x.f0.toNat == 2 ^ i) with
  | none =>
    obtain ⟨r, hr, e⟩ := hall i hi
    have := List.find?_eq_none.1 hfi r hr
    simp [e] at this
  | some x =>
    have h1 := List.mem_of_find?_eq_some hfi
    have h2 := List.find?_some hfi
    have h4 : x.f0.toNat = 2 ^ i := by simpa using h2
    obtain ⟨j, hj, e⟩ := List.getElem_of_mem h1
    have h5 := (expo_spec hl h1).2
    rw [lead_pow hl h1 hi h4] at h5
    have h6 := (Nat.pow_right_inj (show 1 < 2 by omega)).1 h5
    have h7 : (l.map expo)[j]? = some (expo x) := by simp [hj, e]
    rw [hex, down16_at j (by omega)] at h7
    have h8 := Option.some.inj h7
    have hij : j = 15 - i := by omega
    have hr : l.reverse.getD i z25 = x := by
      rw [List.getD_eq_getElem?_getD, List.getElem?_eq_getElem (by simp; omega), List.getElem_reverse]
      simp only [Option.getD_some]
      refine Eq.trans ?_ e
      congr 1
      omega
    rw [hr]
theorem pageS_eq {l : List S25} (hr : ∀ x ∈ l, ∀ b ∈ x.f1, isB b) : pageS l = pgS l := by
  unfold pgS
  cases hv : validS l
  · rw [if_neg (by simp)]
    unfold pageS
    rw [if_neg]
    intro h
    have := (found_all l).1 h 0 (by omega)
    unfold solvedS at this
    rw [if_pos (Or.inr (Or.inr hv))] at this
    cases this
  · have hg := GR.of_valid hv hr
    have hvp := (validS_iff l).1 hv
    by_cases h16 : l.length = 16
    · rw [if_pos ⟨rfl, h16⟩]
      unfold pageS
      rw [if_pos ((found_all l).2 (fun i hi => by rw [solved_at hg hv h16 hi]))]
      congr 1
      unfold pageTo flatS
      rw [flat_range (fun x => x.f1) z25, List.length_reverse, h16, List.flatMap, List.flatMap]
      congr 1
      refine List.map_congr_left (fun i hi => ?_)
      have hi := List.mem_range.1 hi
      rw [solved_at hg hv h16 hi]
      simp
    · rw [if_neg (fun h => h16 h.2)]
      unfold pageS
      rw [if_neg]
      intro h
      refine h16 (full hg hvp (fun i hi => ?_))
      obtain ⟨r, hr2, e⟩ := (solved_iff hv hi).1 ((found_all l).1 h i hi)
      exact ⟨r, hr2, lead_pow hg hr2 hi e⟩
theorem page34_l0 {l : List S25} (h16 : l.length = 16) (hd : ∀ x ∈ l, x.f1.length = 16) : ∀ n : Nat, n ≤ 16 →
    Ev (fun k => slotmeshref34_Page.l0 k l ((l.reverse.take (16 - n)).flatMap (fun x => x.f1)) ((n : Int) - 1)) (flatS l, true)
  | 0, _ => by
    refine ⟨1, fun k hk => ?_⟩
    obtain ⟨k, rfl⟩ : ∃ m, k = m + 1 := ⟨k - 1, by omega⟩
    simp only [slotmeshref34_Page.l0]
    rw [if_neg (by omega), List.take_of_length_le (by simp; omega)]
    rfl
  | n + 1, hn => by
    obtain ⟨K, hK⟩ := page34_l0 h16 hd n (by omega)
    refine ⟨K + 1, fun k hk => ?_⟩
    obtain ⟨k, rfl⟩ : ∃ m, k = m + 1 := ⟨k - 1, by omega⟩
    simp only [slotmeshref34_Page.l0]
    have e0 : (((n + 1 : Nat) : Int) - 1) = (n : Int) := by omega
    have hlen : ((l.reverse.take (16 - (n + 1))).flatMap (fun x => x.f1)).length ≤ 256 := by
      have : ∀ L : List S25, (∀ x ∈ L, x.f1.length = 16) → (L.flatMap (fun x => x.f1)).length = 16 * L.length := by
        intro L
        induction L with
        | nil => intro _; rfl
        | cons a L ih => intro h; rw [List.flatMap_cons, List.length_append, ih (fun x hx => h x (List.mem_cons_of_mem _ hx)), h a List.mem_cons_self, List.length_cons]; omega
      rw [this _ (fun x hx => hd x (List.mem_reverse.1 (List.mem_of_mem_take hx))), List.length_take]
      simp
      omega
    have hr : rd_T25 l (n : Int) = l[n]'(by omega) := by
      simp [rd_T25, show n < l.length by omega]
    have hl1 : (l[n]'(by omega)).f1.length = 16 := hd _ (List.getElem_mem _)
    rw [e0, if_pos (by omega), if_pos (by omega), if_pos (by omega), hr, if_pos (by rw [hl1]; omega), show wrap64 ((n : Int) - 1) = (n : Int) - 1 by unfold wrap64; omega]
    have hstep : (l.reverse.take (16 - (n + 1))).flatMap (fun x => x.f1) ++ (l[n]'(by omega)).f1 = (l.reverse.take (16 - n)).flatMap (fun x => x.f1) := by
      rw [show 16 - n = (16 - (n + 1)) + 1 by omega, List.take_succ_eq_append_getElem (by simp; omega), List.flatMap_append, List.flatMap_singleton, List.getElem_reverse]
      congr 3
      omega
    rw [hstep]
    exact hK k (by omega)
theorem page34_ev (l : List S25) (hl : l.length < 9223372036854775808) : Ev (fun k => slotmeshref34_Page.f k l) (pgS l) := by
  obtain ⟨K, hK⟩ := refValid' l hl
  have none_ : ∀ k, slotmeshref34_Page.j0 (k + 1) l true = some ([], false) := by
    intro k
    simp only [slotmeshref34_Page.j0]
    rw [if_pos trivial]
  unfold pgS
  cases hv : validS l
  · rw [if_neg (by simp)]
    refine ⟨K + 1, fun k hk => ?_⟩
    obtain ⟨k, rfl⟩ : ∃ m, k = m + 1 := ⟨k - 1, by omega⟩
    show slotmeshref34_Page.f (k + 1) l = _
    unfold slotmeshref34_Page.f
    have h1 := hK (k + 1) (by omega)
    simp only at h1
    rw [h1, hv]
    simp only [Option.bind_some]
    rw [if_neg (by simp)]
    exact none_ k
  · by_cases h16 : l.length = 16
    · rw [if_pos ⟨rfl, h16⟩]
      have hvp := (validS_iff l).1 hv
      obtain ⟨K2, hK2⟩ := page34_l0 h16 (fun x hx => (fine_spec (hvp.fine x hx)).2.2) 16 (Nat.le_refl _)
      refine ⟨K + K2 + 1, fun k hk => ?_⟩
      obtain ⟨k, rfl⟩ : ∃ m, k = m + 1 := ⟨k - 1, by omega⟩
      show slotmeshref34_Page.f (k + 1) l = _
      unfold slotmeshref34_Page.f
      have h1 := hK (k + 1) (by omega)
      simp only at h1
      rw [h1, hv]
      simp only [Option.bind_some]
      rw [if_pos trivial, h16]
      simp only [slotmeshref34_Page.j0]
      rw [if_neg (by decide)]
      exact hK2 k (by omega)
    · rw [if_neg (fun h => h16 h.2)]
      refine ⟨K + 1, fun k hk => ?_⟩
      obtain ⟨k, rfl⟩ : ∃ m, k = m + 1 := ⟨k - 1, by omega⟩
      show slotmeshref34_Page.f (k + 1) l = _
      unfold slotmeshref34_Page.f
      have h1 := hK (k + 1) (by omega)
      simp only at h1
      rw [h1, hv]
      simp only [Option.bind_some]
      rw [if_pos trivial, show ((l.length : Int) != 16) = true by simp; omega]
      exact none_ k
theorem same34_ev (p s : Int) (d pr pr' : List Int) (hl : d.length < 9223372036854775808) : Ev (fun k => slotmeshref34_Same.f k p s d pr p s d pr') true := by
  obtain ⟨K, hK⟩ := refBytes d d hl
  rw [beq_self_eq_true] at hK
  refine ⟨K, fun k hk => ?_⟩
  show slotmeshref34_Same.f k p s d pr p s d pr' = _
  unfold slotmeshref34_Same.f
  have h1 := hK k hk
  simp only at h1
  rw [h1]
  simp only [Option.bind_some]
  rw [if_pos trivial, if_pos trivial, beq_self_eq_true]
end Go.Proofs.YtknlbeojdmeljaaDoor.L
namespace Go.Proofs.YtknlbeojdmeljaaDoor.H
open Go.RowKit Go.Proofs.YtknlbeojdmeljaaDoorW.PrintWords Go.Proofs.YtknlbeojdmeljaaDoorW.PrintLast Go.Proofs.YtknlbeojdmeljaaDoorW.PrintMore Go.Proofs.YtknlbeojdmeljaaDoor.P
set_option linter.unusedVariables false
set_option linter.unusedSimpArgs false
variable {w0 w : World} {ls : List (Option Addr × Nat × List S25)} {bs : List (Option Addr × Nat × List Int)}
theorem few_h (h : Hold w0 w ls bs) {A : Option Addr} {n c : Nat} (xs : List S25) (hA : (A, n, xs) ∈ ls) (hn : n = xs.length) (hc : n ≤ c) (b : Bool) (hb : L.fewB xs = b) :
    Calls Tryd.prog 11 #[.slice A n c] w fun e u => e = .returned (.bool b) ∧ Hold w0 u ls bs := by
  subst hn hb
  have hl := (h.2.1 _ hA).2.1
  obtain ⟨K, hK⟩ := L.refFew xs (by simp only at hl; omega)
  exact (slotmeshref33_Few.calls K A c xs _ w (h.2.1 _ hA) hc (hK K (Nat.le_refl K))).mono fun e u ⟨he, hd⟩ => ⟨he, h.below hd.below⟩
theorem nil_C (k : IntKind) (w : World) (A : Option Addr) : Kd.C (Kd.int k) w A 0 [] := ⟨rfl, by simp, fun h => absurd h (by simp)⟩
theorem encA_h (h : Hold w0 w ls bs) (ht : Tabs w0) {A : Option Addr} {n c : Nat} (P : List Int) (p s : Int) (hA : (A, n, P) ∈ bs) (hn : n = P.length) (hc : n ≤ c) (r1 r2 : Int) (r3 : List Int) (r5 : Int) (k : Nat) (hr : L.encS P p s = (r1, r2, r3, [], r5)) (hk : r3.length = k) :
    Calls Tryd.prog 12 #[.slice A n c, .int .i64 p, .int .i64 s] w fun e u => ∃ A' c', e = .returned (.tuple #[.agg #[.int .i64 r1, .int .i64 r2, .slice A' k c', .slice none 0 0], .int .i64 r5]) ∧ k ≤ c' ∧ Hold w0 u ls ((A', k, r3) :: bs) := by
  subst hk
  unfold L.encS at hr
  by_cases hg : goodE P.length p s
  · rw [if_pos hg] at hr
    simp only [Prod.mk.injEq] at hr
    obtain ⟨rfl, rfl, rfl, _, rfl⟩ := hr
    have h256 : n = 256 := by have := hg.1; omega
    subst h256
    rw [sumE_len hn.symm s hg.2.2]
    exact enc_h h ht P p s hA hc hg.2.1 hg.2.2
  · rw [if_neg hg] at hr
    simp only [Prod.mk.injEq] at hr
    obtain ⟨rfl, rfl, rfl, _, rfl⟩ := hr
    refine (bad_h h A n c p s (by rw [hn]; exact hg)).mono ?_
    rintro e u ⟨rfl, h2⟩
    exact ⟨none, 0, rfl, Nat.le_refl _, h2.addb (nil_C _ _ _)⟩
theorem refEnc_h (h : Hold w0 w ls bs) {A : Option Addr} {n c : Nat} (P : List Int) (p s : Int) (hA : (A, n, P) ∈ bs) (hn : n = P.length) (hc : n ≤ c) (r1 r2 : Int) (r3 : List Int) (r5 : Int) (k : Nat) (hr : L.encS P p s = (r1, r2, r3, [], r5)) (hk : r3.length = k) :
    Calls Tryd.prog 13 #[.slice A n c, .int .i64 p, .int .i64 s] w fun e u => ∃ A' c' A2 c2, e = .returned (.tuple #[.agg #[.int .i64 r1, .int .i64 r2, .slice A' k c', .slice A2 0 c2], .int .i64 r5]) ∧ k ≤ c' ∧ Hold w0 u ls ((A', k, r3) :: bs) := by
  subst hn hk
  obtain ⟨K, hK⟩ := L.encode_ev P p s
  rw [hr] at hK
  refine (slotmeshref34_Encode.calls K A c P p s r1 r2 r3 [] r5 w (h.2.2 _ hA) hc (hK K (Nat.le_refl K))).mono ?_
  rintro e u ⟨v2, v3, rfl, hR2, hR3, hb⟩
  obtain ⟨A', c', rfl⟩ := Kd.R_slice hR2
  obtain ⟨A2, c2, rfl⟩ := Kd.R_slice hR3
  obtain ⟨_, hl', hcc⟩ := Kd.R_reads' hR2
  exact ⟨A', c', A2, c2, rfl, hl', (h.below hb).addb hcc⟩
theorem rcvA_h (h : Hold w0 w ls bs) (ht : Tabs w0) {A : Option Addr} {cap n : Nat} (zs : List S25) (p s : Int) {A1 : Option Addr} {c1 n1 : Nat} (ds : List Int) (pr : Value) (hpr : pr.oneCell' = true) (hA : (A, n, zs) ∈ ls) (hB : (A1, n1, ds) ∈ bs) (hn : n = zs.length) (hn1 : n1 = ds.length) (hlen : zs.length ≤ 1000000)
    (xs : List S25) (f : Bool) (e : Int) (k : Nat) (hr : recS zs p s ds = (xs, f, e)) (hk : xs.length = k) :
    Calls Tryd.prog 14 #[.slice A n cap, .agg #[.int .i64 p, .int .i64 s, .slice A1 n1 c1, pr]] w fun e2 u => ∃ A' c', e2 = .returned (.tuple #[.slice A' k c', .bool f, .int .i64 e]) ∧ k ≤ c' ∧ Hold w0 u ((A', k, xs) :: ls) bs := by
  unfold recS at hr
  by_cases hg : goodR p s ds.length
  · rw [if_pos hg] at hr
    exact rcv1_h h ht zs p s ds pr hA hB hn hn1 hlen hg xs f e k hr hk
  · rw [if_neg hg] at hr
    simp only [Prod.mk.injEq] at hr
    obtain ⟨rfl, rfl, rfl⟩ := hr
    subst hk
    refine (receive_bad A cap n p s A1 n1 c1 pr hpr w (by rw [hn1]; exact hg)).mono ?_
    rintro e u ⟨rfl, hb⟩
    exact ⟨none, 0, rfl, Nat.le_refl _, (h.below hb).addl ⟨rfl, by simp, fun h => absurd h (by simp)⟩⟩
theorem refRcv_h (h : Hold w0 w ls bs) {A : Option Addr} {cap n : Nat} (zs : List S25) (p s : Int) {A1 : Option Addr} {c1 n1 : Nat} (ds : List Int) {A2 : Option Addr} {c2 n2 : Nat} (qs : List Int) (hA : (A, n, zs) ∈ ls) (hB : (A1, n1, ds) ∈ bs) (hn : n = zs.length) (hc : n ≤ cap) (hn1 : n1 = ds.length) (hc1 : n1 ≤ c1) (hn2 : n2 = qs.length) (hc2 : n2 ≤ c2) (hq : Kd.C (Kd.int .u64) w0 A2 n2 qs) (hlen : zs.length ≤ 1000000)
    (xs : List S25) (f : Bool) (e : Int) (k : Nat) (hr : recS zs p s ds = (xs, f, e)) (hk : xs.length = k) :
    Calls Tryd.prog 15 #[.slice A n cap, .agg #[.int .i64 p, .int .i64 s, .slice A1 n1 c1, .slice A2 n2 c2]] w fun e2 u => ∃ A' c', e2 = .returned (.tuple #[.slice A' k c', .bool f, .int .i64 e]) ∧ k ≤ c' ∧ Hold w0 u ((A', k, xs) :: ls) bs := by
  subst hn hn1 hn2 hk
  obtain ⟨K, hK⟩ := L.receive_ev zs hlen p s ds qs
  rw [hr] at hK
  refine (slotmeshref34_Receive.calls K A cap zs p s (fun k => k < w.heap.size) A1 c1 ds A2 c2 qs xs f e w (h.2.1 _ hA) hc (Kd.V_mk hc1 (Kd.C_F (Kd.heap_int .u8) (h.2.2 _ hB))) (Kd.C_below hq h.1) hc2 (hK K (Nat.le_refl K))).mono ?_
  rintro e2 u ⟨v, rfl, hN, hb⟩
  obtain ⟨A', c', rfl, h1, h2⟩ := Kd.N_reads hN
  exact ⟨A', c', rfl, h1, (h.below hb).addl h2⟩
theorem refPage_h (h : Hold w0 w ls bs) {A : Option Addr} {cap n : Nat} (xs : List S25) (ys : List Int) (b : Bool) (k : Nat)
    (hA : (A, n, xs) ∈ ls) (hn : n = xs.length) (hc : n ≤ cap) (hr : L.pgS xs = (ys, b)) (hk : ys.length = k) :
    Calls Tryd.prog 17 #[.slice A n cap] w fun e u => ∃ A' c', e = .returned (.tuple #[.slice A' k c', .bool b]) ∧ k ≤ c' ∧ Hold w0 u ls ((A', k, ys) :: bs) := by
  subst hn hk
  have hl := (h.2.1 _ hA).2.1
  obtain ⟨K, hK⟩ := L.page34_ev xs (by simp only at hl; omega)
  rw [hr] at hK
  refine (slotmeshref34_Page.calls K A cap xs ys b w (h.2.1 _ hA) hc (hK K (Nat.le_refl K))).mono ?_
  rintro e u ⟨v, rfl, hR, hb⟩
  obtain ⟨A', c', rfl⟩ := Kd.R_slice hR
  obtain ⟨_, hl', hcc⟩ := Kd.R_reads' hR
  exact ⟨A', c', rfl, hl', (h.below hb).addb hcc⟩
theorem refSet_h (h : Hold w0 w ls bs) (s v : Int) (hv : setS s = v) : Calls Tryd.prog 19 #[.int .i64 s] w fun e u => e = .returned (.int .i64 v) ∧ Hold w0 u ls bs := by
  subst hv
  obtain ⟨K, hK⟩ := L.set_ev s
  exact (slotmeshref34_Set.calls K s _ w (hK K (Nat.le_refl K))).mono fun e u ⟨he, hd⟩ => ⟨he, h.below hd.below⟩
theorem same34_h (h : Hold w0 w ls bs) (p s : Int) {A A1 : Option Addr} {n c n1 c1 : Nat} (ds : List Int) (A2 A3 : Option Addr) (c2 c3 : Nat) (hA : (A, n, ds) ∈ bs) (hB : (A1, n1, ds) ∈ bs) (hn : n = ds.length) (hn1 : n1 = ds.length) (hc : n ≤ c) (hc1 : n1 ≤ c1) :
    Calls Tryd.prog 20 #[.agg #[.int .i64 p, .int .i64 s, .slice A n c, .slice A2 0 c2], .agg #[.int .i64 p, .int .i64 s, .slice A1 n1 c1, .slice A3 0 c3]] w fun e u => e = .returned (.bool true) ∧ Hold w0 u ls bs := by
  subst hn hn1
  have hl := (h.2.2 _ hA).2.1
  obtain ⟨K, hK⟩ := L.same34_ev p s ds [] [] (by simp only at hl; omega)
  exact (slotmeshref34_Same.calls K p s A c ds A2 c2 [] p s A1 c1 ds A3 c3 [] true w (h.2.2 _ hA) hc (nil_C _ _ _) (Nat.zero_le _) (h.2.2 _ hB) hc1 (nil_C _ _ _) (Nat.zero_le _) (hK K (Nat.le_refl K))).mono fun e u ⟨he, hb⟩ => ⟨he, h.below hb⟩
def Blk (w : World) (b : Nat) (vs : Array Value) : Prop := w.heap[b]? = some (.cells vs 26 (0, 0))
theorem Blk.below {w u : World} {b : Nat} {vs : Array Value} (h : Blk w b vs) (hb : Below w.heap.size w u) : Blk u b vs := blk_below h hb
theorem Blk.new (w : World) (vs : Array Value) : Blk (w.alloc (.cells vs 26)) w.heap.size vs := heap_alloc_new w _
theorem Blk.cell {w : World} {b : Nat} {vs : Array Value} (h : Blk w b vs) (k : Nat) : w.cell? ⟨b, k, none⟩ = vs[k]? := blk_cell h k
theorem encS_nil (P : List Int) (p s : Int) : ∃ r1 r2 r3 r5, L.encS P p s = (r1, r2, r3, [], r5) := by
  unfold L.encS
  split
  · exact ⟨_, _, _, _, rfl⟩
  · exact ⟨_, _, _, _, rfl⟩
theorem few_rows {l : List S25} (h : L.fewB l = true) : l.length ≤ 40 := by
  unfold L.fewB at h
  simp only [Bool.and_eq_true, decide_eq_true_eq] at h
  exact h.2
theorem Hold.start3 (w : World) {A A1 A3 : Option Addr} {n n1 n3 : Nat} {P d : List Int} {l : List S25} (h : Kd.C (Kd.int .u8) w A n P) (h1 : Kd.C (Kd.int .u8) w A1 n1 d) (h3 : Kd.C k25 w A3 n3 l) : Hold w w [(A3, n3, l)] [(A, n, P), (A1, n1, d)] :=
  ⟨Below.refl _ _, (fun p hp => by rw [List.mem_singleton.1 hp]; exact h3), (fun p hp => by rcases List.mem_cons.1 hp with rfl | hp; exact h; rw [List.mem_singleton.1 hp]; exact h1)⟩
theorem recS_rows (l : List S25) (p s : Int) (d : List Int) : ∃ xs f e, recS l p s d = (xs, f, e) := ⟨_, _, _, rfl⟩
theorem rows_len {w : World} {A : Option Addr} {n : Nat} {xs : List S25} (h : Kd.C k25 w A n xs) : ∀ x ∈ xs, x.f1.length < 9223372036854775808 := by
  intro x hx
  obtain ⟨j, hj, e⟩ := List.getElem_of_mem hx
  have hn : 0 < n := by have := h.1; omega
  obtain ⟨ad, _, hc⟩ := h.2.2 hn
  obtain ⟨c, _, hK, _⟩ := hc j x (by rw [List.getElem?_eq_getElem hj, e])
  obtain ⟨A1, c1, rfl, l1, g1⟩ := k25_open hK
  have := g1.2.1
  omega
set_option maxRecDepth 100000 in
set_option maxHeartbeats 2000000 in
theorem match34_calls (A : Option Addr) (c n : Nat) (P : List Int) (hB : ∀ b ∈ P, L.isB b) (hn : n = P.length) (hc : n ≤ c) (p s : Int) (A3 : Option Addr) (c3 : Nat) (l : List S25) (hc3 : l.length ≤ c3) (hB3 : ∀ x ∈ l, ∀ b ∈ x.f1, L.isB b)
    (bp bq : Int) (A4 : Option Addr) (n4 c4 : Nat) (d : List Int) (hn4 : n4 = d.length) (hc4 : n4 ≤ c4) (A5 : Option Addr) (n5 c5 : Nat) (q : List Int) (hn5 : n5 = q.length) (hc5 : n5 ≤ c5) (w : World) (hr : Kd.C (Kd.int .u8) w A n P) (hr3 : Kd.C k25 w A3 l.length l) (hr4 : Kd.C (Kd.int .u8) w A4 n4 d) (hr5 : Kd.C (Kd.int .u64) w A5 n5 q) (ht : Tabs w) :
    Calls Tryd.prog 3 #[.slice A n c, .int .i64 p, .int .i64 s, .slice A3 l.length c3, .agg #[.int .i64 bp, .int .i64 bq, .slice A4 n4 c4, .slice A5 n5 c5]] w fun e w' => e = .returned (.bool true) ∧ Below w.heap.size w w' := by
  have HT := Lib.hid ht
  have HN := Lib.hid hn
  have HN4 := Lib.hid hn4
  have HN5 := Lib.hid hn5
  have H0 := Lib.hid (Hold.start3 w hr hr4 hr3)
  have HR5 := Lib.hid hr5
  obtain ⟨n3, hn3⟩ : ∃ n3, n3 = l.length := ⟨_, rfl⟩
  rw [← hn3] at hc3 H0 ⊢
  have HN3 := Lib.hid hn3
  obtain ⟨w1, hw1⟩ : ∃ u, u = w.alloc (.cells #[.int .i64 bp, .int .i64 bq, .slice A4 n4 c4, .slice A5 n5 c5] 26) := ⟨_, rfl⟩
  have X1 := Lib.hid (show Blk w1 w.heap.size #[.int .i64 bp, .int .i64 bq, .slice A4 n4 c4, .slice A5 n5 c5] by rw [hw1]; exact Blk.new _ _)
  have H1 := Lib.hid (show Hold w w1 _ _ by rw [hw1]; exact H0.out.alloc _)
  have K1 := Lib.hid H1.out.rebase
  have TB := Lib.hid (HT.out.keep H1.out.1)
  have HQ := Lib.hid (Kd.C_below hr5 H1.out.1)
  have HW1 := Lib.hid hw1
  obtain ⟨b, hb⟩ : ∃ b, L.fewB l = b := ⟨_, rfl⟩
  have HF := Lib.hid hb
  have HB3 := Lib.hid hB3
  clear ht hn hn4 hn5 hn3 hr hr3 hr4 hr5 hB hB3 hb hw1
  go_enter Tryd.func3, Tryd.ntmps3
  go_wp2_with fail
  rw [← HW1.out]
  refine (head_h K1.out TB.out).mono ?_
  rintro e u1 ⟨rfl, h1⟩
  have H2 := Lib.hid h1
  clear h1
  go_wp2_with fail
  refine (few_h H2.out l List.mem_cons_self HN3.out hc3 b HF.out).mono ?_
  rintro e u2 ⟨rfl, h2⟩
  have H3 := Lib.hid h2
  have X3 := Lib.hid (X1.out.below h2.1)
  clear h2
  have xc : u2.cell? ⟨w.heap.size, 2, none⟩ = some (.slice A4 n4 c4) := X3.out.cell 2
  cases b
  · go_wp2_with fail
    go_ret
    exact ⟨rfl, (H1.out.onto H3.out).1⟩
  · by_cases hn6 : n ≤ 600
    · have g1 : decide ((n : Int) > 600) = false := by simp; omega
      by_cases hn46 : n4 ≤ 600
      · have g2 : decide ((n4 : Int) > 600) = false := by simp; omega
        have hl40 := few_rows HF.out
        obtain ⟨r1, r2, r3, r5, hE⟩ := encS_nil P p s
        obtain ⟨xs, f, er, hR⟩ := recS_rows l bp bq d
        obtain ⟨ys, g, hP⟩ : ∃ ys g, L.pgS l = (ys, g) := ⟨_, _, rfl⟩
        have hP2 : pageS l = (ys, g) := by rw [L.pageS_eq HB3.out, hP]
        have HE := Lib.hid hE
        have HR := Lib.hid hR
        have HP := Lib.hid hP
        have HP2 := Lib.hid hP2
        have HL40 := Lib.hid (show l.length ≤ 1000000 by omega)
        have S1 := Lib.hid (show setS s = setS s from rfl)
        obtain ⟨sv, hsv⟩ : ∃ sv, setS s = sv := ⟨_, rfl⟩
        have SV := Lib.hid hsv
        clear hE hR hP hP2 hl40 hsv
        go_wp2_with fail
        refine (encA_h H3.out TB.out P p s List.mem_cons_self HN.out hc r1 r2 r3 r5 _ HE.out rfl).mono ?_
        rintro e u3 ⟨A6, c6, rfl, hc6, h6⟩
        have H6 := Lib.hid h6
        clear h6 xc
        go_wp2_with fail
        obtain ⟨u3b, hu3⟩ : ∃ u, u = u3.alloc (Obj.cells #[Value.int IntKind.i64 r1, Value.int IntKind.i64 r2, Value.slice A6 r3.length c6, Value.slice none 0 0] 26) := ⟨_, rfl⟩
        have Y6 := Lib.hid (show Blk u3b u3.heap.size #[Value.int IntKind.i64 r1, Value.int IntKind.i64 r2, Value.slice A6 r3.length c6, Value.slice none 0 0] by rw [hu3]; exact Blk.new _ _)
        have hb3 : Below u3.heap.size u3 u3b := by rw [hu3]; exact (Below.refl _ _).alloc (Nat.le_refl _) _
        have H6b := Lib.hid (H6.out.below hb3)
        have K6 := Lib.hid H6b.out.rebase
        have TB6 := Lib.hid (TB.out.keep H6b.out.1)
        have HQ6 := Lib.hid (Kd.C_below HQ.out H6b.out.1)
        have X6 := Lib.hid (X1.out.below H6b.out.1)
        rw [← hu3]
        clear hu3 hb3
        refine (refEnc_h K6.out P p s (List.mem_cons_of_mem _ List.mem_cons_self) HN.out hc r1 r2 r3 r5 _ HE.out rfl).mono ?_
        rintro e u4 ⟨A7, c7, A7p, c7p, rfl, hc7, h7⟩
        have H7 := Lib.hid h7
        clear h7
        have X7 := Lib.hid (X6.out.below H7.out.1)
        go_wp2_with (first | (refine wpList_load_row rfl 26 _ rfl w.heap.size rfl 26 #[.int .i64 bp, .int .i64 bq, .slice A4 n4 c4, .slice A5 n5 c5] (0, 0) _ (X7.out.below ((Below.refl _ _).alloc (Nat.le_refl _) _)) Tryd.underlying26 rfl size26 ?_))
        obtain ⟨u4b, hu4⟩ : ∃ u, u = u4.alloc (Obj.cells #[Value.int IntKind.i64 r1, Value.int IntKind.i64 r2, Value.slice A7 r3.length c7, Value.slice A7p 0 c7p] 26) := ⟨_, rfl⟩
        have Z7 := Lib.hid (show Blk u4b u4.heap.size #[Value.int IntKind.i64 r1, Value.int IntKind.i64 r2, Value.slice A7 r3.length c7, Value.slice A7p 0 c7p] by rw [hu4]; exact Blk.new _ _)
        have hb4 : Below u4.heap.size u4 u4b := by rw [hu4]; exact (Below.refl _ _).alloc (Nat.le_refl _) _
        have H7b := Lib.hid (H7.out.below hb4)
        have K7 := Lib.hid H7b.out.rebase
        have TB7 := Lib.hid (TB6.out.keep H7b.out.1)
        have HQ7 := Lib.hid (Kd.C_below HQ6.out H7b.out.1)
        have Y7 := Lib.hid (Y6.out.below H7b.out.1)
        have X7b := Lib.hid (X7.out.below hb4)
        rw [← hu4]
        clear hu4 hb4
        have m3 : (A3, n3, l) ∈ [(A3, n3, l)] := List.mem_cons_self
        refine (rcvA_h K7.out TB7.out l bp bq d _ rfl List.mem_cons_self (List.mem_cons_of_mem _ (List.mem_cons_of_mem _ (List.mem_cons_of_mem _ List.mem_cons_self))) HN3.out HN4.out HL40.out xs f er _ HR.out rfl).mono ?_
        rintro e u5 ⟨A8, c8, rfl, hc8, h8⟩
        have H8 := Lib.hid h8
        have X8 := Lib.hid (X7b.out.below h8.1)
        clear h8
        go_wp2_with (first | (refine wpList_load_row rfl 26 _ rfl w.heap.size rfl 26 #[.int .i64 bp, .int .i64 bq, .slice A4 n4 c4, .slice A5 n5 c5] (0, 0) _ X8.out Tryd.underlying26 rfl size26 ?_))
        refine (refRcv_h H8.out l bp bq d q (List.mem_cons_of_mem _ List.mem_cons_self) (List.mem_cons_of_mem _ (List.mem_cons_of_mem _ (List.mem_cons_of_mem _ List.mem_cons_self))) HN3.out hc3 HN4.out hc4 HN5.out hc5 HQ7.out HL40.out xs f er _ HR.out rfl).mono ?_
        rintro e u6 ⟨A9, c9, rfl, hc9, h9⟩
        have H9 := Lib.hid h9
        clear h9
        go_wp2_with fail
        refine (page_h H9.out l ys g _ (List.mem_cons_of_mem _ (List.mem_cons_of_mem _ List.mem_cons_self)) HN3.out HP2.out rfl).mono ?_
        rintro e u7 ⟨A10, c10, rfl, hc10, h10⟩
        have H10 := Lib.hid h10
        clear h10
        go_wp2_with fail
        refine (refPage_h H10.out l ys g _ (List.mem_cons_of_mem _ (List.mem_cons_of_mem _ List.mem_cons_self)) HN3.out hc3 HP.out rfl).mono ?_
        rintro e u8 ⟨A11, c11, rfl, hc11, h11⟩
        have H11 := Lib.hid h11
        clear h11
        go_wp2_with fail
        refine (set_h H11.out TB7.out s sv SV.out).mono ?_
        rintro e u9 ⟨rfl, h12⟩
        have H12 := Lib.hid h12
        clear h12
        go_wp2_with fail
        refine (refSet_h H12.out s sv SV.out).mono ?_
        rintro e u10 ⟨rfl, h13⟩
        have H13 := Lib.hid h13
        have Y10 := Lib.hid (Y7.out.below h13.1)
        have Z10 := Lib.hid (Z7.out.below h13.1)
        clear h13
        have a0 : u10.cell? ⟨u3.heap.size, 0, none⟩ = some (.int .i64 r1) := Y10.out.cell 0
        have a1 : u10.cell? ⟨u3.heap.size, 1, none⟩ = some (.int .i64 r2) := Y10.out.cell 1
        have a2 : u10.cell? ⟨u3.heap.size, 2, none⟩ = some (.slice A6 r3.length c6) := Y10.out.cell 2
        have a3 : u10.cell? ⟨u3.heap.size, 3, none⟩ = some (.slice none 0 0) := Y10.out.cell 3
        have b0 : u10.cell? ⟨u4.heap.size, 0, none⟩ = some (.int .i64 r1) := Z10.out.cell 0
        have b1 : u10.cell? ⟨u4.heap.size, 1, none⟩ = some (.int .i64 r2) := Z10.out.cell 1
        have b2 : u10.cell? ⟨u4.heap.size, 2, none⟩ = some (.slice A7 r3.length c7) := Z10.out.cell 2
        have b3 : u10.cell? ⟨u4.heap.size, 3, none⟩ = some (.slice A7p 0 c7p) := Z10.out.cell 3
        go_wp2_with fail
        refine (same34_h H13.out r1 r2 r3 none A7p 0 c7p (List.mem_cons_of_mem _ (List.mem_cons_of_mem _ (List.mem_cons_of_mem _ List.mem_cons_self))) (List.mem_cons_of_mem _ (List.mem_cons_of_mem _ List.mem_cons_self)) rfl rfl hc6 hc7).mono ?_
        rintro e u11 ⟨rfl, h14⟩
        have H14 := Lib.hid h14
        have a3 : u11.cell? ⟨u3.heap.size, 3, none⟩ = some (.slice none 0 0) := (Y7.out.below h14.1).cell 3
        clear h14 a0 a1 a2 b0 b1 b2 b3
        go_wp2_with fail
        refine (sameE_h H14.out xs xs (rows_len (H14.out.2.1 _ List.mem_cons_self)) true (List.mem_cons_of_mem _ List.mem_cons_self) List.mem_cons_self rfl rfl hc8 hc9 (same_self xs)).mono ?_
        rintro e u12 ⟨rfl, h15⟩
        have H15 := Lib.hid h15
        clear h15 a3
        go_wp2_with fail
        refine (bytesE_h H15.out ys ys true (List.mem_cons_of_mem _ List.mem_cons_self) List.mem_cons_self rfl rfl hc10 hc11 (beq_self_eq_true _)).mono ?_
        rintro e u13 ⟨rfl, h16⟩
        have H16 := Lib.hid h16
        clear h16
        go_wp2_with fail
        go_ret
        exact ⟨rfl, (H1.out.onto (H6b.out.onto (H7b.out.onto H16.out))).1⟩
      · have g2 : decide ((n4 : Int) > 600) = true := by simp; omega
        go_wp2_with fail
        go_ret
        exact ⟨rfl, (H1.out.onto H3.out).1⟩
    · have g1 : decide ((n : Int) > 600) = true := by simp; omega
      go_wp2_with fail
      go_ret
      exact ⟨rfl, (H1.out.onto H3.out).1⟩
end Go.Proofs.YtknlbeojdmeljaaDoor.H
