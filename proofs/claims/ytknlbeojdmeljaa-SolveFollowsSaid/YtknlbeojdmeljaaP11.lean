-- written by hprint.py (a program of this session's, over the kit's print.py)
import Derived.Test.YtknlbeojdmeljaaP0
import Derived.Test.YtknlbeojdmeljaaP1
import Derived.Test.YtknlbeojdmeljaaP2
import Derived.Test.YtknlbeojdmeljaaP3
import Derived.Test.YtknlbeojdmeljaaP4
import Derived.Test.YtknlbeojdmeljaaP5
import Derived.Test.YtknlbeojdmeljaaP6
namespace Go.Proofs.Ytknlbeojdmeljaa.P
open Go.RowKit Go.Proofs.YtknlbeojdmeljaaW.PrintWords Go.Proofs.YtknlbeojdmeljaaW.PrintLast Go.Proofs.YtknlbeojdmeljaaW.PrintMore
attribute [local go_sem] max2_int min2_int max_two min_two max_three min_three max_four min_four   -- for this text's walks alone
set_option linter.unusedVariables false
set_option linter.unusedSimpArgs false

/-! ### slotmeshlaw33_SolveFollows: function 7 -/
mutual
def slotmeshlaw33_SolveFollows.j0 : Nat → List (S25) → Bool → Bool → Int → List Int → Option (Bool)
  | 0, _, _, _, _, _ => none
  | k + 1, x0, x5, x26, x271000, x271001 => if x26 = true then (some x5) else ((solve_Sum.f k x0 x271000).bind fun bt275 => ((solve_Add.f k x0 x271000 x271001).bind fun bt279 => (if bt275.2 = true then ((slotmeshref33_Bytes.f k bt275.1 x271001).bind fun t284 => (slotmeshlaw33_SolveFollows.j1 k x5 bt275.2 bt279.1 bt279.2.1 bt279.2.2 (!t284) x271000 x271001)) else (slotmeshlaw33_SolveFollows.j1 k x5 bt275.2 bt279.1 bt279.2.1 bt279.2.2 false x271000 x271001))))
def slotmeshlaw33_SolveFollows.j1 : Nat → Bool → Bool → List (S25) → Bool → Int → Bool → Int → List Int → Option (Bool)
  | 0, _, _, _, _, _, _, _, _ => none
  | k + 1, x5, x7, x8, x9, x10, x49, x271000, x271001 => if x49 = true then (if x5 = true then (some (x10 == 12)) else (some false)) else ((solve_Sum.f k x8 x271000).bind fun bt285 => (if x5 = true then (if x10 = 0 then (if (x9 == (!x7)) = true then (if bt285.2 = true then ((slotmeshref33_Bytes.f k bt285.1 x271001).bind fun t289 => (some t289)) else (some false)) else (some false)) else (some false)) else (some false)))
end
def slotmeshlaw33_SolveFollows.f (k : Nat) (l0 : List (S25)) (a1_0 : Int) (l1_1 : List Int) : Option (Bool) := (slotmeshlaw33_head.f).bind fun t271 => ((slotmeshref33_Few.f k l0).bind fun t272 => (if t272 = true then ((slotmeshref33_Valid.f k l0).bind fun t273 => (if t273 = true then ((slotmeshref33_Formed.f a1_0 l1_1).bind fun t274 => (slotmeshlaw33_SolveFollows.j0 k l0 t271 (!t274) a1_0 l1_1)) else (slotmeshlaw33_SolveFollows.j0 k l0 t271 true a1_0 l1_1))) else (slotmeshlaw33_SolveFollows.j0 k l0 t271 true a1_0 l1_1)))
theorem slotmeshlaw33_SolveFollows.mono_l : ∀ k, (∀ y0 y1 y2 y3 y4, LeO (slotmeshlaw33_SolveFollows.j0 k y0 y1 y2 y3 y4) (slotmeshlaw33_SolveFollows.j0 (k + 1) y0 y1 y2 y3 y4)) ∧ (∀ y0 y1 y2 y3 y4 y5 y6 y7, LeO (slotmeshlaw33_SolveFollows.j1 k y0 y1 y2 y3 y4 y5 y6 y7) (slotmeshlaw33_SolveFollows.j1 (k + 1) y0 y1 y2 y3 y4 y5 y6 y7))
  | 0 => ⟨fun _ _ _ _ _ r h => by simp [slotmeshlaw33_SolveFollows.j0] at h, fun _ _ _ _ _ _ _ _ r h => by simp [slotmeshlaw33_SolveFollows.j1] at h⟩
  | k + 1 => by
    obtain ⟨ih0, ih1⟩ := slotmeshlaw33_SolveFollows.mono_l k
    refine ⟨?_, ?_⟩
    · intro y0 y1 y2 y3 y4
      unfold slotmeshlaw33_SolveFollows.j0
      repeat' first
      | (with_reducible exact ih0 _ _ _ _ _)
      | (with_reducible exact ih1 _ _ _ _ _ _ _ _)
      | (with_reducible exact slotmeshref33_Bytes.mono _ _ _)
      | (with_reducible exact slotmeshref33_Few.mono _ _)
      | (with_reducible exact slotmeshref33_Valid.mono _ _)
      | (with_reducible exact solve_Add.mono _ _ _ _)
      | (with_reducible exact solve_Sum.mono _ _ _)
      | (with_reducible exact LeO.refl _)
      | (with_reducible exact LeO.none _)
      | (with_reducible refine LeO.ite ?_ ?_)
      | (with_reducible refine LeO.bind ?_ (fun _ => ?_))
      | exact ih0 _ _ _ _ _
      | exact ih1 _ _ _ _ _ _ _ _
      | exact slotmeshref33_Bytes.mono _ _ _
      | exact slotmeshref33_Few.mono _ _
      | exact slotmeshref33_Valid.mono _ _
      | exact solve_Add.mono _ _ _ _
      | exact solve_Sum.mono _ _ _
      | exact LeO.none _
      | refine LeO.ite ?_ ?_
      | refine LeO.bind ?_ (fun _ => ?_)
    · intro y0 y1 y2 y3 y4 y5 y6 y7
      unfold slotmeshlaw33_SolveFollows.j1
      repeat' first
      | (with_reducible exact ih0 _ _ _ _ _)
      | (with_reducible exact ih1 _ _ _ _ _ _ _ _)
      | (with_reducible exact slotmeshref33_Bytes.mono _ _ _)
      | (with_reducible exact slotmeshref33_Few.mono _ _)
      | (with_reducible exact slotmeshref33_Valid.mono _ _)
      | (with_reducible exact solve_Add.mono _ _ _ _)
      | (with_reducible exact solve_Sum.mono _ _ _)
      | (with_reducible exact LeO.refl _)
      | (with_reducible exact LeO.none _)
      | (with_reducible refine LeO.ite ?_ ?_)
      | (with_reducible refine LeO.bind ?_ (fun _ => ?_))
      | exact ih0 _ _ _ _ _
      | exact ih1 _ _ _ _ _ _ _ _
      | exact slotmeshref33_Bytes.mono _ _ _
      | exact slotmeshref33_Few.mono _ _
      | exact slotmeshref33_Valid.mono _ _
      | exact solve_Add.mono _ _ _ _
      | exact solve_Sum.mono _ _ _
      | exact LeO.none _
      | refine LeO.ite ?_ ?_
      | refine LeO.bind ?_ (fun _ => ?_)
theorem slotmeshlaw33_SolveFollows.mono : ∀ a0 a1 a2 k, LeO (slotmeshlaw33_SolveFollows.f k a0 a1 a2) (slotmeshlaw33_SolveFollows.f (k + 1) a0 a1 a2) := by
  intro a0 a1 a2 k
  obtain ⟨ih0, ih1⟩ := slotmeshlaw33_SolveFollows.mono_l k
  unfold slotmeshlaw33_SolveFollows.f
  repeat' first
      | (with_reducible exact ih0 _ _ _ _ _)
      | (with_reducible exact ih1 _ _ _ _ _ _ _ _)
      | (with_reducible exact slotmeshref33_Bytes.mono _ _ _)
      | (with_reducible exact slotmeshref33_Few.mono _ _)
      | (with_reducible exact slotmeshref33_Valid.mono _ _)
      | (with_reducible exact solve_Add.mono _ _ _ _)
      | (with_reducible exact solve_Sum.mono _ _ _)
      | (with_reducible exact LeO.refl _)
      | (with_reducible exact LeO.none _)
      | (with_reducible refine LeO.ite ?_ ?_)
      | (with_reducible refine LeO.bind ?_ (fun _ => ?_))
      | exact ih0 _ _ _ _ _
      | exact ih1 _ _ _ _ _ _ _ _
      | exact slotmeshref33_Bytes.mono _ _ _
      | exact slotmeshref33_Few.mono _ _
      | exact slotmeshref33_Valid.mono _ _
      | exact solve_Add.mono _ _ _ _
      | exact solve_Sum.mono _ _ _
      | exact LeO.none _
      | refine LeO.ite ?_ ?_
      | refine LeO.bind ?_ (fun _ => ?_)
set_option maxHeartbeats 8000000 in
set_option maxRecDepth 100000 in
theorem slotmeshlaw33_SolveFollows.calls (k : Nat) (A0 : Option Addr) (c0 : Nat) (l0 : List (S25)) (a1_0 : Int) (A1_1 : Option Addr) (c1_1 : Nat) (l1_1 : List Int) (r : Bool) (w : World) (hr0 : Kd.C k25 w A0 l0.length l0) (hc0 : l0.length ≤ c0) (hr1_1 : Kd.C (Kd.int .u8) w A1_1 l1_1.length l1_1) (hc1_1 : l1_1.length ≤ c1_1) (h : slotmeshlaw33_SolveFollows.f k l0 a1_0 l1_1 = some r) :
    Calls Try.prog 7 #[.slice A0 l0.length c0, .agg #[.int .i64 a1_0, .slice A1_1 l1_1.length c1_1]] w fun e w' => e = .returned (.bool r) ∧ Below w.heap.size w w' := by
  have hu25 := Try.underlying25
  have HR0 := Aside0.mk hr0
  have HC0 := Aside0.mk hc0
  clear hr0 hc0
  have HR1_1 := Aside0.mk hr1_1
  have HC1_1 := Aside0.mk hc1_1
  clear hr1_1 hc1_1
  have HB := Aside0.mk (Below.refl w.heap.size w)
  have H : ((slotmeshlaw33_head.f).bind fun t271 => ((slotmeshref33_Few.f k l0).bind fun t272 => (if t272 = true then ((slotmeshref33_Valid.f k l0).bind fun t273 => (if t273 = true then ((slotmeshref33_Formed.f a1_0 l1_1).bind fun t274 => (slotmeshlaw33_SolveFollows.j0 k l0 t271 (!t274) a1_0 l1_1)) else (slotmeshlaw33_SolveFollows.j0 k l0 t271 true a1_0 l1_1))) else (slotmeshlaw33_SolveFollows.j0 k l0 t271 true a1_0 l1_1)))) = some r := h
  clear h
  replace H := Option.bind_eq_some_iff.mp H
  obtain ⟨t271, A30, H⟩ := H
  replace H : ((slotmeshref33_Few.f k l0).bind fun t272 => (if t272 = true then ((slotmeshref33_Valid.f k l0).bind fun t273 => (if t273 = true then ((slotmeshref33_Formed.f a1_0 l1_1).bind fun t274 => (slotmeshlaw33_SolveFollows.j0 k l0 t271 (!t274) a1_0 l1_1)) else (slotmeshlaw33_SolveFollows.j0 k l0 t271 true a1_0 l1_1))) else (slotmeshlaw33_SolveFollows.j0 k l0 t271 true a1_0 l1_1))) = some r := H
  have A3 := Aside0.mk A30
  clear A30
  have HC4 := Aside0.mk H
  clear H
  go_enter Try.func7, Try.ntmps7
  go_upto_region 2 with (first | ((with_reducible refine gate_dst (N := 3) rfl ?_); refine box_event ?hg (N := 3) ?hd (cs := #[.int .i64 a1_0, .slice A1_1 l1_1.length c1_1]) (t := 25) ?hr ?_; (case hd => rfl); (case hg => rfl); (case hr => first | (go_simp; done) | (go_simp; rfl)); intro gb270 hg w5 hbox hb; have n0_ := Aside0.mk (below_step (by repeat (first | (with_reducible first | exact HB.out | apply below_alloc | apply pw_below_drewN | apply below_drew1) | exact HB.out)) hb); have n1_ := Aside0.mk (hbox); have n2_ := Aside0.mk ((by rw [hg]; exact (below_size (by repeat (first | (with_reducible first | exact HB.out | apply below_alloc | apply pw_below_drewN | apply below_drew1) | exact HB.out))) : w.heap.size ≤ gb270)); have n3_ := Aside0.mk ((by rw [hg]; exact (below_size (by repeat (first | (with_reducible first | exact HB.out | apply below_alloc | apply pw_below_drewN | apply below_drew1) | exact HB.out))) : w.heap.size ≤ gb270)); clear HB; have HB := n0_; have BK270 := n1_; have GW270 := n2_; have GE270 := n3_; clear n0_ n1_ n2_ n3_; clear hb hbox hg) | ((with_reducible refine gate_callee (f := 10) rfl ?_); refine goesL_ (some 13) rfl rfl Try.func10 (by kernel_rfl) rfl #[] rfl (by (try simp only [List.map_toArray, List.map_cons, List.map_nil]); first | done | rfl | (simp only [List.length_drop, List.length_take]; rfl)) ?_; (with_reducible refine (slotmeshlaw33_head.calls  t271 _ A3.out).mono ?_); rintro e w6 ⟨rfl, hb⟩; refine ⟨_, rfl, ?_⟩; have n0_ := Aside0.mk (blk_below (g := gb270) (o := .cells #[.int .i64 a1_0, .slice A1_1 l1_1.length c1_1] 25 (0, 0)) (by (with_reducible repeat (first | refine blk_drewN ?_ _ | refine blk_drew ?_ | refine blk_alloc ?_ _)); exact BK270.out) hb); have n1_ := Aside0.mk (below_step (by repeat (first | (with_reducible first | exact HB.out | apply below_alloc | apply pw_below_drewN | apply below_drew1 | refine below_set ?_ GE270.out) | exact HB.out)) hb); clear BK270; clear HB; have BK270 := n0_; have HB := n1_; clear n0_ n1_; (try clear hb); (try clear hb2); (try clear hk); (try clear hi)))
  (try simp only [Act.put, List.setIfInBounds_toArray, List.set_cons_zero, List.set_cons_succ])
  go_cut [26] (fun v26 wc => ∃ (kq : Nat) (x26_3 : Bool), v26 = .bool x26_3 ∧ Aside0 (slotmeshlaw33_SolveFollows.j0 kq l0 t271 x26_3 a1_0 l1_1 = some r) ∧ Aside0 (kq ≤ k) ∧ Aside0 (wc.heap[gb270]? = some (.cells #[.int .i64 a1_0, (.slice A1_1 l1_1.length c1_1)] 25 (0, 0))) ∧ Aside0 (Below w.heap.size w wc))
  case first =>
    have H := HC4.out
    clear HC4
    replace H := Option.bind_eq_some_iff.mp H
    obtain ⟨t272, A70, H⟩ := H
    replace H : (if t272 = true then ((slotmeshref33_Valid.f k l0).bind fun t273 => (if t273 = true then ((slotmeshref33_Formed.f a1_0 l1_1).bind fun t274 => (slotmeshlaw33_SolveFollows.j0 k l0 t271 (!t274) a1_0 l1_1)) else (slotmeshlaw33_SolveFollows.j0 k l0 t271 true a1_0 l1_1))) else (slotmeshlaw33_SolveFollows.j0 k l0 t271 true a1_0 l1_1)) = some r := H
    have A7 := Aside0.mk A70
    clear A70
    by_cases c8 : t272 = true
    · subst c8
      have H1 : ((slotmeshref33_Valid.f k l0).bind fun t273 => (if t273 = true then ((slotmeshref33_Formed.f a1_0 l1_1).bind fun t274 => (slotmeshlaw33_SolveFollows.j0 k l0 t271 (!t274) a1_0 l1_1)) else (slotmeshlaw33_SolveFollows.j0 k l0 t271 true a1_0 l1_1))) = some r := by rw [if_pos rfl] at H; exact H
      clear H
      have H := H1
      clear H1
      replace H := Option.bind_eq_some_iff.mp H
      obtain ⟨t273, A90, H⟩ := H
      replace H : (if t273 = true then ((slotmeshref33_Formed.f a1_0 l1_1).bind fun t274 => (slotmeshlaw33_SolveFollows.j0 k l0 t271 (!t274) a1_0 l1_1)) else (slotmeshlaw33_SolveFollows.j0 k l0 t271 true a1_0 l1_1)) = some r := H
      have A9 := Aside0.mk A90
      clear A90
      by_cases c10 : t273 = true
      · subst c10
        have H1 : ((slotmeshref33_Formed.f a1_0 l1_1).bind fun t274 => (slotmeshlaw33_SolveFollows.j0 k l0 t271 (!t274) a1_0 l1_1)) = some r := by rw [if_pos rfl] at H; exact H
        clear H
        have H := H1
        clear H1
        replace H := Option.bind_eq_some_iff.mp H
        obtain ⟨t274, A110, H⟩ := H
        replace H : (slotmeshlaw33_SolveFollows.j0 k l0 t271 (!t274) a1_0 l1_1) = some r := H
        have A11 := Aside0.mk A110
        clear A110
        have H' := Aside0.mk H
        clear H
        go_wp2_with (first | ((with_reducible refine gate_callee (f := 11) rfl ?_); refine goesL_ (some 15) rfl rfl Try.func11 (by kernel_rfl) rfl #[.slice A0 l0.length c0] rfl (by (try simp only [List.map_toArray, List.map_cons, List.map_nil]); first | done | rfl | (simp only [List.length_drop, List.length_take]; rfl)) ?_; (with_reducible refine (slotmeshref33_Few.calls k _ _ l0 true _ ?side1 ?side2 A7.out).mono ?_); (case side1 => repeat (first | exact (Kd.C_below HR0.out HB.out) | (with_reducible refine Kd.C_alloc ?_ _) | (with_reducible refine Kd.C_drewN ?_ _) | (with_reducible refine Kd.C_drew ?_))); (case side2 => exact HC0.out); rintro e w' ⟨rfl, ⟨nd, rfl⟩⟩; refine ⟨_, rfl, ?_⟩) | (go_at_call 21; (with_reducible refine (slotmeshref33_Valid.calls k _ _ l0 true _ ?side1 ?side2 A9.out).mono ?_); (case side1 => repeat (first | exact (Kd.C_below HR0.out (by repeat (first | (with_reducible first | exact HB.out | apply below_alloc | apply pw_below_drewN | apply below_drew1 | refine below_set ?_ GE270.out) | exact HB.out))) | (with_reducible refine Kd.C_alloc ?_ _) | (with_reducible refine Kd.C_drewN ?_ _) | (with_reducible refine Kd.C_drew ?_))); (case side2 => exact HC0.out); rintro e w12 ⟨rfl, hb⟩; have n0_ := Aside0.mk (blk_below (g := gb270) (o := .cells #[.int .i64 a1_0, .slice A1_1 l1_1.length c1_1] 25 (0, 0)) (by (with_reducible repeat (first | refine blk_drewN ?_ _ | refine blk_drew ?_ | refine blk_alloc ?_ _)); exact BK270.out) hb); have n1_ := Aside0.mk (below_step (by repeat (first | (with_reducible first | exact HB.out | apply below_alloc | apply pw_below_drewN | apply below_drew1 | refine below_set ?_ GE270.out) | exact HB.out)) hb); clear BK270; clear HB; have BK270 := n0_; have HB := n1_; clear n0_ n1_; (try clear hb); (try clear hb2); (try clear hk); (try clear hi); have hcz13_0 : w12.cell? ⟨gb270, 0, none⟩ = some (.int .i64 a1_0) := (blk_cell BK270.out 0).trans rfl; have hcz13_1 : w12.cell? ⟨gb270, 1, none⟩ = some (.slice A1_1 l1_1.length c1_1) := (blk_cell BK270.out 1).trans rfl; have hfz13_0 := blk_frozen BK270.out 0; have hfz13_1 := blk_frozen BK270.out 1) | (go_at_call 24; (with_reducible refine (slotmeshref33_Formed.calls a1_0 _ _ l1_1 t274 _ ?side1 ?side2 A11.out).mono ?_); (case side1 => repeat (first | exact (Kd.C_below HR1_1.out HB.out) | (with_reducible refine Kd.C_alloc ?_ _) | (with_reducible refine Kd.C_drewN ?_ _) | (with_reducible refine Kd.C_drew ?_))); (case side2 => exact HC1_1.out); rintro e w14 ⟨rfl, hb⟩; have n0_ := Aside0.mk (blk_below (g := gb270) (o := .cells #[.int .i64 a1_0, .slice A1_1 l1_1.length c1_1] 25 (0, 0)) (by (with_reducible repeat (first | refine blk_drewN ?_ _ | refine blk_drew ?_ | refine blk_alloc ?_ _)); exact BK270.out) hb); have n1_ := Aside0.mk (below_step (by repeat (first | (with_reducible first | exact HB.out | apply below_alloc | apply pw_below_drewN | apply below_drew1 | refine below_set ?_ GE270.out) | exact HB.out)) hb); clear BK270; clear HB; have BK270 := n0_; have HB := n1_; clear n0_ n1_; (try clear hb); (try clear hb2); (try clear hk); (try clear hi)))
        go_meet
        case rel => exact ⟨_, (!t274), (by first | rfl | (simp; done) | (simp [*]; done)), H', ⟨by first | omega | exact Nat.le_refl _⟩, ⟨by (with_reducible repeat (first | refine blk_drewN ?_ _ | refine blk_drew ?_ | refine blk_alloc ?_ _)); exact BK270.out⟩, ⟨by repeat (first | (with_reducible first | exact HB.out | apply below_alloc | apply pw_below_drewN | apply below_drew1 | refine below_set ?_ GE270.out) | exact HB.out)⟩⟩
      · replace c10 := Bool.eq_false_iff.mpr c10
        subst c10
        have H1 : (slotmeshlaw33_SolveFollows.j0 k l0 t271 true a1_0 l1_1) = some r := by rw [if_neg (show ¬ (false = true) by decide)] at H; exact H
        clear H
        have H := H1
        clear H1
        have H' := Aside0.mk H
        clear H
        go_wp2_with (first | ((with_reducible refine gate_callee (f := 11) rfl ?_); refine goesL_ (some 15) rfl rfl Try.func11 (by kernel_rfl) rfl #[.slice A0 l0.length c0] rfl (by (try simp only [List.map_toArray, List.map_cons, List.map_nil]); first | done | rfl | (simp only [List.length_drop, List.length_take]; rfl)) ?_; (with_reducible refine (slotmeshref33_Few.calls k _ _ l0 true _ ?side1 ?side2 A7.out).mono ?_); (case side1 => repeat (first | exact (Kd.C_below HR0.out HB.out) | (with_reducible refine Kd.C_alloc ?_ _) | (with_reducible refine Kd.C_drewN ?_ _) | (with_reducible refine Kd.C_drew ?_))); (case side2 => exact HC0.out); rintro e w' ⟨rfl, ⟨nd, rfl⟩⟩; refine ⟨_, rfl, ?_⟩) | (go_at_call 21; (with_reducible refine (slotmeshref33_Valid.calls k _ _ l0 false _ ?side1 ?side2 A9.out).mono ?_); (case side1 => repeat (first | exact (Kd.C_below HR0.out (by repeat (first | (with_reducible first | exact HB.out | apply below_alloc | apply pw_below_drewN | apply below_drew1 | refine below_set ?_ GE270.out) | exact HB.out))) | (with_reducible refine Kd.C_alloc ?_ _) | (with_reducible refine Kd.C_drewN ?_ _) | (with_reducible refine Kd.C_drew ?_))); (case side2 => exact HC0.out); rintro e w15 ⟨rfl, hb⟩; have n0_ := Aside0.mk (blk_below (g := gb270) (o := .cells #[.int .i64 a1_0, .slice A1_1 l1_1.length c1_1] 25 (0, 0)) (by (with_reducible repeat (first | refine blk_drewN ?_ _ | refine blk_drew ?_ | refine blk_alloc ?_ _)); exact BK270.out) hb); have n1_ := Aside0.mk (below_step (by repeat (first | (with_reducible first | exact HB.out | apply below_alloc | apply pw_below_drewN | apply below_drew1 | refine below_set ?_ GE270.out) | exact HB.out)) hb); clear BK270; clear HB; have BK270 := n0_; have HB := n1_; clear n0_ n1_; (try clear hb); (try clear hb2); (try clear hk); (try clear hi)))
        go_meet
        case rel => exact ⟨_, (true), (by first | rfl | (simp; done) | (simp [*]; done)), H', ⟨by first | omega | exact Nat.le_refl _⟩, ⟨by (with_reducible repeat (first | refine blk_drewN ?_ _ | refine blk_drew ?_ | refine blk_alloc ?_ _)); exact BK270.out⟩, ⟨by repeat (first | (with_reducible first | exact HB.out | apply below_alloc | apply pw_below_drewN | apply below_drew1 | refine below_set ?_ GE270.out) | exact HB.out)⟩⟩
    · replace c8 := Bool.eq_false_iff.mpr c8
      subst c8
      have H1 : (slotmeshlaw33_SolveFollows.j0 k l0 t271 true a1_0 l1_1) = some r := by rw [if_neg (show ¬ (false = true) by decide)] at H; exact H
      clear H
      have H := H1
      clear H1
      have H' := Aside0.mk H
      clear H
      go_wp2_with (first | ((with_reducible refine gate_callee (f := 11) rfl ?_); refine goesL_ (some 15) rfl rfl Try.func11 (by kernel_rfl) rfl #[.slice A0 l0.length c0] rfl (by (try simp only [List.map_toArray, List.map_cons, List.map_nil]); first | done | rfl | (simp only [List.length_drop, List.length_take]; rfl)) ?_; (with_reducible refine (slotmeshref33_Few.calls k _ _ l0 false _ ?side1 ?side2 A7.out).mono ?_); (case side1 => repeat (first | exact (Kd.C_below HR0.out HB.out) | (with_reducible refine Kd.C_alloc ?_ _) | (with_reducible refine Kd.C_drewN ?_ _) | (with_reducible refine Kd.C_drew ?_))); (case side2 => exact HC0.out); rintro e w' ⟨rfl, ⟨nd, rfl⟩⟩; refine ⟨_, rfl, ?_⟩))
      go_meet
      case rel => exact ⟨_, (true), (by first | rfl | (simp; done) | (simp [*]; done)), H', ⟨by first | omega | exact Nat.le_refl _⟩, ⟨by (with_reducible repeat (first | refine blk_drewN ?_ _ | refine blk_drew ?_ | refine blk_alloc ?_ _)); exact BK270.out⟩, ⟨by repeat (first | (with_reducible first | exact HB.out | apply below_alloc | apply pw_below_drewN | apply below_drew1 | refine below_set ?_ GE270.out) | exact HB.out)⟩⟩
  case rest =>
    clear HC4
    try clear c1
    try clear p2
    try clear c7
    try clear c8
    try clear c10
    try clear c11
    try clear hcz13_0
    try clear hcz13_1
    try clear hfz13_0
    try clear hfz13_1
    obtain ⟨kq, x26_3, rfl, HA, HJ3, BK270, HB⟩ := hcut
    cases kq with
    | zero => exact absurd HA.out (by simp [slotmeshlaw33_SolveFollows.j0])
    | succ kj3 =>
      have H := HA.out
      clear HA
      simp only [slotmeshlaw33_SolveFollows.j0] at H
      by_cases c16 : x26_3 = true
      · subst c16
        have H1 : (some t271) = some r := by rw [if_pos rfl] at H; exact H
        clear H
        have H := H1
        clear H1
        obtain rfl := Option.some.inj H
        go_wp2
        go_ret
        exact ⟨by first | rfl | (simp [errW_none, errW_some] <;> rfl) | (simp [*, errW_none, errW_some] <;> rfl), by repeat (first | (with_reducible first | exact HB.out | apply below_alloc | apply pw_below_drewN | apply below_drew1 | refine below_set ?_ GE270.out) | exact HB.out)⟩
      · replace c16 := Bool.eq_false_iff.mpr c16
        subst c16
        have H1 : ((solve_Sum.f kj3 l0 a1_0).bind fun bt275 => ((solve_Add.f kj3 l0 a1_0 l1_1).bind fun bt279 => (if bt275.2 = true then ((slotmeshref33_Bytes.f kj3 bt275.1 l1_1).bind fun t284 => (slotmeshlaw33_SolveFollows.j1 kj3 t271 bt275.2 bt279.1 bt279.2.1 bt279.2.2 (!t284) a1_0 l1_1)) else (slotmeshlaw33_SolveFollows.j1 kj3 t271 bt275.2 bt279.1 bt279.2.1 bt279.2.2 false a1_0 l1_1)))) = some r := by rw [if_neg (show ¬ (false = true) by decide)] at H; exact H
        clear H
        have H := H1
        clear H1
        replace H := Option.bind_eq_some_iff.mp H
        obtain ⟨⟨t275, t278⟩, A170, H⟩ := H
        replace H : ((solve_Add.f kj3 l0 a1_0 l1_1).bind fun bt279 => (if t278 = true then ((slotmeshref33_Bytes.f kj3 t275 l1_1).bind fun t284 => (slotmeshlaw33_SolveFollows.j1 kj3 t271 t278 bt279.1 bt279.2.1 bt279.2.2 (!t284) a1_0 l1_1)) else (slotmeshlaw33_SolveFollows.j1 kj3 t271 t278 bt279.1 bt279.2.1 bt279.2.2 false a1_0 l1_1))) = some r := H
        have A17 := Aside0.mk A170
        clear A170
        replace H := Option.bind_eq_some_iff.mp H
        obtain ⟨⟨t279, t282, t283⟩, A180, H⟩ := H
        replace H : (if t278 = true then ((slotmeshref33_Bytes.f kj3 t275 l1_1).bind fun t284 => (slotmeshlaw33_SolveFollows.j1 kj3 t271 t278 t279 t282 t283 (!t284) a1_0 l1_1)) else (slotmeshlaw33_SolveFollows.j1 kj3 t271 t278 t279 t282 t283 false a1_0 l1_1)) = some r := H
        have A18 := Aside0.mk A180
        clear A180
        have HC19 := Aside0.mk H
        clear H
        have hcz20_0 : wc.cell? ⟨gb270, 0, none⟩ = some (.int .i64 a1_0) := (blk_cell BK270.out 0).trans rfl
        have hcz20_1 : wc.cell? ⟨gb270, 1, none⟩ = some (.slice A1_1 l1_1.length c1_1) := (blk_cell BK270.out 1).trans rfl
        have hfz20_0 := blk_frozen BK270.out 0
        have hfz20_1 := blk_frozen BK270.out 1
        go_upto_region 6 with (first | ((with_reducible refine gate_callee (f := 16) rfl ?_); refine goesL_ (some 32) rfl rfl Try.func16 (by kernel_rfl) rfl #[.slice A0 l0.length c0, .int .i64 a1_0] rfl (by (try simp only [List.map_toArray, List.map_cons, List.map_nil]); first | done | rfl | (simp only [List.length_drop, List.length_take]; rfl)) ?_; (with_reducible refine (solve_Sum.calls kj3 _ _ l0 a1_0 t275 t278 _ ?side1 ?side2 A17.out).mono ?_); (case side1 => repeat (first | exact (Kd.C_below HR0.out HB.out) | (with_reducible refine Kd.C_alloc ?_ _) | (with_reducible refine Kd.C_drewN ?_ _) | (with_reducible refine Kd.C_drew ?_))); (case side2 => exact HC0.out); rintro e w21 ⟨v276, rfl, ho0, hb⟩; refine ⟨_, rfl, ?_⟩; have n0_ := Aside0.mk (Kd.V_lower (Kd.V_mono (ok' := fun k_ => k_ ≠ gb270) ho0 (fun k_ hk_ => (Kd.freshB (g := gb270) (o := .cells #[.int .i64 a1_0, .slice A1_1 l1_1.length c1_1] 25 (0, 0)) (by (with_reducible repeat (first | refine blk_drewN ?_ _ | refine blk_drew ?_ | refine blk_alloc ?_ _)); exact BK270.out) k_ hk_))) (below_size (by repeat (first | (with_reducible first | exact HB.out | apply below_alloc | apply pw_below_drewN | apply below_drew1 | refine below_set ?_ GE270.out) | exact HB.out)))); have n1_ := Aside0.mk (blk_below (g := gb270) (o := .cells #[.int .i64 a1_0, .slice A1_1 l1_1.length c1_1] 25 (0, 0)) (by (with_reducible repeat (first | refine blk_drewN ?_ _ | refine blk_drew ?_ | refine blk_alloc ?_ _)); exact BK270.out) hb); have n2_ := Aside0.mk (below_step (by repeat (first | (with_reducible first | exact HB.out | apply below_alloc | apply pw_below_drewN | apply below_drew1 | refine below_set ?_ GE270.out) | exact HB.out)) hb); clear BK270; clear HB; have HO277 := n0_; have BK270 := n1_; have HB := n2_; clear n0_ n1_ n2_; (try clear hb); (try clear hb2); (try clear hk); (try clear hi); (try clear ho0); have hcz22_0 : w21.cell? ⟨gb270, 0, none⟩ = some (.int .i64 a1_0) := (blk_cell BK270.out 0).trans rfl; have hcz22_1 : w21.cell? ⟨gb270, 1, none⟩ = some (.slice A1_1 l1_1.length c1_1) := (blk_cell BK270.out 1).trans rfl; have hfz22_0 := blk_frozen BK270.out 0; have hfz22_1 := blk_frozen BK270.out 1) | ((with_reducible refine gate_callee (f := 12) rfl ?_); refine goesL_ (some 38) rfl rfl Try.func12 (by kernel_rfl) rfl #[.slice A0 l0.length c0, .agg #[.int .i64 a1_0, .slice A1_1 l1_1.length c1_1]] rfl (by (try simp only [List.map_toArray, List.map_cons, List.map_nil]); first | done | rfl | (simp only [List.length_drop, List.length_take]; rfl)) ?_; (with_reducible refine (solve_Add.calls kj3 _ _ l0 a1_0 _ _ l1_1 t279 t282 t283 _ ?side1 ?side2 ?side3 ?side4 A18.out).mono ?_); (case side1 => repeat (first | exact (Kd.C_below HR0.out HB.out) | (with_reducible refine Kd.C_alloc ?_ _) | (with_reducible refine Kd.C_drewN ?_ _) | (with_reducible refine Kd.C_drew ?_))); (case side2 => exact HC0.out); (case side3 => repeat (first | exact (Kd.C_below HR1_1.out HB.out) | (with_reducible refine Kd.C_alloc ?_ _) | (with_reducible refine Kd.C_drewN ?_ _) | (with_reducible refine Kd.C_drew ?_))); (case side4 => exact HC1_1.out); rintro e w23 ⟨v280, rfl, ho0, hb⟩; refine ⟨_, rfl, ?_⟩; have n0_ := Aside0.mk (Kd.V_elder' (by (with_reducible repeat (first | apply Kd.V_alloc | apply Kd.V_drewN | apply Kd.V_drew)); exact HO277.out) (Kd.S_base ho0) hb); have n1_ := Aside0.mk (Kd.S_lower (Kd.S_newB ho0 (g := gb270) (o := .cells #[.int .i64 a1_0, .slice A1_1 l1_1.length c1_1] 25 (0, 0)) (by (with_reducible repeat (first | refine blk_drewN ?_ _ | refine blk_drew ?_ | refine blk_alloc ?_ _)); exact BK270.out)) (below_size (by repeat (first | (with_reducible first | exact HB.out | apply below_alloc | apply pw_below_drewN | apply below_drew1 | refine below_set ?_ GE270.out) | exact HB.out)))); have n2_ := Aside0.mk (blk_below (g := gb270) (o := .cells #[.int .i64 a1_0, .slice A1_1 l1_1.length c1_1] 25 (0, 0)) (by (with_reducible repeat (first | refine blk_drewN ?_ _ | refine blk_drew ?_ | refine blk_alloc ?_ _)); exact BK270.out) hb); have n3_ := Aside0.mk (below_step (by repeat (first | (with_reducible first | exact HB.out | apply below_alloc | apply pw_below_drewN | apply below_drew1 | refine below_set ?_ GE270.out) | exact HB.out)) hb); clear HO277; clear BK270; clear HB; have HO277 := n0_; have HO281 := n1_; have BK270 := n2_; have HB := n3_; clear n0_ n1_ n2_ n3_; (try clear hb); (try clear hb2); (try clear hk); (try clear hi); (try clear ho0)))
        (try simp only [Act.put, List.setIfInBounds_toArray, List.set_cons_zero, List.set_cons_succ])
        go_cut [49] (fun v49 wc => ∃ (kq : Nat) (x49_18 : Bool), v49 = .bool x49_18 ∧ Aside0 (slotmeshlaw33_SolveFollows.j1 kq t271 t278 t279 t282 t283 x49_18 a1_0 l1_1 = some r) ∧ Aside0 (kq ≤ kj3) ∧ Aside0 (Kd.S k25 25 wc w.heap.size (fun k_ => k_ ≠ gb270) v280 t279) ∧ Aside0 (wc.heap[gb270]? = some (.cells #[.int .i64 a1_0, (.slice A1_1 l1_1.length c1_1)] 25 (0, 0))) ∧ Aside0 (Below w.heap.size w wc))
        case first =>
          have H := HC19.out
          clear HC19
          by_cases c24 : t278 = true
          · subst c24
            have H1 : ((slotmeshref33_Bytes.f kj3 t275 l1_1).bind fun t284 => (slotmeshlaw33_SolveFollows.j1 kj3 t271 true t279 t282 t283 (!t284) a1_0 l1_1)) = some r := by rw [if_pos rfl] at H; exact H
            clear H
            have H := H1
            clear H1
            replace H := Option.bind_eq_some_iff.mp H
            obtain ⟨t284, A250, H⟩ := H
            replace H : (slotmeshlaw33_SolveFollows.j1 kj3 t271 true t279 t282 t283 (!t284) a1_0 l1_1) = some r := H
            have A25 := Aside0.mk A250
            clear A250
            have H' := Aside0.mk H
            clear H
            have hcz26_0 : w23.cell? ⟨gb270, 0, none⟩ = some (.int .i64 a1_0) := (blk_cell BK270.out 0).trans rfl
            have hcz26_1 : w23.cell? ⟨gb270, 1, none⟩ = some (.slice A1_1 l1_1.length c1_1) := (blk_cell BK270.out 1).trans rfl
            have hfz26_0 := blk_frozen BK270.out 0
            have hfz26_1 := blk_frozen BK270.out 1
            obtain ⟨Ao27, co27, eo27⟩ := Kd.V_slice HO277.out
            subst eo27
            go_wp2_with (first | (go_at_call 19; (with_reducible refine (slotmeshref33_Bytes.calls kj3 _ _ t275 _ _ l1_1 t284 _ ?side1 ?side2 ?side3 ?side4 A25.out).mono ?_); (case side1 => repeat (first | exact (Kd.V_reads' HO277.out).2.2 | (with_reducible refine Kd.C_alloc ?_ _) | (with_reducible refine Kd.C_drewN ?_ _) | (with_reducible refine Kd.C_drew ?_))); (case side2 => exact (Kd.V_reads' HO277.out).2.1); (case side3 => repeat (first | exact (Kd.C_below HR1_1.out HB.out) | (with_reducible refine Kd.C_alloc ?_ _) | (with_reducible refine Kd.C_drewN ?_ _) | (with_reducible refine Kd.C_drew ?_))); (case side4 => exact HC1_1.out); rintro e w' ⟨rfl, ⟨nd, rfl⟩⟩))
            go_meet
            case rel => exact ⟨_, (!t284), (by first | rfl | (simp; done) | (simp [*]; done)), H', ⟨by have := HJ3.out; first | omega | exact Nat.le_refl _⟩, ⟨by (with_reducible repeat (first | apply Kd.S_alloc | apply Kd.S_drewN | apply Kd.S_drew)); exact Kd.S_mono HO281.out (fun _ hk => hk.2)⟩, ⟨by (with_reducible repeat (first | refine blk_drewN ?_ _ | refine blk_drew ?_ | refine blk_alloc ?_ _)); exact BK270.out⟩, ⟨by repeat (first | (with_reducible first | exact HB.out | apply below_alloc | apply pw_below_drewN | apply below_drew1 | refine below_set ?_ GE270.out) | exact HB.out)⟩⟩
          · replace c24 := Bool.eq_false_iff.mpr c24
            subst c24
            have H1 : (slotmeshlaw33_SolveFollows.j1 kj3 t271 false t279 t282 t283 false a1_0 l1_1) = some r := by rw [if_neg (show ¬ (false = true) by decide)] at H; exact H
            clear H
            have H := H1
            clear H1
            have H' := Aside0.mk H
            clear H
            go_wp2
            go_meet
            case rel => exact ⟨_, (false), (by first | rfl | (simp; done) | (simp [*]; done)), H', ⟨by have := HJ3.out; first | omega | exact Nat.le_refl _⟩, ⟨by (with_reducible repeat (first | apply Kd.S_alloc | apply Kd.S_drewN | apply Kd.S_drew)); exact Kd.S_mono HO281.out (fun _ hk => hk.2)⟩, ⟨by (with_reducible repeat (first | refine blk_drewN ?_ _ | refine blk_drew ?_ | refine blk_alloc ?_ _)); exact BK270.out⟩, ⟨by repeat (first | (with_reducible first | exact HB.out | apply below_alloc | apply pw_below_drewN | apply below_drew1 | refine below_set ?_ GE270.out) | exact HB.out)⟩⟩
        case rest =>
          clear HC19
          try clear c1
          try clear c2
          try clear p2
          try clear c7
          try clear c8
          try clear c10
          try clear c11
          try clear c12
          try clear c16
          try clear c24
          try clear hcz13_0
          try clear hcz13_1
          try clear hcz20_0
          try clear hcz20_1
          try clear hcz22_0
          try clear hcz22_1
          try clear hcz26_0
          try clear hcz26_1
          try clear hfz13_0
          try clear hfz13_1
          try clear hfz20_0
          try clear hfz20_1
          try clear hfz22_0
          try clear hfz22_1
          try clear hfz26_0
          try clear hfz26_1
          try clear p2
          obtain ⟨kq, x49_18, rfl, HA, HJ18, HO_8, BK270, HB⟩ := hcut
          cases kq with
          | zero => exact absurd HA.out (by simp [slotmeshlaw33_SolveFollows.j1])
          | succ kj18 =>
            have H := HA.out
            clear HA
            simp only [slotmeshlaw33_SolveFollows.j1] at H
            by_cases c28 : x49_18 = true
            · subst c28
              have H1 : (if t271 = true then (some (t283 == 12)) else (some false)) = some r := by rw [if_pos rfl] at H; exact H
              clear H
              have H := H1
              clear H1
              by_cases c29 : t271 = true
              · subst c29
                have H1 : (some (t283 == 12)) = some r := by rw [if_pos rfl] at H; exact H
                clear H
                have H := H1
                clear H1
                obtain rfl := Option.some.inj H
                go_wp2
                go_ret
                exact ⟨by first | rfl | (simp [errW_none, errW_some] <;> rfl) | (simp [*, errW_none, errW_some] <;> rfl), by repeat (first | (with_reducible first | exact HB.out | apply below_alloc | apply pw_below_drewN | apply below_drew1 | refine below_set ?_ GE270.out) | exact HB.out)⟩
              · replace c29 := Bool.eq_false_iff.mpr c29
                subst c29
                have H1 : (some false) = some r := by rw [if_neg (show ¬ (false = true) by decide)] at H; exact H
                clear H
                have H := H1
                clear H1
                obtain rfl := Option.some.inj H
                go_wp2
                go_ret
                exact ⟨by first | rfl | (simp [errW_none, errW_some] <;> rfl) | (simp [*, errW_none, errW_some] <;> rfl), by repeat (first | (with_reducible first | exact HB.out | apply below_alloc | apply pw_below_drewN | apply below_drew1 | refine below_set ?_ GE270.out) | exact HB.out)⟩
            · replace c28 := Bool.eq_false_iff.mpr c28
              subst c28
              have H1 : ((solve_Sum.f kj18 t279 a1_0).bind fun bt285 => (if t271 = true then (if t283 = 0 then (if (t282 == (!t278)) = true then (if bt285.2 = true then ((slotmeshref33_Bytes.f kj18 bt285.1 l1_1).bind fun t289 => (some t289)) else (some false)) else (some false)) else (some false)) else (some false))) = some r := by rw [if_neg (show ¬ (false = true) by decide)] at H; exact H
              clear H
              have H := H1
              clear H1
              replace H := Option.bind_eq_some_iff.mp H
              obtain ⟨⟨t285, t288⟩, A300, H⟩ := H
              replace H : (if t271 = true then (if t283 = 0 then (if (t282 == (!t278)) = true then (if t288 = true then ((slotmeshref33_Bytes.f kj18 t285 l1_1).bind fun t289 => (some t289)) else (some false)) else (some false)) else (some false)) else (some false)) = some r := H
              have A30 := Aside0.mk A300
              clear A300
              by_cases c31 : t271 = true
              · subst c31
                have H1 : (if t283 = 0 then (if (t282 == (!t278)) = true then (if t288 = true then ((slotmeshref33_Bytes.f kj18 t285 l1_1).bind fun t289 => (some t289)) else (some false)) else (some false)) else (some false)) = some r := by rw [if_pos rfl] at H; exact H
                clear H
                have H := H1
                clear H1
                by_cases c32 : t283 = 0
                · rw [if_pos c32] at H
                  have c32b0 : (t283 == 0) = true := beq_iff_eq.mpr c32
                  have c32b1 : (t283 != 0) = false := bne_eq_false_iff_eq.mpr c32
                  clear c32
                  by_cases c33 : (t282 == (!t278)) = true
                  · rw [if_pos c33] at H
                    have c33b0 : (t282 == (!t278)) = true := c33
                    (try (have c33b1 : decide (t282 = (!t278)) = true := by simpa using c33))
                    (try (have c33b2 : (t282 == (!t278)) = true := by simpa using c33))
                    clear c33
                    by_cases c34 : t288 = true
                    · subst c34
                      have H1 : ((slotmeshref33_Bytes.f kj18 t285 l1_1).bind fun t289 => (some t289)) = some r := by rw [if_pos rfl] at H; exact H
                      clear H
                      have H := H1
                      clear H1
                      replace H := Option.bind_eq_some_iff.mp H
                      obtain ⟨t289, A350, H⟩ := H
                      replace H : (some t289) = some r := H
                      have A35 := Aside0.mk A350
                      clear A350
                      obtain rfl := Option.some.inj H
                      have hcz36_0 : wc.cell? ⟨gb270, 0, none⟩ = some (.int .i64 a1_0) := (blk_cell BK270.out 0).trans rfl
                      have hcz36_1 : wc.cell? ⟨gb270, 1, none⟩ = some (.slice A1_1 l1_1.length c1_1) := (blk_cell BK270.out 1).trans rfl
                      have hfz36_0 := blk_frozen BK270.out 0
                      have hfz36_1 := blk_frozen BK270.out 1
                      obtain ⟨Ao37, co37, eo37⟩ := Kd.S_slice HO_8.out
                      subst eo37
                      go_wp2_with (first | ((with_reducible refine gate_callee (f := 16) rfl ?_); refine goesL_ (some 59) rfl rfl Try.func16 (by kernel_rfl) rfl #[.slice Ao37 t279.length co37, .int .i64 a1_0] rfl (by (try simp only [List.map_toArray, List.map_cons, List.map_nil]); first | done | rfl | (simp only [List.length_drop, List.length_take]; rfl)) ?_; (with_reducible refine (solve_Sum.calls kj18 _ _ t279 a1_0 t285 true _ ?side1 ?side2 A30.out).mono ?_); (case side1 => repeat (first | exact (Kd.S_reads' HO_8.out).2.2 | (with_reducible refine Kd.C_alloc ?_ _) | (with_reducible refine Kd.C_drewN ?_ _) | (with_reducible refine Kd.C_drew ?_))); (case side2 => exact (Kd.S_reads' HO_8.out).2.1); rintro e w38 ⟨v286, rfl, ho0, hb⟩; refine ⟨_, rfl, ?_⟩; have n0_ := Aside0.mk (Kd.S_below (by (with_reducible repeat (first | apply Kd.S_alloc | apply Kd.S_drewN | apply Kd.S_drew)); exact HO_8.out) hb); have n1_ := Aside0.mk (Kd.V_lower (Kd.V_mono (ok' := fun k_ => some k_ ≠ (.slice Ao37 t279.length co37 : Value).ownBlock ∧ k_ ≠ gb270) ho0 (fun k_ hk_ => ⟨(Kd.fresh' (Kd.S_lt (by (with_reducible repeat (first | apply Kd.S_alloc | apply Kd.S_drewN | apply Kd.S_drew)); exact HO_8.out)) k_ hk_), (Kd.freshB (g := gb270) (o := .cells #[.int .i64 a1_0, .slice A1_1 l1_1.length c1_1] 25 (0, 0)) (by (with_reducible repeat (first | refine blk_drewN ?_ _ | refine blk_drew ?_ | refine blk_alloc ?_ _)); exact BK270.out) k_ hk_)⟩)) (below_size (by repeat (first | (with_reducible first | exact HB.out | apply below_alloc | apply pw_below_drewN | apply below_drew1 | refine below_set ?_ GE270.out) | exact HB.out)))); have n2_ := Aside0.mk (blk_below (g := gb270) (o := .cells #[.int .i64 a1_0, .slice A1_1 l1_1.length c1_1] 25 (0, 0)) (by (with_reducible repeat (first | refine blk_drewN ?_ _ | refine blk_drew ?_ | refine blk_alloc ?_ _)); exact BK270.out) hb); have n3_ := Aside0.mk (below_step (by repeat (first | (with_reducible first | exact HB.out | apply below_alloc | apply pw_below_drewN | apply below_drew1 | refine below_set ?_ GE270.out) | exact HB.out)) hb); clear HO_8; clear BK270; clear HB; have HO_8 := n0_; have HO287 := n1_; have BK270 := n2_; have HB := n3_; clear n0_ n1_ n2_ n3_; (try clear hb); (try clear hb2); (try clear hk); (try clear hi); (try clear ho0); have hcz39_0 : w38.cell? ⟨gb270, 0, none⟩ = some (.int .i64 a1_0) := (blk_cell BK270.out 0).trans rfl; have hcz39_1 : w38.cell? ⟨gb270, 1, none⟩ = some (.slice A1_1 l1_1.length c1_1) := (blk_cell BK270.out 1).trans rfl; have hfz39_0 := blk_frozen BK270.out 0; have hfz39_1 := blk_frozen BK270.out 1; obtain ⟨Ao40, co40, eo40⟩ := Kd.V_slice HO287.out; subst eo40) | (go_at_call 19; (with_reducible refine (slotmeshref33_Bytes.calls kj18 _ _ t285 _ _ l1_1 t289 _ ?side1 ?side2 ?side3 ?side4 A35.out).mono ?_); (case side1 => repeat (first | exact (Kd.V_reads' HO287.out).2.2 | (with_reducible refine Kd.C_alloc ?_ _) | (with_reducible refine Kd.C_drewN ?_ _) | (with_reducible refine Kd.C_drew ?_))); (case side2 => exact (Kd.V_reads' HO287.out).2.1); (case side3 => repeat (first | exact (Kd.C_below HR1_1.out HB.out) | (with_reducible refine Kd.C_alloc ?_ _) | (with_reducible refine Kd.C_drewN ?_ _) | (with_reducible refine Kd.C_drew ?_))); (case side4 => exact HC1_1.out); rintro e w' ⟨rfl, ⟨nd, rfl⟩⟩))
                      go_ret
                      exact ⟨by first | rfl | (simp [errW_none, errW_some] <;> rfl) | (simp [*, errW_none, errW_some] <;> rfl), by repeat (first | (with_reducible first | exact HB.out | apply below_alloc | apply pw_below_drewN | apply below_drew1 | refine below_set ?_ GE270.out) | exact HB.out)⟩
                    · replace c34 := Bool.eq_false_iff.mpr c34
                      subst c34
                      have H1 : (some false) = some r := by rw [if_neg (show ¬ (false = true) by decide)] at H; exact H
                      clear H
                      have H := H1
                      clear H1
                      obtain rfl := Option.some.inj H
                      have hcz41_0 : wc.cell? ⟨gb270, 0, none⟩ = some (.int .i64 a1_0) := (blk_cell BK270.out 0).trans rfl
                      have hcz41_1 : wc.cell? ⟨gb270, 1, none⟩ = some (.slice A1_1 l1_1.length c1_1) := (blk_cell BK270.out 1).trans rfl
                      have hfz41_0 := blk_frozen BK270.out 0
                      have hfz41_1 := blk_frozen BK270.out 1
                      obtain ⟨Ao42, co42, eo42⟩ := Kd.S_slice HO_8.out
                      subst eo42
                      go_wp2_with (first | ((with_reducible refine gate_callee (f := 16) rfl ?_); refine goesL_ (some 59) rfl rfl Try.func16 (by kernel_rfl) rfl #[.slice Ao42 t279.length co42, .int .i64 a1_0] rfl (by (try simp only [List.map_toArray, List.map_cons, List.map_nil]); first | done | rfl | (simp only [List.length_drop, List.length_take]; rfl)) ?_; (with_reducible refine (solve_Sum.calls kj18 _ _ t279 a1_0 t285 false _ ?side1 ?side2 A30.out).mono ?_); (case side1 => repeat (first | exact (Kd.S_reads' HO_8.out).2.2 | (with_reducible refine Kd.C_alloc ?_ _) | (with_reducible refine Kd.C_drewN ?_ _) | (with_reducible refine Kd.C_drew ?_))); (case side2 => exact (Kd.S_reads' HO_8.out).2.1); rintro e w43 ⟨v286, rfl, ho0, hb⟩; refine ⟨_, rfl, ?_⟩; have n0_ := Aside0.mk (Kd.S_below (by (with_reducible repeat (first | apply Kd.S_alloc | apply Kd.S_drewN | apply Kd.S_drew)); exact HO_8.out) hb); have n1_ := Aside0.mk (Kd.V_lower (Kd.V_mono (ok' := fun k_ => some k_ ≠ (.slice Ao42 t279.length co42 : Value).ownBlock ∧ k_ ≠ gb270) ho0 (fun k_ hk_ => ⟨(Kd.fresh' (Kd.S_lt (by (with_reducible repeat (first | apply Kd.S_alloc | apply Kd.S_drewN | apply Kd.S_drew)); exact HO_8.out)) k_ hk_), (Kd.freshB (g := gb270) (o := .cells #[.int .i64 a1_0, .slice A1_1 l1_1.length c1_1] 25 (0, 0)) (by (with_reducible repeat (first | refine blk_drewN ?_ _ | refine blk_drew ?_ | refine blk_alloc ?_ _)); exact BK270.out) k_ hk_)⟩)) (below_size (by repeat (first | (with_reducible first | exact HB.out | apply below_alloc | apply pw_below_drewN | apply below_drew1 | refine below_set ?_ GE270.out) | exact HB.out)))); have n2_ := Aside0.mk (blk_below (g := gb270) (o := .cells #[.int .i64 a1_0, .slice A1_1 l1_1.length c1_1] 25 (0, 0)) (by (with_reducible repeat (first | refine blk_drewN ?_ _ | refine blk_drew ?_ | refine blk_alloc ?_ _)); exact BK270.out) hb); have n3_ := Aside0.mk (below_step (by repeat (first | (with_reducible first | exact HB.out | apply below_alloc | apply pw_below_drewN | apply below_drew1 | refine below_set ?_ GE270.out) | exact HB.out)) hb); clear HO_8; clear BK270; clear HB; have HO_8 := n0_; have HO287 := n1_; have BK270 := n2_; have HB := n3_; clear n0_ n1_ n2_ n3_; (try clear hb); (try clear hb2); (try clear hk); (try clear hi); (try clear ho0)))
                      go_ret
                      exact ⟨by first | rfl | (simp [errW_none, errW_some] <;> rfl) | (simp [*, errW_none, errW_some] <;> rfl), by repeat (first | (with_reducible first | exact HB.out | apply below_alloc | apply pw_below_drewN | apply below_drew1 | refine below_set ?_ GE270.out) | exact HB.out)⟩
                  · rw [if_neg c33] at H
                    have c33b0 : (t282 == (!t278)) = false := by simpa using c33
                    (try (have c33b1 : decide (t282 = (!t278)) = false := by simpa using c33))
                    (try (have c33b2 : (t282 == (!t278)) = false := by simpa using c33))
                    (try (have c33b3 : ¬ (t282 = (!t278)) := by simpa using c33))
                    clear c33
                    obtain rfl := Option.some.inj H
                    have hcz44_0 : wc.cell? ⟨gb270, 0, none⟩ = some (.int .i64 a1_0) := (blk_cell BK270.out 0).trans rfl
                    have hcz44_1 : wc.cell? ⟨gb270, 1, none⟩ = some (.slice A1_1 l1_1.length c1_1) := (blk_cell BK270.out 1).trans rfl
                    have hfz44_0 := blk_frozen BK270.out 0
                    have hfz44_1 := blk_frozen BK270.out 1
                    obtain ⟨Ao45, co45, eo45⟩ := Kd.S_slice HO_8.out
                    subst eo45
                    go_wp2_with (first | ((with_reducible refine gate_callee (f := 16) rfl ?_); refine goesL_ (some 59) rfl rfl Try.func16 (by kernel_rfl) rfl #[.slice Ao45 t279.length co45, .int .i64 a1_0] rfl (by (try simp only [List.map_toArray, List.map_cons, List.map_nil]); first | done | rfl | (simp only [List.length_drop, List.length_take]; rfl)) ?_; (with_reducible refine (solve_Sum.calls kj18 _ _ t279 a1_0 t285 t288 _ ?side1 ?side2 A30.out).mono ?_); (case side1 => repeat (first | exact (Kd.S_reads' HO_8.out).2.2 | (with_reducible refine Kd.C_alloc ?_ _) | (with_reducible refine Kd.C_drewN ?_ _) | (with_reducible refine Kd.C_drew ?_))); (case side2 => exact (Kd.S_reads' HO_8.out).2.1); rintro e w46 ⟨v286, rfl, ho0, hb⟩; refine ⟨_, rfl, ?_⟩; have n0_ := Aside0.mk (Kd.S_below (by (with_reducible repeat (first | apply Kd.S_alloc | apply Kd.S_drewN | apply Kd.S_drew)); exact HO_8.out) hb); have n1_ := Aside0.mk (Kd.V_lower (Kd.V_mono (ok' := fun k_ => some k_ ≠ (.slice Ao45 t279.length co45 : Value).ownBlock ∧ k_ ≠ gb270) ho0 (fun k_ hk_ => ⟨(Kd.fresh' (Kd.S_lt (by (with_reducible repeat (first | apply Kd.S_alloc | apply Kd.S_drewN | apply Kd.S_drew)); exact HO_8.out)) k_ hk_), (Kd.freshB (g := gb270) (o := .cells #[.int .i64 a1_0, .slice A1_1 l1_1.length c1_1] 25 (0, 0)) (by (with_reducible repeat (first | refine blk_drewN ?_ _ | refine blk_drew ?_ | refine blk_alloc ?_ _)); exact BK270.out) k_ hk_)⟩)) (below_size (by repeat (first | (with_reducible first | exact HB.out | apply below_alloc | apply pw_below_drewN | apply below_drew1 | refine below_set ?_ GE270.out) | exact HB.out)))); have n2_ := Aside0.mk (blk_below (g := gb270) (o := .cells #[.int .i64 a1_0, .slice A1_1 l1_1.length c1_1] 25 (0, 0)) (by (with_reducible repeat (first | refine blk_drewN ?_ _ | refine blk_drew ?_ | refine blk_alloc ?_ _)); exact BK270.out) hb); have n3_ := Aside0.mk (below_step (by repeat (first | (with_reducible first | exact HB.out | apply below_alloc | apply pw_below_drewN | apply below_drew1 | refine below_set ?_ GE270.out) | exact HB.out)) hb); clear HO_8; clear BK270; clear HB; have HO_8 := n0_; have HO287 := n1_; have BK270 := n2_; have HB := n3_; clear n0_ n1_ n2_ n3_; (try clear hb); (try clear hb2); (try clear hk); (try clear hi); (try clear ho0)))
                    go_ret
                    exact ⟨by first | rfl | (simp [errW_none, errW_some] <;> rfl) | (simp [*, errW_none, errW_some] <;> rfl), by repeat (first | (with_reducible first | exact HB.out | apply below_alloc | apply pw_below_drewN | apply below_drew1 | refine below_set ?_ GE270.out) | exact HB.out)⟩
                · rw [if_neg c32] at H
                  have c32b0 : (t283 == 0) = false := beq_eq_false_iff_ne.mpr c32
                  have c32b1 : (t283 != 0) = true := bne_iff_ne.mpr c32
                  obtain rfl := Option.some.inj H
                  have hcz47_0 : wc.cell? ⟨gb270, 0, none⟩ = some (.int .i64 a1_0) := (blk_cell BK270.out 0).trans rfl
                  have hcz47_1 : wc.cell? ⟨gb270, 1, none⟩ = some (.slice A1_1 l1_1.length c1_1) := (blk_cell BK270.out 1).trans rfl
                  have hfz47_0 := blk_frozen BK270.out 0
                  have hfz47_1 := blk_frozen BK270.out 1
                  obtain ⟨Ao48, co48, eo48⟩ := Kd.S_slice HO_8.out
                  subst eo48
                  go_wp2_with (first | ((with_reducible refine gate_callee (f := 16) rfl ?_); refine goesL_ (some 59) rfl rfl Try.func16 (by kernel_rfl) rfl #[.slice Ao48 t279.length co48, .int .i64 a1_0] rfl (by (try simp only [List.map_toArray, List.map_cons, List.map_nil]); first | done | rfl | (simp only [List.length_drop, List.length_take]; rfl)) ?_; (with_reducible refine (solve_Sum.calls kj18 _ _ t279 a1_0 t285 t288 _ ?side1 ?side2 A30.out).mono ?_); (case side1 => repeat (first | exact (Kd.S_reads' HO_8.out).2.2 | (with_reducible refine Kd.C_alloc ?_ _) | (with_reducible refine Kd.C_drewN ?_ _) | (with_reducible refine Kd.C_drew ?_))); (case side2 => exact (Kd.S_reads' HO_8.out).2.1); rintro e w49 ⟨v286, rfl, ho0, hb⟩; refine ⟨_, rfl, ?_⟩; have n0_ := Aside0.mk (Kd.S_below (by (with_reducible repeat (first | apply Kd.S_alloc | apply Kd.S_drewN | apply Kd.S_drew)); exact HO_8.out) hb); have n1_ := Aside0.mk (Kd.V_lower (Kd.V_mono (ok' := fun k_ => some k_ ≠ (.slice Ao48 t279.length co48 : Value).ownBlock ∧ k_ ≠ gb270) ho0 (fun k_ hk_ => ⟨(Kd.fresh' (Kd.S_lt (by (with_reducible repeat (first | apply Kd.S_alloc | apply Kd.S_drewN | apply Kd.S_drew)); exact HO_8.out)) k_ hk_), (Kd.freshB (g := gb270) (o := .cells #[.int .i64 a1_0, .slice A1_1 l1_1.length c1_1] 25 (0, 0)) (by (with_reducible repeat (first | refine blk_drewN ?_ _ | refine blk_drew ?_ | refine blk_alloc ?_ _)); exact BK270.out) k_ hk_)⟩)) (below_size (by repeat (first | (with_reducible first | exact HB.out | apply below_alloc | apply pw_below_drewN | apply below_drew1 | refine below_set ?_ GE270.out) | exact HB.out)))); have n2_ := Aside0.mk (blk_below (g := gb270) (o := .cells #[.int .i64 a1_0, .slice A1_1 l1_1.length c1_1] 25 (0, 0)) (by (with_reducible repeat (first | refine blk_drewN ?_ _ | refine blk_drew ?_ | refine blk_alloc ?_ _)); exact BK270.out) hb); have n3_ := Aside0.mk (below_step (by repeat (first | (with_reducible first | exact HB.out | apply below_alloc | apply pw_below_drewN | apply below_drew1 | refine below_set ?_ GE270.out) | exact HB.out)) hb); clear HO_8; clear BK270; clear HB; have HO_8 := n0_; have HO287 := n1_; have BK270 := n2_; have HB := n3_; clear n0_ n1_ n2_ n3_; (try clear hb); (try clear hb2); (try clear hk); (try clear hi); (try clear ho0)))
                  go_ret
                  exact ⟨by first | rfl | (simp [errW_none, errW_some] <;> rfl) | (simp [*, errW_none, errW_some] <;> rfl), by repeat (first | (with_reducible first | exact HB.out | apply below_alloc | apply pw_below_drewN | apply below_drew1 | refine below_set ?_ GE270.out) | exact HB.out)⟩
              · replace c31 := Bool.eq_false_iff.mpr c31
                subst c31
                have H1 : (some false) = some r := by rw [if_neg (show ¬ (false = true) by decide)] at H; exact H
                clear H
                have H := H1
                clear H1
                obtain rfl := Option.some.inj H
                have hcz50_0 : wc.cell? ⟨gb270, 0, none⟩ = some (.int .i64 a1_0) := (blk_cell BK270.out 0).trans rfl
                have hcz50_1 : wc.cell? ⟨gb270, 1, none⟩ = some (.slice A1_1 l1_1.length c1_1) := (blk_cell BK270.out 1).trans rfl
                have hfz50_0 := blk_frozen BK270.out 0
                have hfz50_1 := blk_frozen BK270.out 1
                obtain ⟨Ao51, co51, eo51⟩ := Kd.S_slice HO_8.out
                subst eo51
                go_wp2_with (first | ((with_reducible refine gate_callee (f := 16) rfl ?_); refine goesL_ (some 59) rfl rfl Try.func16 (by kernel_rfl) rfl #[.slice Ao51 t279.length co51, .int .i64 a1_0] rfl (by (try simp only [List.map_toArray, List.map_cons, List.map_nil]); first | done | rfl | (simp only [List.length_drop, List.length_take]; rfl)) ?_; (with_reducible refine (solve_Sum.calls kj18 _ _ t279 a1_0 t285 t288 _ ?side1 ?side2 A30.out).mono ?_); (case side1 => repeat (first | exact (Kd.S_reads' HO_8.out).2.2 | (with_reducible refine Kd.C_alloc ?_ _) | (with_reducible refine Kd.C_drewN ?_ _) | (with_reducible refine Kd.C_drew ?_))); (case side2 => exact (Kd.S_reads' HO_8.out).2.1); rintro e w52 ⟨v286, rfl, ho0, hb⟩; refine ⟨_, rfl, ?_⟩; have n0_ := Aside0.mk (Kd.S_below (by (with_reducible repeat (first | apply Kd.S_alloc | apply Kd.S_drewN | apply Kd.S_drew)); exact HO_8.out) hb); have n1_ := Aside0.mk (Kd.V_lower (Kd.V_mono (ok' := fun k_ => some k_ ≠ (.slice Ao51 t279.length co51 : Value).ownBlock ∧ k_ ≠ gb270) ho0 (fun k_ hk_ => ⟨(Kd.fresh' (Kd.S_lt (by (with_reducible repeat (first | apply Kd.S_alloc | apply Kd.S_drewN | apply Kd.S_drew)); exact HO_8.out)) k_ hk_), (Kd.freshB (g := gb270) (o := .cells #[.int .i64 a1_0, .slice A1_1 l1_1.length c1_1] 25 (0, 0)) (by (with_reducible repeat (first | refine blk_drewN ?_ _ | refine blk_drew ?_ | refine blk_alloc ?_ _)); exact BK270.out) k_ hk_)⟩)) (below_size (by repeat (first | (with_reducible first | exact HB.out | apply below_alloc | apply pw_below_drewN | apply below_drew1 | refine below_set ?_ GE270.out) | exact HB.out)))); have n2_ := Aside0.mk (blk_below (g := gb270) (o := .cells #[.int .i64 a1_0, .slice A1_1 l1_1.length c1_1] 25 (0, 0)) (by (with_reducible repeat (first | refine blk_drewN ?_ _ | refine blk_drew ?_ | refine blk_alloc ?_ _)); exact BK270.out) hb); have n3_ := Aside0.mk (below_step (by repeat (first | (with_reducible first | exact HB.out | apply below_alloc | apply pw_below_drewN | apply below_drew1 | refine below_set ?_ GE270.out) | exact HB.out)) hb); clear HO_8; clear BK270; clear HB; have HO_8 := n0_; have HO287 := n1_; have BK270 := n2_; have HB := n3_; clear n0_ n1_ n2_ n3_; (try clear hb); (try clear hb2); (try clear hk); (try clear hi); (try clear ho0)))
                go_ret
                exact ⟨by first | rfl | (simp [errW_none, errW_some] <;> rfl) | (simp [*, errW_none, errW_some] <;> rfl), by repeat (first | (with_reducible first | exact HB.out | apply below_alloc | apply pw_below_drewN | apply below_drew1 | refine below_set ?_ GE270.out) | exact HB.out)⟩

/-! ### slotmeshlaw33_SolveSums: function 8 -/
mutual
def slotmeshlaw33_SolveSums.j0 : Nat → List (S25) → Int → Int → Bool → Bool → Option (Bool)
  | 0, _, _, _, _, _ => none
  | k + 1, x0, x1, x2, x7, x22 => if x22 = true then (some x7) else ((solve_Sum.f k x0 (wrap64 (x1))).bind fun bt293 => ((solve_Sum.f k x0 (wrap64 (x2))).bind fun bt297 => ((solve_Sum.f k x0 (wrap64 (Go.bits .xor .u16 x1 x2))).bind fun bt301 => (if bt293.2 = true then (slotmeshlaw33_SolveSums.j1 k x7 bt293.1 bt293.2 bt297.1 bt297.2 bt301.1 bt301.2 (!bt297.2)) else (slotmeshlaw33_SolveSums.j1 k x7 bt293.1 bt293.2 bt297.1 bt297.2 bt301.1 bt301.2 true)))))
def slotmeshlaw33_SolveSums.j1 : Nat → Bool → List Int → Bool → List Int → Bool → List Int → Bool → Bool → Option (Bool)
  | 0, _, _, _, _, _, _, _, _ => none
  | k + 1, x7, x8, x9, x10, x11, x12, x13, x52 => if x52 = true then (if x7 = true then (if x13 = true then (some (x9 == x11)) else (some true)) else (some false)) else (if x7 = true then (if x13 = true then (if (x8.length : Int) = 16 then (if (x10.length : Int) = 16 then ((slotmeshref33_Xor.f k x8 x10).bind fun t305 => ((slotmeshref33_Bytes.f k x12 t305).bind fun t308 => (some t308))) else (some false)) else (some false)) else (some false)) else (some false))
end
def slotmeshlaw33_SolveSums.f (k : Nat) (l0 : List (S25)) (a1 : Int) (a2 : Int) : Option (Bool) := (slotmeshlaw33_head.f).bind fun t290 => ((slotmeshref33_Few.f k l0).bind fun t291 => (if t291 = true then ((slotmeshref33_Valid.f k l0).bind fun t292 => (slotmeshlaw33_SolveSums.j0 k l0 a1 a2 t290 (!t292))) else (slotmeshlaw33_SolveSums.j0 k l0 a1 a2 t290 true)))
theorem slotmeshlaw33_SolveSums.mono_l : ∀ k, (∀ y0 y1 y2 y3 y4, LeO (slotmeshlaw33_SolveSums.j0 k y0 y1 y2 y3 y4) (slotmeshlaw33_SolveSums.j0 (k + 1) y0 y1 y2 y3 y4)) ∧ (∀ y0 y1 y2 y3 y4 y5 y6 y7, LeO (slotmeshlaw33_SolveSums.j1 k y0 y1 y2 y3 y4 y5 y6 y7) (slotmeshlaw33_SolveSums.j1 (k + 1) y0 y1 y2 y3 y4 y5 y6 y7))
  | 0 => ⟨fun _ _ _ _ _ r h => by simp [slotmeshlaw33_SolveSums.j0] at h, fun _ _ _ _ _ _ _ _ r h => by simp [slotmeshlaw33_SolveSums.j1] at h⟩
  | k + 1 => by
    obtain ⟨ih0, ih1⟩ := slotmeshlaw33_SolveSums.mono_l k
    refine ⟨?_, ?_⟩
    · intro y0 y1 y2 y3 y4
      unfold slotmeshlaw33_SolveSums.j0
      repeat' first
      | (with_reducible exact ih0 _ _ _ _ _)
      | (with_reducible exact ih1 _ _ _ _ _ _ _ _)
      | (with_reducible exact slotmeshref33_Bytes.mono _ _ _)
      | (with_reducible exact slotmeshref33_Few.mono _ _)
      | (with_reducible exact slotmeshref33_Valid.mono _ _)
      | (with_reducible exact slotmeshref33_Xor.mono _ _ _)
      | (with_reducible exact solve_Sum.mono _ _ _)
      | (with_reducible exact LeO.refl _)
      | (with_reducible exact LeO.none _)
      | (with_reducible refine LeO.ite ?_ ?_)
      | (with_reducible refine LeO.bind ?_ (fun _ => ?_))
      | exact ih0 _ _ _ _ _
      | exact ih1 _ _ _ _ _ _ _ _
      | exact slotmeshref33_Bytes.mono _ _ _
      | exact slotmeshref33_Few.mono _ _
      | exact slotmeshref33_Valid.mono _ _
      | exact slotmeshref33_Xor.mono _ _ _
      | exact solve_Sum.mono _ _ _
      | exact LeO.none _
      | refine LeO.ite ?_ ?_
      | refine LeO.bind ?_ (fun _ => ?_)
    · intro y0 y1 y2 y3 y4 y5 y6 y7
      unfold slotmeshlaw33_SolveSums.j1
      repeat' first
      | (with_reducible exact ih0 _ _ _ _ _)
      | (with_reducible exact ih1 _ _ _ _ _ _ _ _)
      | (with_reducible exact slotmeshref33_Bytes.mono _ _ _)
      | (with_reducible exact slotmeshref33_Few.mono _ _)
      | (with_reducible exact slotmeshref33_Valid.mono _ _)
      | (with_reducible exact slotmeshref33_Xor.mono _ _ _)
      | (with_reducible exact solve_Sum.mono _ _ _)
      | (with_reducible exact LeO.refl _)
      | (with_reducible exact LeO.none _)
      | (with_reducible refine LeO.ite ?_ ?_)
      | (with_reducible refine LeO.bind ?_ (fun _ => ?_))
      | exact ih0 _ _ _ _ _
      | exact ih1 _ _ _ _ _ _ _ _
      | exact slotmeshref33_Bytes.mono _ _ _
      | exact slotmeshref33_Few.mono _ _
      | exact slotmeshref33_Valid.mono _ _
      | exact slotmeshref33_Xor.mono _ _ _
      | exact solve_Sum.mono _ _ _
      | exact LeO.none _
      | refine LeO.ite ?_ ?_
      | refine LeO.bind ?_ (fun _ => ?_)
theorem slotmeshlaw33_SolveSums.mono : ∀ a0 a1 a2 k, LeO (slotmeshlaw33_SolveSums.f k a0 a1 a2) (slotmeshlaw33_SolveSums.f (k + 1) a0 a1 a2) := by
  intro a0 a1 a2 k
  obtain ⟨ih0, ih1⟩ := slotmeshlaw33_SolveSums.mono_l k
  unfold slotmeshlaw33_SolveSums.f
  repeat' first
      | (with_reducible exact ih0 _ _ _ _ _)
      | (with_reducible exact ih1 _ _ _ _ _ _ _ _)
      | (with_reducible exact slotmeshref33_Bytes.mono _ _ _)
      | (with_reducible exact slotmeshref33_Few.mono _ _)
      | (with_reducible exact slotmeshref33_Valid.mono _ _)
      | (with_reducible exact slotmeshref33_Xor.mono _ _ _)
      | (with_reducible exact solve_Sum.mono _ _ _)
      | (with_reducible exact LeO.refl _)
      | (with_reducible exact LeO.none _)
      | (with_reducible refine LeO.ite ?_ ?_)
      | (with_reducible refine LeO.bind ?_ (fun _ => ?_))
      | exact ih0 _ _ _ _ _
      | exact ih1 _ _ _ _ _ _ _ _
      | exact slotmeshref33_Bytes.mono _ _ _
      | exact slotmeshref33_Few.mono _ _
      | exact slotmeshref33_Valid.mono _ _
      | exact slotmeshref33_Xor.mono _ _ _
      | exact solve_Sum.mono _ _ _
      | exact LeO.none _
      | refine LeO.ite ?_ ?_
      | refine LeO.bind ?_ (fun _ => ?_)
set_option maxHeartbeats 8000000 in
set_option maxRecDepth 100000 in
theorem slotmeshlaw33_SolveSums.calls (k : Nat) (A0 : Option Addr) (c0 : Nat) (l0 : List (S25)) (a1 : Int) (a2 : Int) (r : Bool) (w : World) (hr0 : Kd.C k25 w A0 l0.length l0) (hc0 : l0.length ≤ c0) (h : slotmeshlaw33_SolveSums.f k l0 a1 a2 = some r) :
    Calls Try.prog 8 #[.slice A0 l0.length c0, .int .u16 a1, .int .u16 a2] w fun e w' => e = .returned (.bool r) ∧ Below w.heap.size w w' := by
  have HR0 := Aside0.mk hr0
  have HC0 := Aside0.mk hc0
  clear hr0 hc0
  have HB := Aside0.mk (Below.refl w.heap.size w)
  have H : ((slotmeshlaw33_head.f).bind fun t290 => ((slotmeshref33_Few.f k l0).bind fun t291 => (if t291 = true then ((slotmeshref33_Valid.f k l0).bind fun t292 => (slotmeshlaw33_SolveSums.j0 k l0 a1 a2 t290 (!t292))) else (slotmeshlaw33_SolveSums.j0 k l0 a1 a2 t290 true)))) = some r := h
  clear h
  replace H := Option.bind_eq_some_iff.mp H
  obtain ⟨t290, A40, H⟩ := H
  replace H : ((slotmeshref33_Few.f k l0).bind fun t291 => (if t291 = true then ((slotmeshref33_Valid.f k l0).bind fun t292 => (slotmeshlaw33_SolveSums.j0 k l0 a1 a2 t290 (!t292))) else (slotmeshlaw33_SolveSums.j0 k l0 a1 a2 t290 true))) = some r := H
  have A4 := Aside0.mk A40
  clear A40
  have HC5 := Aside0.mk H
  clear H
  go_enter Try.func8, Try.ntmps8
  go_upto_region 2 with (first | ((with_reducible refine gate_callee (f := 10) rfl ?_); refine goesL_ (some 14) rfl rfl Try.func10 (by kernel_rfl) rfl #[] rfl (by (try simp only [List.map_toArray, List.map_cons, List.map_nil]); first | done | rfl | (simp only [List.length_drop, List.length_take]; rfl)) ?_; (with_reducible refine (slotmeshlaw33_head.calls  t290 _ A4.out).mono ?_); rintro e w6 ⟨rfl, hb⟩; refine ⟨_, rfl, ?_⟩; have n0_ := Aside0.mk (below_step (by repeat (first | (with_reducible first | exact HB.out | apply below_alloc | apply pw_below_drewN | apply below_drew1) | exact HB.out)) hb); clear HB; have HB := n0_; clear n0_; (try clear hb); (try clear hb2); (try clear hk); (try clear hi)))
  (try simp only [Act.put, List.setIfInBounds_toArray, List.set_cons_zero, List.set_cons_succ])
  go_cut [22] (fun v22 wc => ∃ (kq : Nat) (x22_4 : Bool), v22 = .bool x22_4 ∧ Aside0 (slotmeshlaw33_SolveSums.j0 kq l0 a1 a2 t290 x22_4 = some r) ∧ Aside0 (kq ≤ k) ∧ Aside0 (Below w.heap.size w wc))
  case first =>
    have H := HC5.out
    clear HC5
    replace H := Option.bind_eq_some_iff.mp H
    obtain ⟨t291, A70, H⟩ := H
    replace H : (if t291 = true then ((slotmeshref33_Valid.f k l0).bind fun t292 => (slotmeshlaw33_SolveSums.j0 k l0 a1 a2 t290 (!t292))) else (slotmeshlaw33_SolveSums.j0 k l0 a1 a2 t290 true)) = some r := H
    have A7 := Aside0.mk A70
    clear A70
    by_cases c8 : t291 = true
    · subst c8
      have H1 : ((slotmeshref33_Valid.f k l0).bind fun t292 => (slotmeshlaw33_SolveSums.j0 k l0 a1 a2 t290 (!t292))) = some r := by rw [if_pos rfl] at H; exact H
      clear H
      have H := H1
      clear H1
      replace H := Option.bind_eq_some_iff.mp H
      obtain ⟨t292, A90, H⟩ := H
      replace H : (slotmeshlaw33_SolveSums.j0 k l0 a1 a2 t290 (!t292)) = some r := H
      have A9 := Aside0.mk A90
      clear A90
      have H' := Aside0.mk H
      clear H
      go_wp2_with (first | ((with_reducible refine gate_callee (f := 11) rfl ?_); refine goesL_ (some 16) rfl rfl Try.func11 (by kernel_rfl) rfl #[.slice A0 l0.length c0] rfl (by (try simp only [List.map_toArray, List.map_cons, List.map_nil]); first | done | rfl | (simp only [List.length_drop, List.length_take]; rfl)) ?_; (with_reducible refine (slotmeshref33_Few.calls k _ _ l0 true _ ?side1 ?side2 A7.out).mono ?_); (case side1 => repeat (first | exact (Kd.C_below HR0.out HB.out) | (with_reducible refine Kd.C_alloc ?_ _) | (with_reducible refine Kd.C_drewN ?_ _) | (with_reducible refine Kd.C_drew ?_))); (case side2 => exact HC0.out); rintro e w' ⟨rfl, ⟨nd, rfl⟩⟩; refine ⟨_, rfl, ?_⟩) | (go_at_call 21; (with_reducible refine (slotmeshref33_Valid.calls k _ _ l0 t292 _ ?side1 ?side2 A9.out).mono ?_); (case side1 => repeat (first | exact (Kd.C_below HR0.out (by repeat (first | (with_reducible first | exact HB.out | apply below_alloc | apply pw_below_drewN | apply below_drew1) | exact HB.out))) | (with_reducible refine Kd.C_alloc ?_ _) | (with_reducible refine Kd.C_drewN ?_ _) | (with_reducible refine Kd.C_drew ?_))); (case side2 => exact HC0.out); rintro e w10 ⟨rfl, hb⟩; have n0_ := Aside0.mk (below_step (by repeat (first | (with_reducible first | exact HB.out | apply below_alloc | apply pw_below_drewN | apply below_drew1) | exact HB.out)) hb); clear HB; have HB := n0_; clear n0_; (try clear hb); (try clear hb2); (try clear hk); (try clear hi)))
      go_meet
      case rel => exact ⟨_, (!t292), (by first | rfl | (simp; done) | (simp [*]; done)), H', ⟨by first | omega | exact Nat.le_refl _⟩, ⟨by repeat (first | (with_reducible first | exact HB.out | apply below_alloc | apply pw_below_drewN | apply below_drew1) | exact HB.out)⟩⟩
    · replace c8 := Bool.eq_false_iff.mpr c8
      subst c8
      have H1 : (slotmeshlaw33_SolveSums.j0 k l0 a1 a2 t290 true) = some r := by rw [if_neg (show ¬ (false = true) by decide)] at H; exact H
      clear H
      have H := H1
      clear H1
      have H' := Aside0.mk H
      clear H
      go_wp2_with (first | ((with_reducible refine gate_callee (f := 11) rfl ?_); refine goesL_ (some 16) rfl rfl Try.func11 (by kernel_rfl) rfl #[.slice A0 l0.length c0] rfl (by (try simp only [List.map_toArray, List.map_cons, List.map_nil]); first | done | rfl | (simp only [List.length_drop, List.length_take]; rfl)) ?_; (with_reducible refine (slotmeshref33_Few.calls k _ _ l0 false _ ?side1 ?side2 A7.out).mono ?_); (case side1 => repeat (first | exact (Kd.C_below HR0.out HB.out) | (with_reducible refine Kd.C_alloc ?_ _) | (with_reducible refine Kd.C_drewN ?_ _) | (with_reducible refine Kd.C_drew ?_))); (case side2 => exact HC0.out); rintro e w' ⟨rfl, ⟨nd, rfl⟩⟩; refine ⟨_, rfl, ?_⟩))
      go_meet
      case rel => exact ⟨_, (true), (by first | rfl | (simp; done) | (simp [*]; done)), H', ⟨by first | omega | exact Nat.le_refl _⟩, ⟨by repeat (first | (with_reducible first | exact HB.out | apply below_alloc | apply pw_below_drewN | apply below_drew1) | exact HB.out)⟩⟩
  case rest =>
    clear HC5
    try clear c1
    try clear p2
    try clear c8
    try clear c10
    obtain ⟨kq, x22_4, rfl, HA, HJ4, HB⟩ := hcut
    cases kq with
    | zero => exact absurd HA.out (by simp [slotmeshlaw33_SolveSums.j0])
    | succ kj4 =>
      have H := HA.out
      clear HA
      simp only [slotmeshlaw33_SolveSums.j0] at H
      by_cases c11 : x22_4 = true
      · subst c11
        have H1 : (some t290) = some r := by rw [if_pos rfl] at H; exact H
        clear H
        have H := H1
        clear H1
        obtain rfl := Option.some.inj H
        go_wp2
        go_ret
        exact ⟨by first | rfl | (simp [errW_none, errW_some] <;> rfl) | (simp [*, errW_none, errW_some] <;> rfl), by repeat (first | (with_reducible first | exact HB.out | apply below_alloc | apply pw_below_drewN | apply below_drew1) | exact HB.out)⟩
      · replace c11 := Bool.eq_false_iff.mpr c11
        subst c11
        have H1 : ((solve_Sum.f kj4 l0 (wrap64 (a1))).bind fun bt293 => ((solve_Sum.f kj4 l0 (wrap64 (a2))).bind fun bt297 => ((solve_Sum.f kj4 l0 (wrap64 (Go.bits .xor .u16 a1 a2))).bind fun bt301 => (if bt293.2 = true then (slotmeshlaw33_SolveSums.j1 kj4 t290 bt293.1 bt293.2 bt297.1 bt297.2 bt301.1 bt301.2 (!bt297.2)) else (slotmeshlaw33_SolveSums.j1 kj4 t290 bt293.1 bt293.2 bt297.1 bt297.2 bt301.1 bt301.2 true))))) = some r := by rw [if_neg (show ¬ (false = true) by decide)] at H; exact H
        clear H
        have H := H1
        clear H1
        replace H := Option.bind_eq_some_iff.mp H
        obtain ⟨⟨t293, t296⟩, A120, H⟩ := H
        replace H : ((solve_Sum.f kj4 l0 (wrap64 (a2))).bind fun bt297 => ((solve_Sum.f kj4 l0 (wrap64 (Go.bits .xor .u16 a1 a2))).bind fun bt301 => (if t296 = true then (slotmeshlaw33_SolveSums.j1 kj4 t290 t293 t296 bt297.1 bt297.2 bt301.1 bt301.2 (!bt297.2)) else (slotmeshlaw33_SolveSums.j1 kj4 t290 t293 t296 bt297.1 bt297.2 bt301.1 bt301.2 true)))) = some r := H
        have A12 := Aside0.mk A120
        clear A120
        replace H := Option.bind_eq_some_iff.mp H
        obtain ⟨⟨t297, t300⟩, A130, H⟩ := H
        replace H : ((solve_Sum.f kj4 l0 (wrap64 (Go.bits .xor .u16 a1 a2))).bind fun bt301 => (if t296 = true then (slotmeshlaw33_SolveSums.j1 kj4 t290 t293 t296 t297 t300 bt301.1 bt301.2 (!t300)) else (slotmeshlaw33_SolveSums.j1 kj4 t290 t293 t296 t297 t300 bt301.1 bt301.2 true))) = some r := H
        have A13 := Aside0.mk A130
        clear A130
        replace H := Option.bind_eq_some_iff.mp H
        obtain ⟨⟨t301, t304⟩, A140, H⟩ := H
        replace H : (if t296 = true then (slotmeshlaw33_SolveSums.j1 kj4 t290 t293 t296 t297 t300 t301 t304 (!t300)) else (slotmeshlaw33_SolveSums.j1 kj4 t290 t293 t296 t297 t300 t301 t304 true)) = some r := H
        have A14 := Aside0.mk A140
        clear A140
        have HC15 := Aside0.mk H
        clear H
        go_upto_region 7 with (first | ((with_reducible refine gate_callee (f := 16) rfl ?_); refine goesL_ (some 28) rfl rfl Try.func16 (by kernel_rfl) rfl #[.slice A0 l0.length c0, .int .i64 (wrap64 (a1))] rfl (by (try simp only [List.map_toArray, List.map_cons, List.map_nil]); first | done | rfl | (simp only [List.length_drop, List.length_take]; rfl)) ?_; (with_reducible refine (solve_Sum.calls kj4 _ _ l0 (wrap64 (a1)) t293 t296 _ ?side1 ?side2 A12.out).mono ?_); (case side1 => repeat (first | exact (Kd.C_below HR0.out HB.out) | (with_reducible refine Kd.C_alloc ?_ _) | (with_reducible refine Kd.C_drewN ?_ _) | (with_reducible refine Kd.C_drew ?_))); (case side2 => exact HC0.out); rintro e w16 ⟨v294, rfl, ho0, hb⟩; refine ⟨_, rfl, ?_⟩; have n0_ := Aside0.mk (Kd.V_lower (Kd.V_mono (ok' := fun k_ => True) ho0 (fun k_ hk_ => trivial)) (below_size (by repeat (first | (with_reducible first | exact HB.out | apply below_alloc | apply pw_below_drewN | apply below_drew1) | exact HB.out)))); have n1_ := Aside0.mk (below_step (by repeat (first | (with_reducible first | exact HB.out | apply below_alloc | apply pw_below_drewN | apply below_drew1) | exact HB.out)) hb); clear HB; have HO295 := n0_; have HB := n1_; clear n0_ n1_; (try clear hb); (try clear hb2); (try clear hk); (try clear hi); (try clear ho0)) | ((with_reducible refine gate_callee (f := 16) rfl ?_); refine goesL_ (some 35) rfl rfl Try.func16 (by kernel_rfl) rfl #[.slice A0 l0.length c0, .int .i64 (wrap64 (a2))] rfl (by (try simp only [List.map_toArray, List.map_cons, List.map_nil]); first | done | rfl | (simp only [List.length_drop, List.length_take]; rfl)) ?_; (with_reducible refine (solve_Sum.calls kj4 _ _ l0 (wrap64 (a2)) t297 t300 _ ?side1 ?side2 A13.out).mono ?_); (case side1 => repeat (first | exact (Kd.C_below HR0.out HB.out) | (with_reducible refine Kd.C_alloc ?_ _) | (with_reducible refine Kd.C_drewN ?_ _) | (with_reducible refine Kd.C_drew ?_))); (case side2 => exact HC0.out); rintro e w17 ⟨v298, rfl, ho0, hb⟩; refine ⟨_, rfl, ?_⟩; have n0_ := Aside0.mk (Kd.V_below (by (with_reducible repeat (first | apply Kd.V_alloc | apply Kd.V_drewN | apply Kd.V_drew)); exact HO295.out) hb); have n1_ := Aside0.mk (Kd.V_lower (Kd.V_mono (ok' := fun k_ => True) ho0 (fun k_ hk_ => trivial)) (below_size (by repeat (first | (with_reducible first | exact HB.out | apply below_alloc | apply pw_below_drewN | apply below_drew1) | exact HB.out)))); have n2_ := Aside0.mk (below_step (by repeat (first | (with_reducible first | exact HB.out | apply below_alloc | apply pw_below_drewN | apply below_drew1) | exact HB.out)) hb); clear HO295; clear HB; have HO295 := n0_; have HO299 := n1_; have HB := n2_; clear n0_ n1_ n2_; (try clear hb); (try clear hb2); (try clear hk); (try clear hi); (try clear ho0)) | ((with_reducible refine gate_callee (f := 16) rfl ?_); refine goesL_ (some 44) rfl rfl Try.func16 (by kernel_rfl) rfl #[.slice A0 l0.length c0, .int .i64 (wrap64 (Go.bits .xor .u16 a1 a2))] rfl (by (try simp only [List.map_toArray, List.map_cons, List.map_nil]); first | done | rfl | (simp only [List.length_drop, List.length_take]; rfl)) ?_; (with_reducible refine (solve_Sum.calls kj4 _ _ l0 (wrap64 (Go.bits .xor .u16 a1 a2)) t301 t304 _ ?side1 ?side2 A14.out).mono ?_); (case side1 => repeat (first | exact (Kd.C_below HR0.out HB.out) | (with_reducible refine Kd.C_alloc ?_ _) | (with_reducible refine Kd.C_drewN ?_ _) | (with_reducible refine Kd.C_drew ?_))); (case side2 => exact HC0.out); rintro e w18 ⟨v302, rfl, ho0, hb⟩; refine ⟨_, rfl, ?_⟩; have n0_ := Aside0.mk (Kd.V_below (by (with_reducible repeat (first | apply Kd.V_alloc | apply Kd.V_drewN | apply Kd.V_drew)); exact HO295.out) hb); have n1_ := Aside0.mk (Kd.V_below (by (with_reducible repeat (first | apply Kd.V_alloc | apply Kd.V_drewN | apply Kd.V_drew)); exact HO299.out) hb); have n2_ := Aside0.mk (Kd.V_lower (Kd.V_mono (ok' := fun k_ => True) ho0 (fun k_ hk_ => trivial)) (below_size (by repeat (first | (with_reducible first | exact HB.out | apply below_alloc | apply pw_below_drewN | apply below_drew1) | exact HB.out)))); have n3_ := Aside0.mk (below_step (by repeat (first | (with_reducible first | exact HB.out | apply below_alloc | apply pw_below_drewN | apply below_drew1) | exact HB.out)) hb); clear HO295; clear HO299; clear HB; have HO295 := n0_; have HO299 := n1_; have HO303 := n2_; have HB := n3_; clear n0_ n1_ n2_ n3_; (try clear hb); (try clear hb2); (try clear hk); (try clear hi); (try clear ho0)))
        (try simp only [Act.put, List.setIfInBounds_toArray, List.set_cons_zero, List.set_cons_succ])
        go_cut [52] (fun v52 wc => ∃ (kq : Nat) (x52_14 : Bool), v52 = .bool x52_14 ∧ Aside0 (slotmeshlaw33_SolveSums.j1 kq t290 t293 t296 t297 t300 t301 t304 x52_14 = some r) ∧ Aside0 (kq ≤ kj4) ∧ Aside0 (Kd.V (Kd.int .u8) 5 wc w.heap.size (fun _ => True) v294 t293) ∧ Aside0 (Kd.V (Kd.int .u8) 5 wc w.heap.size (fun _ => True) v298 t297) ∧ Aside0 (Kd.V (Kd.int .u8) 5 wc w.heap.size (fun _ => True) v302 t301) ∧ Aside0 (Below w.heap.size w wc))
        case first =>
          have H := HC15.out
          clear HC15
          by_cases c19 : t296 = true
          · subst c19
            have H1 : (slotmeshlaw33_SolveSums.j1 kj4 t290 t293 true t297 t300 t301 t304 (!t300)) = some r := by rw [if_pos rfl] at H; exact H
            clear H
            have H := H1
            clear H1
            have H' := Aside0.mk H
            clear H
            go_wp2
            go_meet
            case rel => exact ⟨_, (!t300), (by first | rfl | (simp; done) | (simp [*]; done)), H', ⟨by have := HJ4.out; first | omega | exact Nat.le_refl _⟩, ⟨by (with_reducible repeat (first | apply Kd.V_alloc | apply Kd.V_drewN | apply Kd.V_drew)); exact HO295.out⟩, ⟨by (with_reducible repeat (first | apply Kd.V_alloc | apply Kd.V_drewN | apply Kd.V_drew)); exact HO299.out⟩, ⟨by (with_reducible repeat (first | apply Kd.V_alloc | apply Kd.V_drewN | apply Kd.V_drew)); exact HO303.out⟩, ⟨by repeat (first | (with_reducible first | exact HB.out | apply below_alloc | apply pw_below_drewN | apply below_drew1) | exact HB.out)⟩⟩
          · replace c19 := Bool.eq_false_iff.mpr c19
            subst c19
            have H1 : (slotmeshlaw33_SolveSums.j1 kj4 t290 t293 false t297 t300 t301 t304 true) = some r := by rw [if_neg (show ¬ (false = true) by decide)] at H; exact H
            clear H
            have H := H1
            clear H1
            have H' := Aside0.mk H
            clear H
            go_wp2
            go_meet
            case rel => exact ⟨_, (true), (by first | rfl | (simp; done) | (simp [*]; done)), H', ⟨by have := HJ4.out; first | omega | exact Nat.le_refl _⟩, ⟨by (with_reducible repeat (first | apply Kd.V_alloc | apply Kd.V_drewN | apply Kd.V_drew)); exact HO295.out⟩, ⟨by (with_reducible repeat (first | apply Kd.V_alloc | apply Kd.V_drewN | apply Kd.V_drew)); exact HO299.out⟩, ⟨by (with_reducible repeat (first | apply Kd.V_alloc | apply Kd.V_drewN | apply Kd.V_drew)); exact HO303.out⟩, ⟨by repeat (first | (with_reducible first | exact HB.out | apply below_alloc | apply pw_below_drewN | apply below_drew1) | exact HB.out)⟩⟩
        case rest =>
          clear HC15
          try clear c1
          try clear p2
          try clear p6
          try clear c8
          try clear c10
          try clear c11
          try clear c16
          try clear c19
          try clear p2
          obtain ⟨kq, x52_14, rfl, HA, HJ14, HO_8, HO_10, HO_12, HB⟩ := hcut
          cases kq with
          | zero => exact absurd HA.out (by simp [slotmeshlaw33_SolveSums.j1])
          | succ kj14 =>
            have H := HA.out
            clear HA
            simp only [slotmeshlaw33_SolveSums.j1] at H
            by_cases c20 : x52_14 = true
            · subst c20
              have H1 : (if t290 = true then (if t304 = true then (some (t296 == t300)) else (some true)) else (some false)) = some r := by rw [if_pos rfl] at H; exact H
              clear H
              have H := H1
              clear H1
              by_cases c21 : t290 = true
              · subst c21
                have H1 : (if t304 = true then (some (t296 == t300)) else (some true)) = some r := by rw [if_pos rfl] at H; exact H
                clear H
                have H := H1
                clear H1
                by_cases c22 : t304 = true
                · subst c22
                  have H1 : (some (t296 == t300)) = some r := by rw [if_pos rfl] at H; exact H
                  clear H
                  have H := H1
                  clear H1
                  obtain rfl := Option.some.inj H
                  go_wp2
                  go_ret
                  exact ⟨by first | rfl | (simp [errW_none, errW_some] <;> rfl) | (simp [*, errW_none, errW_some] <;> rfl), by repeat (first | (with_reducible first | exact HB.out | apply below_alloc | apply pw_below_drewN | apply below_drew1) | exact HB.out)⟩
                · replace c22 := Bool.eq_false_iff.mpr c22
                  subst c22
                  have H1 : (some true) = some r := by rw [if_neg (show ¬ (false = true) by decide)] at H; exact H
                  clear H
                  have H := H1
                  clear H1
                  obtain rfl := Option.some.inj H
                  go_wp2
                  go_ret
                  exact ⟨by first | rfl | (simp [errW_none, errW_some] <;> rfl) | (simp [*, errW_none, errW_some] <;> rfl), by repeat (first | (with_reducible first | exact HB.out | apply below_alloc | apply pw_below_drewN | apply below_drew1) | exact HB.out)⟩
              · replace c21 := Bool.eq_false_iff.mpr c21
                subst c21
                have H1 : (some false) = some r := by rw [if_neg (show ¬ (false = true) by decide)] at H; exact H
                clear H
                have H := H1
                clear H1
                obtain rfl := Option.some.inj H
                go_wp2
                go_ret
                exact ⟨by first | rfl | (simp [errW_none, errW_some] <;> rfl) | (simp [*, errW_none, errW_some] <;> rfl), by repeat (first | (with_reducible first | exact HB.out | apply below_alloc | apply pw_below_drewN | apply below_drew1) | exact HB.out)⟩
            · replace c20 := Bool.eq_false_iff.mpr c20
              subst c20
              have H1 : (if t290 = true then (if t304 = true then (if (t293.length : Int) = 16 then (if (t297.length : Int) = 16 then ((slotmeshref33_Xor.f kj14 t293 t297).bind fun t305 => ((slotmeshref33_Bytes.f kj14 t301 t305).bind fun t308 => (some t308))) else (some false)) else (some false)) else (some false)) else (some false)) = some r := by rw [if_neg (show ¬ (false = true) by decide)] at H; exact H
              clear H
              have H := H1
              clear H1
              by_cases c23 : t290 = true
              · subst c23
                have H1 : (if t304 = true then (if (t293.length : Int) = 16 then (if (t297.length : Int) = 16 then ((slotmeshref33_Xor.f kj14 t293 t297).bind fun t305 => ((slotmeshref33_Bytes.f kj14 t301 t305).bind fun t308 => (some t308))) else (some false)) else (some false)) else (some false)) = some r := by rw [if_pos rfl] at H; exact H
                clear H
                have H := H1
                clear H1
                by_cases c24 : t304 = true
                · subst c24
                  have H1 : (if (t293.length : Int) = 16 then (if (t297.length : Int) = 16 then ((slotmeshref33_Xor.f kj14 t293 t297).bind fun t305 => ((slotmeshref33_Bytes.f kj14 t301 t305).bind fun t308 => (some t308))) else (some false)) else (some false)) = some r := by rw [if_pos rfl] at H; exact H
                  clear H
                  have H := H1
                  clear H1
                  by_cases c25 : (t293.length : Int) = 16
                  · rw [if_pos c25] at H
                    have c25b0 : ((t293.length : Int) == 16) = true := beq_iff_eq.mpr c25
                    have c25b1 : ((t293.length : Int) != 16) = false := bne_eq_false_iff_eq.mpr c25
                    clear c25
                    by_cases c26 : (t297.length : Int) = 16
                    · rw [if_pos c26] at H
                      have c26b0 : ((t297.length : Int) == 16) = true := beq_iff_eq.mpr c26
                      have c26b1 : ((t297.length : Int) != 16) = false := bne_eq_false_iff_eq.mpr c26
                      clear c26
                      replace H := Option.bind_eq_some_iff.mp H
                      obtain ⟨t305, A270, H⟩ := H
                      replace H : ((slotmeshref33_Bytes.f kj14 t301 t305).bind fun t308 => (some t308)) = some r := H
                      have A27 := Aside0.mk A270
                      clear A270
                      replace H := Option.bind_eq_some_iff.mp H
                      obtain ⟨t308, A280, H⟩ := H
                      replace H : (some t308) = some r := H
                      have A28 := Aside0.mk A280
                      clear A280
                      obtain rfl := Option.some.inj H
                      obtain ⟨Ao29, co29, eo29⟩ := Kd.V_slice HO_8.out
                      subst eo29
                      obtain ⟨Ao30, co30, eo30⟩ := Kd.V_slice HO_10.out
                      subst eo30
                      go_wp2_with (first | (go_at_call 25; (with_reducible refine (slotmeshref33_Xor.calls kj14 _ _ t293 _ _ t297 t305 _ ?side1 ?side2 ?side3 ?side4 A27.out).mono ?_); (case side1 => repeat (first | exact (Kd.V_reads' HO_8.out).2.2 | (with_reducible refine Kd.C_alloc ?_ _) | (with_reducible refine Kd.C_drewN ?_ _) | (with_reducible refine Kd.C_drew ?_))); (case side2 => exact (Kd.V_reads' HO_8.out).2.1); (case side3 => repeat (first | exact (Kd.V_reads' HO_10.out).2.2 | (with_reducible refine Kd.C_alloc ?_ _) | (with_reducible refine Kd.C_drewN ?_ _) | (with_reducible refine Kd.C_drew ?_))); (case side4 => exact (Kd.V_reads' HO_10.out).2.1); rintro e w31 ⟨v306, rfl, ho0, hb⟩; have n0_ := Aside0.mk (Kd.V_elder' (by (with_reducible repeat (first | apply Kd.V_alloc | apply Kd.V_drewN | apply Kd.V_drew)); exact HO_8.out) (Kd.R_base ho0) hb); have n1_ := Aside0.mk (Kd.V_elder' (by (with_reducible repeat (first | apply Kd.V_alloc | apply Kd.V_drewN | apply Kd.V_drew)); exact HO_10.out) (Kd.R_base ho0) hb); have n2_ := Aside0.mk (Kd.V_elder' (by (with_reducible repeat (first | apply Kd.V_alloc | apply Kd.V_drewN | apply Kd.V_drew)); exact HO_12.out) (Kd.R_base ho0) hb); have n3_ := Aside0.mk (Kd.R_lower ho0 (below_size (by repeat (first | (with_reducible first | exact HB.out | apply below_alloc | apply pw_below_drewN | apply below_drew1) | exact HB.out)))); have n4_ := Aside0.mk (below_step (by repeat (first | (with_reducible first | exact HB.out | apply below_alloc | apply pw_below_drewN | apply below_drew1) | exact HB.out)) hb); clear HO_8; clear HO_10; clear HO_12; clear HB; have HO_8 := n0_; have HO_10 := n1_; have HO_12 := n2_; have HO307 := n3_; have HB := n4_; clear n0_ n1_ n2_ n3_ n4_; (try clear hb); (try clear hb2); (try clear hk); (try clear hi); (try clear ho0); obtain ⟨Ao32, co32, eo32⟩ := Kd.V_slice HO_12.out; subst eo32; obtain ⟨Ao33, co33, eo33⟩ := Kd.R_slice HO307.out; subst eo33) | (go_at_call 19; (with_reducible refine (slotmeshref33_Bytes.calls kj14 _ _ t301 _ _ t305 t308 _ ?side1 ?side2 ?side3 ?side4 A28.out).mono ?_); (case side1 => repeat (first | exact (Kd.V_reads' HO_12.out).2.2 | (with_reducible refine Kd.C_alloc ?_ _) | (with_reducible refine Kd.C_drewN ?_ _) | (with_reducible refine Kd.C_drew ?_))); (case side2 => exact (Kd.V_reads' HO_12.out).2.1); (case side3 => repeat (first | exact (Kd.R_reads' HO307.out).2.2 | (with_reducible refine Kd.C_alloc ?_ _) | (with_reducible refine Kd.C_drewN ?_ _) | (with_reducible refine Kd.C_drew ?_))); (case side4 => exact (Kd.R_reads' HO307.out).2.1); rintro e w' ⟨rfl, ⟨nd, rfl⟩⟩))
                      go_ret
                      exact ⟨by first | rfl | (simp [errW_none, errW_some] <;> rfl) | (simp [*, errW_none, errW_some] <;> rfl), by repeat (first | (with_reducible first | exact HB.out | apply below_alloc | apply pw_below_drewN | apply below_drew1) | exact HB.out)⟩
                    · rw [if_neg c26] at H
                      have c26b0 : ((t297.length : Int) == 16) = false := beq_eq_false_iff_ne.mpr c26
                      have c26b1 : ((t297.length : Int) != 16) = true := bne_iff_ne.mpr c26
                      obtain rfl := Option.some.inj H
                      obtain ⟨Ao34, co34, eo34⟩ := Kd.V_slice HO_8.out
                      subst eo34
                      obtain ⟨Ao35, co35, eo35⟩ := Kd.V_slice HO_10.out
                      subst eo35
                      go_wp2
                      go_ret
                      exact ⟨by first | rfl | (simp [errW_none, errW_some] <;> rfl) | (simp [*, errW_none, errW_some] <;> rfl), by repeat (first | (with_reducible first | exact HB.out | apply below_alloc | apply pw_below_drewN | apply below_drew1) | exact HB.out)⟩
                  · rw [if_neg c25] at H
                    have c25b0 : ((t293.length : Int) == 16) = false := beq_eq_false_iff_ne.mpr c25
                    have c25b1 : ((t293.length : Int) != 16) = true := bne_iff_ne.mpr c25
                    obtain rfl := Option.some.inj H
                    obtain ⟨Ao36, co36, eo36⟩ := Kd.V_slice HO_8.out
                    subst eo36
                    go_wp2
                    go_ret
                    exact ⟨by first | rfl | (simp [errW_none, errW_some] <;> rfl) | (simp [*, errW_none, errW_some] <;> rfl), by repeat (first | (with_reducible first | exact HB.out | apply below_alloc | apply pw_below_drewN | apply below_drew1) | exact HB.out)⟩
                · replace c24 := Bool.eq_false_iff.mpr c24
                  subst c24
                  have H1 : (some false) = some r := by rw [if_neg (show ¬ (false = true) by decide)] at H; exact H
                  clear H
                  have H := H1
                  clear H1
                  obtain rfl := Option.some.inj H
                  go_wp2
                  go_ret
                  exact ⟨by first | rfl | (simp [errW_none, errW_some] <;> rfl) | (simp [*, errW_none, errW_some] <;> rfl), by repeat (first | (with_reducible first | exact HB.out | apply below_alloc | apply pw_below_drewN | apply below_drew1) | exact HB.out)⟩
              · replace c23 := Bool.eq_false_iff.mpr c23
                subst c23
                have H1 : (some false) = some r := by rw [if_neg (show ¬ (false = true) by decide)] at H; exact H
                clear H
                have H := H1
                clear H1
                obtain rfl := Option.some.inj H
                go_wp2
                go_ret
                exact ⟨by first | rfl | (simp [errW_none, errW_some] <;> rfl) | (simp [*, errW_none, errW_some] <;> rfl), by repeat (first | (with_reducible first | exact HB.out | apply below_alloc | apply pw_below_drewN | apply below_drew1) | exact HB.out)⟩

end Go.Proofs.Ytknlbeojdmeljaa.P
