-- cut by shake.py (own program) out of this session's texts
import Derived.Test.YtknlbeojdmeljaaDoorCFM2
namespace Go.Proofs.YtknlbeojdmeljaaDoor.P
open Go.RowKit Go.Proofs.YtknlbeojdmeljaaDoorW.PrintWords Go.Proofs.YtknlbeojdmeljaaDoorW.PrintLast Go.Proofs.YtknlbeojdmeljaaDoorW.PrintMore
attribute [local go_sem] max2_int min2_int max_two min_two max_three min_three max_four min_four   -- for this text's walks alone
set_option linter.unusedVariables false
set_option linter.unusedSimpArgs false
mutual
def slotmeshref33_Add.j0 : Nat → List (S25) → Bool → Int → List Int → Option ((List (S25)) × Bool × Int)
  | 0, _, _, _, _ => none
  | k + 1, x0, x20, x143000, x143001 => if x20 = true then (some (([] : List (S25)), false, 1)) else ((slotmeshref33_reduce.f k x0 x143000 x143001).bind fun bt145 => (if bt145.1 = 0 then ((slotmeshref33_Zero.f k bt145.2).bind fun t150 => (if t150 = true then ((slotmeshref33_Copy.f k x0).bind fun t151 => (some (t151, false, 0))) else (some (([] : List (S25)), false, 12)))) else ((slotmeshref33_Leading.f k bt145.1).bind fun t154 => ((slotmeshref33_Copy.f k x0).bind fun t155 => (slotmeshref33_Add.l0 k t154 ([] : List (S25)) false t155 0 bt145.1 bt145.2)))))
def slotmeshref33_Add.l0 : Nat → Int → List (S25) → Bool → List (S25) → Int → Int → List Int → Option ((List (S25)) × Bool × Int)
  | 0, _, _, _, _, _, _, _ => none
  | k + 1, x8, x9, x10, x11, x12, x150000, x150001 => if x12 < (x11.length : Int) then (if x10 = true then (slotmeshref33_Add.j2 k x8 x9 x10 x11 x12 false x150000 x150001) else (if 0 ≤ x12 then ((slotmeshref33_Leading.f k ((rd_T25 x11 x12).f0)).bind fun t162 => (slotmeshref33_Add.j2 k x8 x9 x10 x11 x12 (decide (t162 < x8)) x150000 x150001)) else (none))) else (if x10 = true then (some (x9, true, 0)) else (if x9.length < 4398046511104 then (some ((x9 ++ [(⟨x150000, x150001⟩ : S25)]), true, 0)) else (none)))
def slotmeshref33_Add.j2 : Nat → Int → List (S25) → Bool → List (S25) → Int → Bool → Int → List Int → Option ((List (S25)) × Bool × Int)
  | 0, _, _, _, _, _, _, _, _ => none
  | k + 1, x8, x9, x10, x11, x12, x55, x150000, x150001 => if x55 = true then (if x9.length < 4398046511104 then (slotmeshref33_Add.j3 k x8 (x9 ++ [(⟨x150000, x150001⟩ : S25)]) true x11 x12 x150000 x150001) else (none)) else (slotmeshref33_Add.j3 k x8 x9 x10 x11 x12 x150000 x150001)
def slotmeshref33_Add.j3 : Nat → Int → List (S25) → Bool → List (S25) → Int → Int → List Int → Option ((List (S25)) × Bool × Int)
  | 0, _, _, _, _, _, _, _ => none
  | k + 1, x8, x9, x10, x11, x12, x150000, x150001 => if 0 ≤ x12 then (if x12 < (x11.length : Int) then (if (Go.bits .and .i64 ((rd_T25 x11 x12).f0) x8) = 0 then (if x9.length < 4398046511104 then (slotmeshref33_Add.l0 k x8 (x9 ++ [(⟨(rd_T25 x11 x12).f0, (rd_T25 x11 x12).f1⟩ : S25)]) x10 x11 (wrap64 (x12 + 1)) x150000 x150001) else (none)) else ((slotmeshref33_Xor.f k ((rd_T25 x11 x12).f1) x150001).bind fun t173 => ((some (x11.set (x12 : Int).toNat (⟨Go.bits .xor .i64 ((rd_T25 x11 x12).f0) x150000, t173⟩ : S25) : List (S25))).bind fun y176 => (if x9.length < 4398046511104 then (slotmeshref33_Add.l0 k x8 (x9 ++ [(⟨(rd_T25 y176 x12).f0, (rd_T25 y176 x12).f1⟩ : S25)]) x10 y176 (wrap64 (x12 + 1)) x150000 x150001) else (none))))) else (none)) else (none)
end
def slotmeshref33_Add.f (k : Nat) (l0 : List (S25)) (a1_0 : Int) (l1_1 : List Int) : Option ((List (S25)) × Bool × Int) := (slotmeshref33_Valid.f k l0).bind fun t143 => (if t143 = true then ((slotmeshref33_Formed.f a1_0 l1_1).bind fun t144 => (slotmeshref33_Add.j0 k l0 (!t144) a1_0 l1_1)) else (slotmeshref33_Add.j0 k l0 true a1_0 l1_1))
def slotmeshref33_Add.T19 : Bool × List (List Nat × List Nat) := (true, [([], []), ([], []), ([], []), ([], []), ([2, 3], [2, 3]), ([4], [4]), ([5], [5]), ([], []), ([7], [7]), ([6, 8], [6, 8]), ([], []), ([], []), ([10, 11], [10, 11]), ([12], [12]), ([13], [13]), ([], []), ([15], [15]), ([14, 16], [14, 16]), ([9, 17], [9, 17]), ([0, 1, 0, 1, 2, 3, 4, 5, 6, 7, 8, 9, 10, 11, 12, 13, 14, 15, 16, 17, 18], [0, 1]), ([19, 18, 17, 0, 1, 2, 3, 4, 5, 6, 7, 8, 9, 10, 11, 12, 13, 14, 15, 16, 17, 18], [18, 19])])
def slotmeshref33_Add.B19 : List Nat := [0, 0, 0, 0, 12, 28, 60, 0, 128, 508, 0, 0, 3072, 7168, 15360, 0, 32768, 130048, 262140, 524287, 1048575]
theorem slotmeshref33_Add.tab19 : rtab .any (opsOf Tryd.f36 19) = slotmeshref33_Add.T19 := by kernel_rfl
theorem slotmeshref33_Add.bits19 : waitsOk slotmeshref33_Add.T19.2 slotmeshref33_Add.B19 = true := by kernel_rfl
set_option maxHeartbeats 8000000 in
set_option maxRecDepth 100000 in
theorem slotmeshref33_Add.calls (k : Nat) (A0 : Option Addr) (c0 : Nat) (l0 : List (S25)) (a1_0 : Int) (P1_1_ : Nat → Prop) (A1_1 : Option Addr) (c1_1 : Nat) (l1_1 : List Int) (r1 : List (S25)) (r2 : Bool) (r3 : Int) (w : World) (hr0 : Kd.C k25 w A0 l0.length l0) (hc0 : l0.length ≤ c0) (hs1_1 : Kd.V (Kd.int .u8) 5 w w.heap.size (fun k_ => P1_1_ k_) (.slice A1_1 l1_1.length c1_1) l1_1) (h : slotmeshref33_Add.f k l0 a1_0 l1_1 = some (r1, r2, r3)) :
    Calls Tryd.prog 36 #[.slice A0 l0.length c0, .agg #[.int .i64 a1_0, .slice A1_1 l1_1.length c1_1]] w fun e w' => ∃ v0_ : Value, e = .returned (.tuple #[v0_, .bool r2, .int .i64 r3]) ∧ Kd.N k25 52 w' w.heap.size (fun k_ => (P1_1_ k_ ∨ w.heap.size ≤ k_)) v0_ r1 ∧ Below w.heap.size w w' := by
  have hu52 := Tryd.underlying52
  have HR0 := Aside0.mk hr0
  have HC0 := Aside0.mk hc0
  clear hr0 hc0
  have HO1_1 := Aside0.mk (show Kd.V (Kd.int .u8) 5 w w.heap.size (fun k_ => (P1_1_ k_ ∨ w.heap.size ≤ k_)) (.slice A1_1 l1_1.length c1_1) l1_1 from Kd.V_mono hs1_1 (fun k_ hk => .inl hk))
  have HB := Aside0.mk (Below.refl w.heap.size w)
  have H : ((slotmeshref33_Valid.f k l0).bind fun t143 => (if t143 = true then ((slotmeshref33_Formed.f a1_0 l1_1).bind fun t144 => (slotmeshref33_Add.j0 k l0 (!t144) a1_0 l1_1)) else (slotmeshref33_Add.j0 k l0 true a1_0 l1_1))) = some (r1, r2, r3) := h
  clear h
  have HC3 := Aside0.mk H
  clear H
  go_enter Tryd.func36, Tryd.ntmps36
  go_upto_region 1 with (first | ((with_reducible refine gate_dst (N := 3) rfl ?_); refine box_event ?hg (N := 3) ?hd (cs := #[.int .i64 a1_0, .slice A1_1 l1_1.length c1_1]) (t := 52) ?hr ?_; (case hd => rfl); (case hg => rfl); (case hr => first | (go_simp; done) | (go_simp; rfl)); intro gb142 hg w4 hbox hb; have n0_ := Aside0.mk (Kd.V_below (Kd.V_elderB (by (with_reducible repeat (first | apply Kd.V_alloc | apply Kd.V_drewN | apply Kd.V_drew)); exact HO1_1.out) gb142 (Nat.le_of_eq hg.symm)) hb); have n1_ := Aside0.mk (below_step (by repeat (first | (with_reducible first | exact HB.out | apply below_alloc | apply pw_below_drewN | apply below_drew1) | exact HB.out)) hb); have n2_ := Aside0.mk (hbox); have n3_ := Aside0.mk ((by rw [hg]; exact (below_size (by repeat (first | (with_reducible first | exact HB.out | apply below_alloc | apply pw_below_drewN | apply below_drew1) | exact HB.out))) : w.heap.size ≤ gb142)); have n4_ := Aside0.mk ((by rw [hg]; exact (below_size (by repeat (first | (with_reducible first | exact HB.out | apply below_alloc | apply pw_below_drewN | apply below_drew1) | exact HB.out))) : w.heap.size ≤ gb142)); clear HO1_1; clear HB; have HO1_1 := n0_; have HB := n1_; have BK142 := n2_; have GW142 := n3_; have GE142 := n4_; clear n0_ n1_ n2_ n3_ n4_; clear hb hbox hg))
  (try simp only [Act.put, List.setIfInBounds_toArray, List.set_cons_zero, List.set_cons_succ])
  go_cut [20] (fun v20 wc => ∃ (kq : Nat) (x20_2 : Bool), v20 = .bool x20_2 ∧ Aside0 (slotmeshref33_Add.j0 kq l0 x20_2 a1_0 l1_1 = some (r1, r2, r3)) ∧ Aside0 (kq ≤ k) ∧ Aside0 (Kd.V (Kd.int .u8) 5 wc w.heap.size (fun k_ => (P1_1_ k_ ∨ w.heap.size ≤ k_) ∧ k_ ≠ gb142) (.slice A1_1 l1_1.length c1_1) l1_1) ∧ Aside0 (wc.heap[gb142]? = some (.cells #[.int .i64 a1_0, (.slice A1_1 l1_1.length c1_1)] 52 (0, 0))) ∧ Aside0 (Below w.heap.size w wc))
  case first =>
    have H := HC3.out
    clear HC3
    replace H := Option.bind_eq_some_iff.mp H
    obtain ⟨t143, A50, H⟩ := H
    replace H : (if t143 = true then ((slotmeshref33_Formed.f a1_0 l1_1).bind fun t144 => (slotmeshref33_Add.j0 k l0 (!t144) a1_0 l1_1)) else (slotmeshref33_Add.j0 k l0 true a1_0 l1_1)) = some (r1, r2, r3) := H
    have A5 := Aside0.mk A50
    clear A50
    by_cases c6 : t143 = true
    · subst c6
      have H1 : ((slotmeshref33_Formed.f a1_0 l1_1).bind fun t144 => (slotmeshref33_Add.j0 k l0 (!t144) a1_0 l1_1)) = some (r1, r2, r3) := by rw [if_pos rfl] at H; exact H
      clear H
      have H := H1
      clear H1
      replace H := Option.bind_eq_some_iff.mp H
      obtain ⟨t144, A70, H⟩ := H
      replace H : (slotmeshref33_Add.j0 k l0 (!t144) a1_0 l1_1) = some (r1, r2, r3) := H
      have A7 := Aside0.mk A70
      clear A70
      have H' := Aside0.mk H
      clear H
      go_wp2_with (first | ((with_reducible refine gate_callee (f := 39) rfl ?_); refine goesL_ (some 14) rfl rfl Tryd.func39 (by kernel_rfl) rfl #[.slice A0 l0.length c0] rfl (by (try simp only [List.map_toArray, List.map_cons, List.map_nil]); first | done | rfl | (simp only [List.length_drop, List.length_take]; rfl)) ?_; (with_reducible refine (slotmeshref33_Valid.calls k _ _ l0 true _ ?side1 ?side2 A5.out).mono ?_); (case side1 => repeat (first | exact (Kd.C_below HR0.out HB.out) | (with_reducible refine Kd.C_alloc ?_ _) | (with_reducible refine Kd.C_drewN ?_ _) | (with_reducible refine Kd.C_drew ?_))); (case side2 => exact HC0.out); rintro e w8 ⟨rfl, hb⟩; refine ⟨_, rfl, ?_⟩; have n0_ := Aside0.mk (Kd.V_below (by (with_reducible repeat (first | apply Kd.V_alloc | apply Kd.V_drewN | apply Kd.V_drew)); exact HO1_1.out) hb); have n1_ := Aside0.mk (blk_below (g := gb142) (o := .cells #[.int .i64 a1_0, .slice A1_1 l1_1.length c1_1] 52 (0, 0)) (by (with_reducible repeat (first | refine blk_drewN ?_ _ | refine blk_drew ?_ | refine blk_alloc ?_ _)); exact BK142.out) hb); have n2_ := Aside0.mk (below_step (by repeat (first | (with_reducible first | exact HB.out | apply below_alloc | apply pw_below_drewN | apply below_drew1 | refine below_set ?_ GE142.out) | exact HB.out)) hb); clear HO1_1; clear BK142; clear HB; have HO1_1 := n0_; have BK142 := n1_; have HB := n2_; clear n0_ n1_ n2_; (try clear hb); (try clear hb2); (try clear hk); (try clear hi); have hcz9_0 : w8.cell? ⟨gb142, 0, none⟩ = some (.int .i64 a1_0) := (blk_cell BK142.out 0).trans rfl; have hcz9_1 : w8.cell? ⟨gb142, 1, none⟩ = some (.slice A1_1 l1_1.length c1_1) := (blk_cell BK142.out 1).trans rfl; have hfz9_0 := blk_frozen BK142.out 0; have hfz9_1 := blk_frozen BK142.out 1) | (go_at_call 52; (with_reducible refine (slotmeshref33_Formed.calls a1_0 _ _ l1_1 t144 _ ?side1 ?side2 A7.out).mono ?_); (case side1 => repeat (first | exact (Kd.V_reads' HO1_1.out).2.2 | (with_reducible refine Kd.C_alloc ?_ _) | (with_reducible refine Kd.C_drewN ?_ _) | (with_reducible refine Kd.C_drew ?_))); (case side2 => exact (Kd.V_reads' HO1_1.out).2.1); rintro e w10 ⟨rfl, hb⟩; have n0_ := Aside0.mk (Kd.V_below (by (with_reducible repeat (first | apply Kd.V_alloc | apply Kd.V_drewN | apply Kd.V_drew)); exact HO1_1.out) hb); have n1_ := Aside0.mk (blk_below (g := gb142) (o := .cells #[.int .i64 a1_0, .slice A1_1 l1_1.length c1_1] 52 (0, 0)) (by (with_reducible repeat (first | refine blk_drewN ?_ _ | refine blk_drew ?_ | refine blk_alloc ?_ _)); exact BK142.out) hb); have n2_ := Aside0.mk (below_step (by repeat (first | (with_reducible first | exact HB.out | apply below_alloc | apply pw_below_drewN | apply below_drew1 | refine below_set ?_ GE142.out) | exact HB.out)) hb); clear HO1_1; clear BK142; clear HB; have HO1_1 := n0_; have BK142 := n1_; have HB := n2_; clear n0_ n1_ n2_; (try clear hb); (try clear hb2); (try clear hk); (try clear hi)))
      go_meet
      case rel => exact ⟨_, (!t144), (by first | rfl | (simp; done) | (simp [*]; done)), H', ⟨by first | omega | exact Nat.le_refl _⟩, ⟨by (with_reducible repeat (first | apply Kd.V_alloc | apply Kd.V_drewN | apply Kd.V_drew)); exact HO1_1.out⟩, ⟨by (with_reducible repeat (first | refine blk_drewN ?_ _ | refine blk_drew ?_ | refine blk_alloc ?_ _)); exact BK142.out⟩, ⟨by repeat (first | (with_reducible first | exact HB.out | apply below_alloc | apply pw_below_drewN | apply below_drew1 | refine below_set ?_ GE142.out) | exact HB.out)⟩⟩
    · replace c6 := Bool.eq_false_iff.mpr c6
      subst c6
      have H1 : (slotmeshref33_Add.j0 k l0 true a1_0 l1_1) = some (r1, r2, r3) := by rw [if_neg (show ¬ (false = true) by decide)] at H; exact H
      clear H
      have H := H1
      clear H1
      have H' := Aside0.mk H
      clear H
      go_wp2_with (first | ((with_reducible refine gate_callee (f := 39) rfl ?_); refine goesL_ (some 14) rfl rfl Tryd.func39 (by kernel_rfl) rfl #[.slice A0 l0.length c0] rfl (by (try simp only [List.map_toArray, List.map_cons, List.map_nil]); first | done | rfl | (simp only [List.length_drop, List.length_take]; rfl)) ?_; (with_reducible refine (slotmeshref33_Valid.calls k _ _ l0 false _ ?side1 ?side2 A5.out).mono ?_); (case side1 => repeat (first | exact (Kd.C_below HR0.out HB.out) | (with_reducible refine Kd.C_alloc ?_ _) | (with_reducible refine Kd.C_drewN ?_ _) | (with_reducible refine Kd.C_drew ?_))); (case side2 => exact HC0.out); rintro e w11 ⟨rfl, hb⟩; refine ⟨_, rfl, ?_⟩; have n0_ := Aside0.mk (Kd.V_below (by (with_reducible repeat (first | apply Kd.V_alloc | apply Kd.V_drewN | apply Kd.V_drew)); exact HO1_1.out) hb); have n1_ := Aside0.mk (blk_below (g := gb142) (o := .cells #[.int .i64 a1_0, .slice A1_1 l1_1.length c1_1] 52 (0, 0)) (by (with_reducible repeat (first | refine blk_drewN ?_ _ | refine blk_drew ?_ | refine blk_alloc ?_ _)); exact BK142.out) hb); have n2_ := Aside0.mk (below_step (by repeat (first | (with_reducible first | exact HB.out | apply below_alloc | apply pw_below_drewN | apply below_drew1 | refine below_set ?_ GE142.out) | exact HB.out)) hb); clear HO1_1; clear BK142; clear HB; have HO1_1 := n0_; have BK142 := n1_; have HB := n2_; clear n0_ n1_ n2_; (try clear hb); (try clear hb2); (try clear hk); (try clear hi)))
      go_meet
      case rel => exact ⟨_, (true), (by first | rfl | (simp; done) | (simp [*]; done)), H', ⟨by first | omega | exact Nat.le_refl _⟩, ⟨by (with_reducible repeat (first | apply Kd.V_alloc | apply Kd.V_drewN | apply Kd.V_drew)); exact HO1_1.out⟩, ⟨by (with_reducible repeat (first | refine blk_drewN ?_ _ | refine blk_drew ?_ | refine blk_alloc ?_ _)); exact BK142.out⟩, ⟨by repeat (first | (with_reducible first | exact HB.out | apply below_alloc | apply pw_below_drewN | apply below_drew1 | refine below_set ?_ GE142.out) | exact HB.out)⟩⟩
  case rest =>
    clear HC3
    try clear c1
    try clear p2
    try clear c3
    try clear c6
    try clear hcz9_0
    try clear hcz9_1
    try clear hfz9_0
    try clear hfz9_1
    obtain ⟨kq, x20_2, rfl, HA, HJ2, HO_143001, BK142, HB⟩ := hcut
    cases kq with
    | zero => exact absurd HA.out (by simp [slotmeshref33_Add.j0])
    | succ kj2 =>
      have H := HA.out
      clear HA
      simp only [slotmeshref33_Add.j0] at H
      by_cases c12 : x20_2 = true
      · subst c12
        have H1 : (some (([] : List (S25)), false, 1)) = some (r1, r2, r3) := by rw [if_pos rfl] at H; exact H
        clear H
        have H := H1
        clear H1
        simp only [Option.some.injEq, Prod.mk.injEq] at H
        obtain ⟨rfl, rfl, rfl⟩ := H
        go_wp2
        go_ret3
        exact ⟨_, by first | rfl | (simp [errW_none, errW_some] <;> rfl) | (simp [*, errW_none, errW_some] <;> rfl), by first | exact Kd.S_nil _ _ _ _ _ | exact Kd.N_nil _ _ _ _ _ | exact Kd.V_nil _ _ _ _ _ | exact Kd.Q_nil _ _ _ _ _ | exact Kd.R_nil _ _ _ _ _, by repeat (first | (with_reducible first | exact HB.out | apply below_alloc | apply pw_below_drewN | apply below_drew1 | refine below_set ?_ GE142.out) | exact HB.out)⟩
      · replace c12 := Bool.eq_false_iff.mpr c12
        subst c12
        have H1 : ((slotmeshref33_reduce.f kj2 l0 a1_0 l1_1).bind fun bt145 => (if bt145.1 = 0 then ((slotmeshref33_Zero.f kj2 bt145.2).bind fun t150 => (if t150 = true then ((slotmeshref33_Copy.f kj2 l0).bind fun t151 => (some (t151, false, 0))) else (some (([] : List (S25)), false, 12)))) else ((slotmeshref33_Leading.f kj2 bt145.1).bind fun t154 => ((slotmeshref33_Copy.f kj2 l0).bind fun t155 => (slotmeshref33_Add.l0 kj2 t154 ([] : List (S25)) false t155 0 bt145.1 bt145.2))))) = some (r1, r2, r3) := by rw [if_neg (show ¬ (false = true) by decide)] at H; exact H
        clear H
        have H := H1
        clear H1
        replace H := Option.bind_eq_some_iff.mp H
        obtain ⟨⟨t145, t146⟩, A130, H⟩ := H
        replace H : (if t145 = 0 then ((slotmeshref33_Zero.f kj2 t146).bind fun t150 => (if t150 = true then ((slotmeshref33_Copy.f kj2 l0).bind fun t151 => (some (t151, false, 0))) else (some (([] : List (S25)), false, 12)))) else ((slotmeshref33_Leading.f kj2 t145).bind fun t154 => ((slotmeshref33_Copy.f kj2 l0).bind fun t155 => (slotmeshref33_Add.l0 kj2 t154 ([] : List (S25)) false t155 0 t145 t146)))) = some (r1, r2, r3) := H
        have A13 := Aside0.mk A130
        clear A130
        by_cases c14 : t145 = 0
        · rw [if_pos c14] at H
          have c14b0 : (t145 == 0) = true := beq_iff_eq.mpr c14
          have c14b1 : (t145 != 0) = false := bne_eq_false_iff_eq.mpr c14
          clear c14
          replace H := Option.bind_eq_some_iff.mp H
          obtain ⟨t150, A150, H⟩ := H
          replace H : (if t150 = true then ((slotmeshref33_Copy.f kj2 l0).bind fun t151 => (some (t151, false, 0))) else (some (([] : List (S25)), false, 12))) = some (r1, r2, r3) := H
          have A15 := Aside0.mk A150
          clear A150
          by_cases c16 : t150 = true
          · subst c16
            have H1 : ((slotmeshref33_Copy.f kj2 l0).bind fun t151 => (some (t151, false, 0))) = some (r1, r2, r3) := by rw [if_pos rfl] at H; exact H
            clear H
            have H := H1
            clear H1
            replace H := Option.bind_eq_some_iff.mp H
            obtain ⟨t151, A170, H⟩ := H
            replace H : (some (t151, false, 0)) = some (r1, r2, r3) := H
            have A17 := Aside0.mk A170
            clear A170
            simp only [Option.some.injEq, Prod.mk.injEq] at H
            obtain ⟨rfl, rfl, rfl⟩ := H
            have hcz18_0 : wc.cell? ⟨gb142, 0, none⟩ = some (.int .i64 a1_0) := (blk_cell BK142.out 0).trans rfl
            have hcz18_1 : wc.cell? ⟨gb142, 1, none⟩ = some (.slice A1_1 l1_1.length c1_1) := (blk_cell BK142.out 1).trans rfl
            have hfz18_0 := blk_frozen BK142.out 0
            have hfz18_1 := blk_frozen BK142.out 1
            go_wp2_with (first | ((with_reducible refine gate_callee (f := 53) rfl ?_); refine goesL_ (some 23) rfl rfl Tryd.func53 (by kernel_rfl) rfl #[.slice A0 l0.length c0, .agg #[.int .i64 a1_0, .slice A1_1 l1_1.length c1_1]] rfl (by (try simp only [List.map_toArray, List.map_cons, List.map_nil]); first | done | rfl | (simp only [List.length_drop, List.length_take]; rfl)) ?_; (with_reducible refine (slotmeshref33_reduce.calls kj2 _ _ l0 a1_0 (fun k_ => ((P1_1_ k_ ∨ w.heap.size ≤ k_) ∧ k_ ≠ gb142)) _ _ l1_1 t145 t146 _ ?side1 ?side2 ?side3 A13.out).mono ?_); (case side1 => repeat (first | exact (Kd.C_below HR0.out HB.out) | (with_reducible refine Kd.C_alloc ?_ _) | (with_reducible refine Kd.C_drewN ?_ _) | (with_reducible refine Kd.C_drew ?_))); (case side2 => exact HC0.out); (case side3 => exact HO_143001.out); rintro e w19 ⟨v147, rfl, ho0, hb⟩; refine ⟨_, rfl, ?_⟩; have n0_ := Aside0.mk (Kd.V_below (by (with_reducible repeat (first | apply Kd.V_alloc | apply Kd.V_drewN | apply Kd.V_drew)); exact HO_143001.out) hb); have n1_ := Aside0.mk (Kd.V_lower (Kd.V_mono (ok' := fun k_ => (P1_1_ k_ ∨ w.heap.size ≤ k_) ∧ k_ ≠ gb142) ho0 (fun k_ hk_ => ⟨Or.elim hk_ (fun hs_ => hs_.1) (fun hn_ => (.inr (Nat.le_trans (below_size (by repeat (first | (with_reducible first | exact HB.out | apply below_alloc | apply pw_below_drewN | apply below_drew1 | refine below_set ?_ GE142.out) | exact HB.out))) hn_))), Or.elim hk_ (fun hs_ => hs_.2) (fun hn_ => (Kd.freshB (g := gb142) (o := .cells #[.int .i64 a1_0, .slice A1_1 l1_1.length c1_1] 52 (0, 0)) (by (with_reducible repeat (first | refine blk_drewN ?_ _ | refine blk_drew ?_ | refine blk_alloc ?_ _)); exact BK142.out) k_ hn_))⟩)) (below_size (by repeat (first | (with_reducible first | exact HB.out | apply below_alloc | apply pw_below_drewN | apply below_drew1 | refine below_set ?_ GE142.out) | exact HB.out)))); have n2_ := Aside0.mk (blk_below (g := gb142) (o := .cells #[.int .i64 a1_0, .slice A1_1 l1_1.length c1_1] 52 (0, 0)) (by (with_reducible repeat (first | refine blk_drewN ?_ _ | refine blk_drew ?_ | refine blk_alloc ?_ _)); exact BK142.out) hb); have n3_ := Aside0.mk (below_step (by repeat (first | (with_reducible first | exact HB.out | apply below_alloc | apply pw_below_drewN | apply below_drew1 | refine below_set ?_ GE142.out) | exact HB.out)) hb); clear HO_143001; clear BK142; clear HB; have HO_143001 := n0_; have HO148 := n1_; have BK142 := n2_; have HB := n3_; clear n0_ n1_ n2_ n3_; (try clear hb); (try clear hb2); (try clear hk); (try clear hi); (try clear ho0)) | ((with_reducible refine gate_dst (N := 7) rfl ?_); refine box_event ?hg (N := 7) ?hd (cs := #[.int .i64 0, .slice none 0 0]) (t := 52) ?hr ?_; (case hd => rfl); (case hg => rfl); (case hr => first | (go_simp; done) | (go_simp; rfl)); intro gb149 hg w20 hbox hb; have n0_ := Aside0.mk (Kd.V_below (Kd.V_elderB (by (with_reducible repeat (first | apply Kd.V_alloc | apply Kd.V_drewN | apply Kd.V_drew)); exact HO_143001.out) gb149 (Nat.le_of_eq hg.symm)) hb); have n1_ := Aside0.mk (Kd.V_below (Kd.V_elderB (by (with_reducible repeat (first | apply Kd.V_alloc | apply Kd.V_drewN | apply Kd.V_drew)); exact HO148.out) gb149 (Nat.le_of_eq hg.symm)) hb); have n2_ := Aside0.mk (blk_below (g := gb142) (o := .cells #[.int .i64 a1_0, .slice A1_1 l1_1.length c1_1] 52 (0, 0)) (by (with_reducible repeat (first | refine blk_drewN ?_ _ | refine blk_drew ?_ | refine blk_alloc ?_ _)); exact BK142.out) hb); have n3_ := Aside0.mk (below_step (by repeat (first | (with_reducible first | exact HB.out | apply below_alloc | apply pw_below_drewN | apply below_drew1 | refine below_set ?_ GE142.out) | exact HB.out)) hb); have n4_ := Aside0.mk (hbox); have n5_ := Aside0.mk ((by rw [hg]; exact (below_size (by repeat (first | (with_reducible first | exact HB.out | apply below_alloc | apply pw_below_drewN | apply below_drew1 | refine below_set ?_ GE142.out) | exact HB.out))) : w.heap.size ≤ gb149)); have n6_ := Aside0.mk ((by rw [hg]; exact (below_size (by repeat (first | (with_reducible first | exact HB.out | apply below_alloc | apply pw_below_drewN | apply below_drew1 | refine below_set ?_ GE142.out) | exact HB.out))) : w.heap.size ≤ gb149)); have n7_ := Aside0.mk ((by rw [hg]; exact Nat.ne_of_lt (blk_lt (g := gb142) (o := .cells #[.int .i64 a1_0, .slice A1_1 l1_1.length c1_1] 52 (0, 0)) (by (with_reducible repeat (first | refine blk_drewN ?_ _ | refine blk_drew ?_ | refine blk_alloc ?_ _)); exact BK142.out)) : gb142 ≠ gb149)); have n8_ := Aside0.mk ((by rw [hg]; exact Nat.ne_of_gt (blk_lt (g := gb142) (o := .cells #[.int .i64 a1_0, .slice A1_1 l1_1.length c1_1] 52 (0, 0)) (by (with_reducible repeat (first | refine blk_drewN ?_ _ | refine blk_drew ?_ | refine blk_alloc ?_ _)); exact BK142.out)) : gb149 ≠ gb142)); clear HO_143001; clear HO148; clear BK142; clear HB; have HO_143001 := n0_; have HO148 := n1_; have BK142 := n2_; have HB := n3_; have BK149 := n4_; have GW149 := n5_; have GE149 := n6_; have NB142_149 := n7_; have NB149_142 := n8_; clear n0_ n1_ n2_ n3_ n4_ n5_ n6_ n7_ n8_; clear hb hbox hg; have hnb21 := NB149_142.out; have hnc21 := NB142_149.out; have hcz22_0 : w20.cell? ⟨gb149, 0, none⟩ = some (.int .i64 0) := (blk_cell BK149.out 0).trans rfl; have hcz22_1 : w20.cell? ⟨gb149, 1, none⟩ = some (.slice none 0 0) := (blk_cell BK149.out 1).trans rfl; have hfz22_0 := blk_frozen BK149.out 0; have hfz22_1 := blk_frozen BK149.out 1; obtain ⟨Ao23, co23, eo23⟩ := Kd.V_slice HO148.out; subst eo23) | ((with_reducible refine gate_callee (f := 54) rfl ?_); refine goesL_ (some 29) rfl rfl Tryd.func54 (by kernel_rfl) rfl #[.slice Ao23 t146.length co23] rfl (by (try simp only [List.map_toArray, List.map_cons, List.map_nil]); first | done | rfl | (simp only [List.length_drop, List.length_take]; rfl)) ?_; (with_reducible refine (slotmeshref33_Zero.calls kj2 _ _ t146 true _ ?side1 ?side2 A15.out).mono ?_); (case side1 => refine (Kd.V_reads' (e := 5) (base := w.heap.size) (ok := fun k_ => (((P1_1_ k_ ∨ w.heap.size ≤ k_) ∧ k_ ≠ gb142) ∧ k_ ≠ gb149)) (n := t146.length) (c := co23) ?_).2.2; exact (by (with_reducible repeat (first | apply Kd.V_alloc | apply Kd.V_drewN | apply Kd.V_drew)); exact (Kd.V_mono (Kd.V_far (p := ⟨gb149, 1, none⟩) (Kd.V_far (p := ⟨gb149, 0, none⟩) (Kd.V_mono HO148.out (fun k_ hk => (⟨hk, hk.2⟩ : _ ∧ k_ ≠ gb149))) (fun _ hk => hk.2) (.int .i64 t145)) (fun _ hk => hk.2) (.slice Ao23 t146.length co23)) (fun _ h_ => h_.1)))); (case side2 => exact (Kd.V_reads' HO148.out).2.1); rintro e w' ⟨rfl, ⟨nd, rfl⟩⟩; refine ⟨_, rfl, ?_⟩) | ((with_reducible refine gate_callee (f := 55) rfl ?_); refine goesL_ (some 32) rfl rfl Tryd.func55 (by kernel_rfl) rfl #[.slice A0 l0.length c0] rfl (by (try simp only [List.map_toArray, List.map_cons, List.map_nil]); first | done | rfl | (simp only [List.length_drop, List.length_take]; rfl)) ?_; (with_reducible refine (slotmeshref33_Copy.calls kj2 _ _ l0 t151 _ ?side1 ?side2 A17.out).mono ?_); (case side1 => exact Kd.C_below HR0.out (by repeat (first | (with_reducible first | exact HB.out | apply below_alloc | apply pw_below_drewN | apply below_drew1 | refine below_set ?_ GE142.out | refine below_set ?_ GE149.out) | exact HB.out))); (case side2 => exact HC0.out); rintro e w24 ⟨v152, rfl, ho0, hb⟩; refine ⟨_, rfl, ?_⟩; have n0_ := Aside0.mk (Kd.V_elder' (by (with_reducible repeat (first | apply Kd.V_alloc | apply Kd.V_drewN | apply Kd.V_drew)); exact (Kd.V_mono (Kd.V_far (p := ⟨gb149, 1, none⟩) (Kd.V_far (p := ⟨gb149, 0, none⟩) (Kd.V_mono HO_143001.out (fun k_ hk => (⟨hk, hk.2⟩ : _ ∧ k_ ≠ gb149))) (fun _ hk => hk.2) (.int .i64 t145)) (fun _ hk => hk.2) (.slice Ao23 t146.length co23)) (fun _ h_ => h_.1))) (Kd.S_base ho0) hb); have n1_ := Aside0.mk (Kd.V_elder' (by (with_reducible repeat (first | apply Kd.V_alloc | apply Kd.V_drewN | apply Kd.V_drew)); exact (Kd.V_mono (Kd.V_far (p := ⟨gb149, 1, none⟩) (Kd.V_far (p := ⟨gb149, 0, none⟩) (Kd.V_mono HO148.out (fun k_ hk => (⟨hk, hk.2⟩ : _ ∧ k_ ≠ gb149))) (fun _ hk => hk.2) (.int .i64 t145)) (fun _ hk => hk.2) (.slice Ao23 t146.length co23)) (fun _ h_ => h_.1))) (Kd.S_base ho0) hb); have n2_ := Aside0.mk (Kd.N_lower (Kd.N_mono (ok' := fun k_ => (P1_1_ k_ ∨ w.heap.size ≤ k_) ∧ k_ ≠ gb142 ∧ k_ ≠ gb149) (Kd.S_N (Kd.S_bound ho0)) (fun k_ hk_ => ⟨(.inr (Nat.le_trans (below_size (by repeat (first | (with_reducible first | exact HB.out | apply below_alloc | apply pw_below_drewN | apply below_drew1 | refine below_set ?_ GE142.out | refine below_set ?_ GE149.out) | exact HB.out))) hk_.2.1)), (Kd.freshB (g := gb142) (o := .cells #[.int .i64 a1_0, .slice A1_1 l1_1.length c1_1] 52 (0, 0)) (by (with_reducible repeat (first | refine blk_drewN ?_ _ | refine blk_drew ?_ | refine blk_alloc ?_ _)); refine blk_far ?_ NB142_149.out _; (with_reducible repeat (first | refine blk_drewN ?_ _ | refine blk_drew ?_ | refine blk_alloc ?_ _)); refine blk_far ?_ NB142_149.out _; (with_reducible repeat (first | refine blk_drewN ?_ _ | refine blk_drew ?_ | refine blk_alloc ?_ _)); exact BK142.out) k_ hk_.2.1), (Kd.freshB (g := gb149) (o := .cells #[.int .i64 t145, .slice Ao23 t146.length co23] 52 (0, 0)) (by (with_reducible repeat (first | refine blk_drewN ?_ _ | refine blk_drew ?_ | refine blk_alloc ?_ _)); refine blk_put (cs := #[.int .i64 t145, .slice none 0 0]) ?_ 1 _ rfl; (with_reducible repeat (first | refine blk_drewN ?_ _ | refine blk_drew ?_ | refine blk_alloc ?_ _)); refine blk_put (cs := #[.int .i64 0, .slice none 0 0]) ?_ 0 _ rfl; (with_reducible repeat (first | refine blk_drewN ?_ _ | refine blk_drew ?_ | refine blk_alloc ?_ _)); exact BK149.out) k_ hk_.2.1)⟩)) (below_size (by repeat (first | (with_reducible first | exact HB.out | apply below_alloc | apply pw_below_drewN | apply below_drew1 | refine below_set ?_ GE142.out | refine below_set ?_ GE149.out) | exact HB.out)))); have n3_ := Aside0.mk (blk_below (g := gb142) (o := .cells #[.int .i64 a1_0, .slice A1_1 l1_1.length c1_1] 52 (0, 0)) (by (with_reducible repeat (first | refine blk_drewN ?_ _ | refine blk_drew ?_ | refine blk_alloc ?_ _)); refine blk_far ?_ NB142_149.out _; (with_reducible repeat (first | refine blk_drewN ?_ _ | refine blk_drew ?_ | refine blk_alloc ?_ _)); refine blk_far ?_ NB142_149.out _; (with_reducible repeat (first | refine blk_drewN ?_ _ | refine blk_drew ?_ | refine blk_alloc ?_ _)); exact BK142.out) hb); have n4_ := Aside0.mk (blk_below (g := gb149) (o := .cells #[.int .i64 t145, .slice Ao23 t146.length co23] 52 (0, 0)) (by (with_reducible repeat (first | refine blk_drewN ?_ _ | refine blk_drew ?_ | refine blk_alloc ?_ _)); refine blk_put (cs := #[.int .i64 t145, .slice none 0 0]) ?_ 1 _ rfl; (with_reducible repeat (first | refine blk_drewN ?_ _ | refine blk_drew ?_ | refine blk_alloc ?_ _)); refine blk_put (cs := #[.int .i64 0, .slice none 0 0]) ?_ 0 _ rfl; (with_reducible repeat (first | refine blk_drewN ?_ _ | refine blk_drew ?_ | refine blk_alloc ?_ _)); exact BK149.out) hb); have n5_ := Aside0.mk (below_step (by repeat (first | (with_reducible first | exact HB.out | apply below_alloc | apply pw_below_drewN | apply below_drew1 | refine below_set ?_ GE142.out | refine below_set ?_ GE149.out) | exact HB.out)) hb); clear HO_143001; clear HO148; clear BK142; clear BK149; clear HB; have HO_143001 := n0_; have HO148 := n1_; have HO153 := n2_; have BK142 := n3_; have BK149 := n4_; have HB := n5_; clear n0_ n1_ n2_ n3_ n4_ n5_; (try clear hb); (try clear hb2); (try clear hk); (try clear hi); (try clear ho0)))
            go_ret3
            exact ⟨_, by first | rfl | (simp [errW_none, errW_some] <;> rfl) | (simp [*, errW_none, errW_some] <;> rfl), by (with_reducible repeat (first | apply Kd.N_alloc | apply Kd.N_drewN | apply Kd.N_drew)); exact Kd.N_mono HO153.out (fun _ hk => hk.1), by repeat (first | (with_reducible first | exact HB.out | apply below_alloc | apply pw_below_drewN | apply below_drew1 | refine below_set ?_ GE142.out | refine below_set ?_ GE149.out) | exact HB.out)⟩
          · replace c16 := Bool.eq_false_iff.mpr c16
            subst c16
            have H1 : (some (([] : List (S25)), false, 12)) = some (r1, r2, r3) := by rw [if_neg (show ¬ (false = true) by decide)] at H; exact H
            clear H
            have H := H1
            clear H1
            simp only [Option.some.injEq, Prod.mk.injEq] at H
            obtain ⟨rfl, rfl, rfl⟩ := H
            have hcz25_0 : wc.cell? ⟨gb142, 0, none⟩ = some (.int .i64 a1_0) := (blk_cell BK142.out 0).trans rfl
            have hcz25_1 : wc.cell? ⟨gb142, 1, none⟩ = some (.slice A1_1 l1_1.length c1_1) := (blk_cell BK142.out 1).trans rfl
            have hfz25_0 := blk_frozen BK142.out 0
            have hfz25_1 := blk_frozen BK142.out 1
            go_wp2_with (first | ((with_reducible refine gate_callee (f := 53) rfl ?_); refine goesL_ (some 23) rfl rfl Tryd.func53 (by kernel_rfl) rfl #[.slice A0 l0.length c0, .agg #[.int .i64 a1_0, .slice A1_1 l1_1.length c1_1]] rfl (by (try simp only [List.map_toArray, List.map_cons, List.map_nil]); first | done | rfl | (simp only [List.length_drop, List.length_take]; rfl)) ?_; (with_reducible refine (slotmeshref33_reduce.calls kj2 _ _ l0 a1_0 (fun k_ => ((P1_1_ k_ ∨ w.heap.size ≤ k_) ∧ k_ ≠ gb142)) _ _ l1_1 t145 t146 _ ?side1 ?side2 ?side3 A13.out).mono ?_); (case side1 => repeat (first | exact (Kd.C_below HR0.out HB.out) | (with_reducible refine Kd.C_alloc ?_ _) | (with_reducible refine Kd.C_drewN ?_ _) | (with_reducible refine Kd.C_drew ?_))); (case side2 => exact HC0.out); (case side3 => exact HO_143001.out); rintro e w26 ⟨v147, rfl, ho0, hb⟩; refine ⟨_, rfl, ?_⟩; have n0_ := Aside0.mk (Kd.V_below (by (with_reducible repeat (first | apply Kd.V_alloc | apply Kd.V_drewN | apply Kd.V_drew)); exact HO_143001.out) hb); have n1_ := Aside0.mk (Kd.V_lower (Kd.V_mono (ok' := fun k_ => (P1_1_ k_ ∨ w.heap.size ≤ k_) ∧ k_ ≠ gb142) ho0 (fun k_ hk_ => ⟨Or.elim hk_ (fun hs_ => hs_.1) (fun hn_ => (.inr (Nat.le_trans (below_size (by repeat (first | (with_reducible first | exact HB.out | apply below_alloc | apply pw_below_drewN | apply below_drew1 | refine below_set ?_ GE142.out) | exact HB.out))) hn_))), Or.elim hk_ (fun hs_ => hs_.2) (fun hn_ => (Kd.freshB (g := gb142) (o := .cells #[.int .i64 a1_0, .slice A1_1 l1_1.length c1_1] 52 (0, 0)) (by (with_reducible repeat (first | refine blk_drewN ?_ _ | refine blk_drew ?_ | refine blk_alloc ?_ _)); exact BK142.out) k_ hn_))⟩)) (below_size (by repeat (first | (with_reducible first | exact HB.out | apply below_alloc | apply pw_below_drewN | apply below_drew1 | refine below_set ?_ GE142.out) | exact HB.out)))); have n2_ := Aside0.mk (blk_below (g := gb142) (o := .cells #[.int .i64 a1_0, .slice A1_1 l1_1.length c1_1] 52 (0, 0)) (by (with_reducible repeat (first | refine blk_drewN ?_ _ | refine blk_drew ?_ | refine blk_alloc ?_ _)); exact BK142.out) hb); have n3_ := Aside0.mk (below_step (by repeat (first | (with_reducible first | exact HB.out | apply below_alloc | apply pw_below_drewN | apply below_drew1 | refine below_set ?_ GE142.out) | exact HB.out)) hb); clear HO_143001; clear BK142; clear HB; have HO_143001 := n0_; have HO148 := n1_; have BK142 := n2_; have HB := n3_; clear n0_ n1_ n2_ n3_; (try clear hb); (try clear hb2); (try clear hk); (try clear hi); (try clear ho0)) | ((with_reducible refine gate_dst (N := 7) rfl ?_); refine box_event ?hg (N := 7) ?hd (cs := #[.int .i64 0, .slice none 0 0]) (t := 52) ?hr ?_; (case hd => rfl); (case hg => rfl); (case hr => first | (go_simp; done) | (go_simp; rfl)); intro gb149 hg w27 hbox hb; have n0_ := Aside0.mk (Kd.V_below (Kd.V_elderB (by (with_reducible repeat (first | apply Kd.V_alloc | apply Kd.V_drewN | apply Kd.V_drew)); exact HO_143001.out) gb149 (Nat.le_of_eq hg.symm)) hb); have n1_ := Aside0.mk (Kd.V_below (Kd.V_elderB (by (with_reducible repeat (first | apply Kd.V_alloc | apply Kd.V_drewN | apply Kd.V_drew)); exact HO148.out) gb149 (Nat.le_of_eq hg.symm)) hb); have n2_ := Aside0.mk (blk_below (g := gb142) (o := .cells #[.int .i64 a1_0, .slice A1_1 l1_1.length c1_1] 52 (0, 0)) (by (with_reducible repeat (first | refine blk_drewN ?_ _ | refine blk_drew ?_ | refine blk_alloc ?_ _)); exact BK142.out) hb); have n3_ := Aside0.mk (below_step (by repeat (first | (with_reducible first | exact HB.out | apply below_alloc | apply pw_below_drewN | apply below_drew1 | refine below_set ?_ GE142.out) | exact HB.out)) hb); have n4_ := Aside0.mk (hbox); have n5_ := Aside0.mk ((by rw [hg]; exact (below_size (by repeat (first | (with_reducible first | exact HB.out | apply below_alloc | apply pw_below_drewN | apply below_drew1 | refine below_set ?_ GE142.out) | exact HB.out))) : w.heap.size ≤ gb149)); have n6_ := Aside0.mk ((by rw [hg]; exact (below_size (by repeat (first | (with_reducible first | exact HB.out | apply below_alloc | apply pw_below_drewN | apply below_drew1 | refine below_set ?_ GE142.out) | exact HB.out))) : w.heap.size ≤ gb149)); have n7_ := Aside0.mk ((by rw [hg]; exact Nat.ne_of_lt (blk_lt (g := gb142) (o := .cells #[.int .i64 a1_0, .slice A1_1 l1_1.length c1_1] 52 (0, 0)) (by (with_reducible repeat (first | refine blk_drewN ?_ _ | refine blk_drew ?_ | refine blk_alloc ?_ _)); exact BK142.out)) : gb142 ≠ gb149)); have n8_ := Aside0.mk ((by rw [hg]; exact Nat.ne_of_gt (blk_lt (g := gb142) (o := .cells #[.int .i64 a1_0, .slice A1_1 l1_1.length c1_1] 52 (0, 0)) (by (with_reducible repeat (first | refine blk_drewN ?_ _ | refine blk_drew ?_ | refine blk_alloc ?_ _)); exact BK142.out)) : gb149 ≠ gb142)); clear HO_143001; clear HO148; clear BK142; clear HB; have HO_143001 := n0_; have HO148 := n1_; have BK142 := n2_; have HB := n3_; have BK149 := n4_; have GW149 := n5_; have GE149 := n6_; have NB142_149 := n7_; have NB149_142 := n8_; clear n0_ n1_ n2_ n3_ n4_ n5_ n6_ n7_ n8_; clear hb hbox hg; have hnb28 := NB149_142.out; have hnc28 := NB142_149.out; have hcz29_0 : w27.cell? ⟨gb149, 0, none⟩ = some (.int .i64 0) := (blk_cell BK149.out 0).trans rfl; have hcz29_1 : w27.cell? ⟨gb149, 1, none⟩ = some (.slice none 0 0) := (blk_cell BK149.out 1).trans rfl; have hfz29_0 := blk_frozen BK149.out 0; have hfz29_1 := blk_frozen BK149.out 1; obtain ⟨Ao30, co30, eo30⟩ := Kd.V_slice HO148.out; subst eo30) | ((with_reducible refine gate_callee (f := 54) rfl ?_); refine goesL_ (some 29) rfl rfl Tryd.func54 (by kernel_rfl) rfl #[.slice Ao30 t146.length co30] rfl (by (try simp only [List.map_toArray, List.map_cons, List.map_nil]); first | done | rfl | (simp only [List.length_drop, List.length_take]; rfl)) ?_; (with_reducible refine (slotmeshref33_Zero.calls kj2 _ _ t146 false _ ?side1 ?side2 A15.out).mono ?_); (case side1 => refine (Kd.V_reads' (e := 5) (base := w.heap.size) (ok := fun k_ => (((P1_1_ k_ ∨ w.heap.size ≤ k_) ∧ k_ ≠ gb142) ∧ k_ ≠ gb149)) (n := t146.length) (c := co30) ?_).2.2; exact (by (with_reducible repeat (first | apply Kd.V_alloc | apply Kd.V_drewN | apply Kd.V_drew)); exact (Kd.V_mono (Kd.V_far (p := ⟨gb149, 1, none⟩) (Kd.V_far (p := ⟨gb149, 0, none⟩) (Kd.V_mono HO148.out (fun k_ hk => (⟨hk, hk.2⟩ : _ ∧ k_ ≠ gb149))) (fun _ hk => hk.2) (.int .i64 t145)) (fun _ hk => hk.2) (.slice Ao30 t146.length co30)) (fun _ h_ => h_.1)))); (case side2 => exact (Kd.V_reads' HO148.out).2.1); rintro e w' ⟨rfl, ⟨nd, rfl⟩⟩; refine ⟨_, rfl, ?_⟩))
            go_ret3
            exact ⟨_, by first | rfl | (simp [errW_none, errW_some] <;> rfl) | (simp [*, errW_none, errW_some] <;> rfl), by first | exact Kd.S_nil _ _ _ _ _ | exact Kd.N_nil _ _ _ _ _ | exact Kd.V_nil _ _ _ _ _ | exact Kd.Q_nil _ _ _ _ _ | exact Kd.R_nil _ _ _ _ _, by repeat (first | (with_reducible first | exact HB.out | apply below_alloc | apply pw_below_drewN | apply below_drew1 | refine below_set ?_ GE142.out | refine below_set ?_ GE149.out) | exact HB.out)⟩
        · rw [if_neg c14] at H
          have c14b0 : (t145 == 0) = false := beq_eq_false_iff_ne.mpr c14
          have c14b1 : (t145 != 0) = true := bne_iff_ne.mpr c14
          replace H := Option.bind_eq_some_iff.mp H
          obtain ⟨t154, A310, H⟩ := H
          replace H : ((slotmeshref33_Copy.f kj2 l0).bind fun t155 => (slotmeshref33_Add.l0 kj2 t154 ([] : List (S25)) false t155 0 t145 t146)) = some (r1, r2, r3) := H
          have A31 := Aside0.mk A310
          clear A310
          replace H := Option.bind_eq_some_iff.mp H
          obtain ⟨t155, A320, H⟩ := H
          replace H : (slotmeshref33_Add.l0 kj2 t154 ([] : List (S25)) false t155 0 t145 t146) = some (r1, r2, r3) := H
          have A32 := Aside0.mk A320
          clear A320
          have H' := Aside0.mk H
          clear H
          have hcz33_0 : wc.cell? ⟨gb142, 0, none⟩ = some (.int .i64 a1_0) := (blk_cell BK142.out 0).trans rfl
          have hcz33_1 : wc.cell? ⟨gb142, 1, none⟩ = some (.slice A1_1 l1_1.length c1_1) := (blk_cell BK142.out 1).trans rfl
          have hfz33_0 := blk_frozen BK142.out 0
          have hfz33_1 := blk_frozen BK142.out 1
          go_wp2_with (first | ((with_reducible refine gate_callee (f := 53) rfl ?_); refine goesL_ (some 23) rfl rfl Tryd.func53 (by kernel_rfl) rfl #[.slice A0 l0.length c0, .agg #[.int .i64 a1_0, .slice A1_1 l1_1.length c1_1]] rfl (by (try simp only [List.map_toArray, List.map_cons, List.map_nil]); first | done | rfl | (simp only [List.length_drop, List.length_take]; rfl)) ?_; (with_reducible refine (slotmeshref33_reduce.calls kj2 _ _ l0 a1_0 (fun k_ => ((P1_1_ k_ ∨ w.heap.size ≤ k_) ∧ k_ ≠ gb142)) _ _ l1_1 t145 t146 _ ?side1 ?side2 ?side3 A13.out).mono ?_); (case side1 => repeat (first | exact (Kd.C_below HR0.out HB.out) | (with_reducible refine Kd.C_alloc ?_ _) | (with_reducible refine Kd.C_drewN ?_ _) | (with_reducible refine Kd.C_drew ?_))); (case side2 => exact HC0.out); (case side3 => exact HO_143001.out); rintro e w34 ⟨v147, rfl, ho0, hb⟩; refine ⟨_, rfl, ?_⟩; have n0_ := Aside0.mk (Kd.V_below (by (with_reducible repeat (first | apply Kd.V_alloc | apply Kd.V_drewN | apply Kd.V_drew)); exact HO_143001.out) hb); have n1_ := Aside0.mk (Kd.V_lower (Kd.V_mono (ok' := fun k_ => (P1_1_ k_ ∨ w.heap.size ≤ k_) ∧ k_ ≠ gb142) ho0 (fun k_ hk_ => ⟨Or.elim hk_ (fun hs_ => hs_.1) (fun hn_ => (.inr (Nat.le_trans (below_size (by repeat (first | (with_reducible first | exact HB.out | apply below_alloc | apply pw_below_drewN | apply below_drew1 | refine below_set ?_ GE142.out) | exact HB.out))) hn_))), Or.elim hk_ (fun hs_ => hs_.2) (fun hn_ => (Kd.freshB (g := gb142) (o := .cells #[.int .i64 a1_0, .slice A1_1 l1_1.length c1_1] 52 (0, 0)) (by (with_reducible repeat (first | refine blk_drewN ?_ _ | refine blk_drew ?_ | refine blk_alloc ?_ _)); exact BK142.out) k_ hn_))⟩)) (below_size (by repeat (first | (with_reducible first | exact HB.out | apply below_alloc | apply pw_below_drewN | apply below_drew1 | refine below_set ?_ GE142.out) | exact HB.out)))); have n2_ := Aside0.mk (blk_below (g := gb142) (o := .cells #[.int .i64 a1_0, .slice A1_1 l1_1.length c1_1] 52 (0, 0)) (by (with_reducible repeat (first | refine blk_drewN ?_ _ | refine blk_drew ?_ | refine blk_alloc ?_ _)); exact BK142.out) hb); have n3_ := Aside0.mk (below_step (by repeat (first | (with_reducible first | exact HB.out | apply below_alloc | apply pw_below_drewN | apply below_drew1 | refine below_set ?_ GE142.out) | exact HB.out)) hb); clear HO_143001; clear BK142; clear HB; have HO_143001 := n0_; have HO148 := n1_; have BK142 := n2_; have HB := n3_; clear n0_ n1_ n2_ n3_; (try clear hb); (try clear hb2); (try clear hk); (try clear hi); (try clear ho0)) | ((with_reducible refine gate_dst (N := 7) rfl ?_); refine box_event ?hg (N := 7) ?hd (cs := #[.int .i64 0, .slice none 0 0]) (t := 52) ?hr ?_; (case hd => rfl); (case hg => rfl); (case hr => first | (go_simp; done) | (go_simp; rfl)); intro gb149 hg w35 hbox hb; have n0_ := Aside0.mk (Kd.V_below (Kd.V_elderB (by (with_reducible repeat (first | apply Kd.V_alloc | apply Kd.V_drewN | apply Kd.V_drew)); exact HO_143001.out) gb149 (Nat.le_of_eq hg.symm)) hb); have n1_ := Aside0.mk (Kd.V_below (Kd.V_elderB (by (with_reducible repeat (first | apply Kd.V_alloc | apply Kd.V_drewN | apply Kd.V_drew)); exact HO148.out) gb149 (Nat.le_of_eq hg.symm)) hb); have n2_ := Aside0.mk (blk_below (g := gb142) (o := .cells #[.int .i64 a1_0, .slice A1_1 l1_1.length c1_1] 52 (0, 0)) (by (with_reducible repeat (first | refine blk_drewN ?_ _ | refine blk_drew ?_ | refine blk_alloc ?_ _)); exact BK142.out) hb); have n3_ := Aside0.mk (below_step (by repeat (first | (with_reducible first | exact HB.out | apply below_alloc | apply pw_below_drewN | apply below_drew1 | refine below_set ?_ GE142.out) | exact HB.out)) hb); have n4_ := Aside0.mk (hbox); have n5_ := Aside0.mk ((by rw [hg]; exact (below_size (by repeat (first | (with_reducible first | exact HB.out | apply below_alloc | apply pw_below_drewN | apply below_drew1 | refine below_set ?_ GE142.out) | exact HB.out))) : w.heap.size ≤ gb149)); have n6_ := Aside0.mk ((by rw [hg]; exact (below_size (by repeat (first | (with_reducible first | exact HB.out | apply below_alloc | apply pw_below_drewN | apply below_drew1 | refine below_set ?_ GE142.out) | exact HB.out))) : w.heap.size ≤ gb149)); have n7_ := Aside0.mk ((by rw [hg]; exact Nat.ne_of_lt (blk_lt (g := gb142) (o := .cells #[.int .i64 a1_0, .slice A1_1 l1_1.length c1_1] 52 (0, 0)) (by (with_reducible repeat (first | refine blk_drewN ?_ _ | refine blk_drew ?_ | refine blk_alloc ?_ _)); exact BK142.out)) : gb142 ≠ gb149)); have n8_ := Aside0.mk ((by rw [hg]; exact Nat.ne_of_gt (blk_lt (g := gb142) (o := .cells #[.int .i64 a1_0, .slice A1_1 l1_1.length c1_1] 52 (0, 0)) (by (with_reducible repeat (first | refine blk_drewN ?_ _ | refine blk_drew ?_ | refine blk_alloc ?_ _)); exact BK142.out)) : gb149 ≠ gb142)); clear HO_143001; clear HO148; clear BK142; clear HB; have HO_143001 := n0_; have HO148 := n1_; have BK142 := n2_; have HB := n3_; have BK149 := n4_; have GW149 := n5_; have GE149 := n6_; have NB142_149 := n7_; have NB149_142 := n8_; clear n0_ n1_ n2_ n3_ n4_ n5_ n6_ n7_ n8_; clear hb hbox hg; have hnb36 := NB149_142.out; have hnc36 := NB142_149.out; have hcz37_0 : w35.cell? ⟨gb149, 0, none⟩ = some (.int .i64 0) := (blk_cell BK149.out 0).trans rfl; have hcz37_1 : w35.cell? ⟨gb149, 1, none⟩ = some (.slice none 0 0) := (blk_cell BK149.out 1).trans rfl; have hfz37_0 := blk_frozen BK149.out 0; have hfz37_1 := blk_frozen BK149.out 1; obtain ⟨Ao38, co38, eo38⟩ := Kd.V_slice HO148.out; subst eo38) | ((with_reducible refine gate_callee (f := 56) rfl ?_); refine goesL_ (some 35) rfl rfl Tryd.func56 (by kernel_rfl) rfl #[.int .i64 t145] rfl (by (try simp only [List.map_toArray, List.map_cons, List.map_nil]); first | done | rfl | (simp only [List.length_drop, List.length_take]; rfl)) ?_; (with_reducible refine (slotmeshref33_Leading.calls kj2 t145 t154 _ A31.out).mono ?_); rintro e w' ⟨rfl, ⟨nd, rfl⟩⟩; refine ⟨_, rfl, ?_⟩) | ((with_reducible refine gate_callee (f := 55) rfl ?_); refine goesL_ (some 37) rfl rfl Tryd.func55 (by kernel_rfl) rfl #[.slice A0 l0.length c0] rfl (by (try simp only [List.map_toArray, List.map_cons, List.map_nil]); first | done | rfl | (simp only [List.length_drop, List.length_take]; rfl)) ?_; (with_reducible refine (slotmeshref33_Copy.calls kj2 _ _ l0 t155 _ ?side1 ?side2 A32.out).mono ?_); (case side1 => exact Kd.C_below HR0.out (by repeat (first | (with_reducible first | exact HB.out | apply below_alloc | apply pw_below_drewN | apply below_drew1 | refine below_set ?_ GE142.out | refine below_set ?_ GE149.out) | exact HB.out))); (case side2 => exact HC0.out); rintro e w39 ⟨v156, rfl, ho0, hb⟩; refine ⟨_, rfl, ?_⟩; have n0_ := Aside0.mk (Kd.V_elder' (by (with_reducible repeat (first | apply Kd.V_alloc | apply Kd.V_drewN | apply Kd.V_drew)); exact (Kd.V_mono (Kd.V_far (p := ⟨gb149, 1, none⟩) (Kd.V_far (p := ⟨gb149, 0, none⟩) (Kd.V_mono HO_143001.out (fun k_ hk => (⟨hk, hk.2⟩ : _ ∧ k_ ≠ gb149))) (fun _ hk => hk.2) (.int .i64 t145)) (fun _ hk => hk.2) (.slice Ao38 t146.length co38)) (fun _ h_ => h_.1))) (Kd.S_base ho0) hb); have n1_ := Aside0.mk (Kd.V_elder' (by (with_reducible repeat (first | apply Kd.V_alloc | apply Kd.V_drewN | apply Kd.V_drew)); exact (Kd.V_mono (Kd.V_far (p := ⟨gb149, 1, none⟩) (Kd.V_far (p := ⟨gb149, 0, none⟩) (Kd.V_mono HO148.out (fun k_ hk => (⟨hk, hk.2⟩ : _ ∧ k_ ≠ gb149))) (fun _ hk => hk.2) (.int .i64 t145)) (fun _ hk => hk.2) (.slice Ao38 t146.length co38)) (fun _ h_ => h_.1))) (Kd.S_base ho0) hb); have n2_ := Aside0.mk (Kd.N_lower (Kd.N_mono (ok' := fun k_ => (P1_1_ k_ ∨ w.heap.size ≤ k_) ∧ k_ ≠ gb142 ∧ k_ ≠ gb149) (Kd.S_N (Kd.S_bound ho0)) (fun k_ hk_ => ⟨(.inr (Nat.le_trans (below_size (by repeat (first | (with_reducible first | exact HB.out | apply below_alloc | apply pw_below_drewN | apply below_drew1 | refine below_set ?_ GE142.out | refine below_set ?_ GE149.out) | exact HB.out))) hk_.2.1)), (Kd.freshB (g := gb142) (o := .cells #[.int .i64 a1_0, .slice A1_1 l1_1.length c1_1] 52 (0, 0)) (by (with_reducible repeat (first | refine blk_drewN ?_ _ | refine blk_drew ?_ | refine blk_alloc ?_ _)); refine blk_far ?_ NB142_149.out _; (with_reducible repeat (first | refine blk_drewN ?_ _ | refine blk_drew ?_ | refine blk_alloc ?_ _)); refine blk_far ?_ NB142_149.out _; (with_reducible repeat (first | refine blk_drewN ?_ _ | refine blk_drew ?_ | refine blk_alloc ?_ _)); exact BK142.out) k_ hk_.2.1), (Kd.freshB (g := gb149) (o := .cells #[.int .i64 t145, .slice Ao38 t146.length co38] 52 (0, 0)) (by (with_reducible repeat (first | refine blk_drewN ?_ _ | refine blk_drew ?_ | refine blk_alloc ?_ _)); refine blk_put (cs := #[.int .i64 t145, .slice none 0 0]) ?_ 1 _ rfl; (with_reducible repeat (first | refine blk_drewN ?_ _ | refine blk_drew ?_ | refine blk_alloc ?_ _)); refine blk_put (cs := #[.int .i64 0, .slice none 0 0]) ?_ 0 _ rfl; (with_reducible repeat (first | refine blk_drewN ?_ _ | refine blk_drew ?_ | refine blk_alloc ?_ _)); exact BK149.out) k_ hk_.2.1)⟩)) (below_size (by repeat (first | (with_reducible first | exact HB.out | apply below_alloc | apply pw_below_drewN | apply below_drew1 | refine below_set ?_ GE142.out | refine below_set ?_ GE149.out) | exact HB.out)))); have n3_ := Aside0.mk (blk_below (g := gb142) (o := .cells #[.int .i64 a1_0, .slice A1_1 l1_1.length c1_1] 52 (0, 0)) (by (with_reducible repeat (first | refine blk_drewN ?_ _ | refine blk_drew ?_ | refine blk_alloc ?_ _)); refine blk_far ?_ NB142_149.out _; (with_reducible repeat (first | refine blk_drewN ?_ _ | refine blk_drew ?_ | refine blk_alloc ?_ _)); refine blk_far ?_ NB142_149.out _; (with_reducible repeat (first | refine blk_drewN ?_ _ | refine blk_drew ?_ | refine blk_alloc ?_ _)); exact BK142.out) hb); have n4_ := Aside0.mk (blk_below (g := gb149) (o := .cells #[.int .i64 t145, .slice Ao38 t146.length co38] 52 (0, 0)) (by (with_reducible repeat (first | refine blk_drewN ?_ _ | refine blk_drew ?_ | refine blk_alloc ?_ _)); refine blk_put (cs := #[.int .i64 t145, .slice none 0 0]) ?_ 1 _ rfl; (with_reducible repeat (first | refine blk_drewN ?_ _ | refine blk_drew ?_ | refine blk_alloc ?_ _)); refine blk_put (cs := #[.int .i64 0, .slice none 0 0]) ?_ 0 _ rfl; (with_reducible repeat (first | refine blk_drewN ?_ _ | refine blk_drew ?_ | refine blk_alloc ?_ _)); exact BK149.out) hb); have n5_ := Aside0.mk (below_step (by repeat (first | (with_reducible first | exact HB.out | apply below_alloc | apply pw_below_drewN | apply below_drew1 | refine below_set ?_ GE142.out | refine below_set ?_ GE149.out) | exact HB.out)) hb); clear HO_143001; clear HO148; clear BK142; clear BK149; clear HB; have HO_143001 := n0_; have HO148 := n1_; have HO157 := n2_; have BK142 := n3_; have BK149 := n4_; have HB := n5_; clear n0_ n1_ n2_ n3_ n4_ n5_; (try clear hb); (try clear hb2); (try clear hk); (try clear hi); (try clear ho0)))
          go_loopg [9, 10, 12] kj2 (fun kq v9 v10 v12 w' => ∃ (x9_2 : List (S25)) (x10_2 : Bool) (x11_2 : List (S25)) (x12_2 : Int) (x143000_2 : Int) (x143001_2 : List Int) (x150000_2 : Int) (x150001_2 : List Int) (u143001 : Value) (u150001 : Value), v10 = .bool x10_2 ∧ v12 = .int .i64 x12_2 ∧ Aside0 (slotmeshref33_Add.l0 kq t154 x9_2 x10_2 x11_2 x12_2 x150000_2 x150001_2 = some (r1, r2, r3)) ∧ Aside0 (kq ≤ kj2) ∧ Aside0 (Kd.N k25 52 w' w.heap.size (fun k_ => (P1_1_ k_ ∨ w.heap.size ≤ k_) ∧ some k_ ≠ (v156 : Value).ownBlock ∧ k_ ≠ gb142 ∧ k_ ≠ gb149) v9 x9_2) ∧ Aside0 (Kd.N k25 52 w' w.heap.size (fun k_ => (P1_1_ k_ ∨ w.heap.size ≤ k_) ∧ some k_ ≠ (v9 : Value).ownBlock ∧ k_ ≠ gb142 ∧ k_ ≠ gb149) v156 x11_2) ∧ Aside0 (Kd.V (Kd.int .u8) 5 w' w.heap.size (fun k_ => (P1_1_ k_ ∨ w.heap.size ≤ k_) ∧ some k_ ≠ (v9 : Value).ownBlock ∧ some k_ ≠ (v156 : Value).ownBlock ∧ k_ ≠ gb142 ∧ k_ ≠ gb149) u143001 x143001_2) ∧ Aside0 (Kd.V (Kd.int .u8) 5 w' w.heap.size (fun k_ => (P1_1_ k_ ∨ w.heap.size ≤ k_) ∧ some k_ ≠ (v9 : Value).ownBlock ∧ some k_ ≠ (v156 : Value).ownBlock ∧ k_ ≠ gb142 ∧ k_ ≠ gb149) u150001 x150001_2) ∧ Aside0 (w'.heap[gb142]? = some (.cells #[.int .i64 x143000_2, u143001] 52 (0, 0))) ∧ Aside0 (w'.heap[gb149]? = some (.cells #[.int .i64 x150000_2, u150001] 52 (0, 0))) ∧ Aside0 (Below w.heap.size w w'))
          case atStart => exact ⟨(([] : List (S25))), (false), (t155), (0), (a1_0), (l1_1), (t145), (t146), (.slice A1_1 l1_1.length c1_1), (.slice Ao38 t146.length co38), (by first | rfl | (simp; done) | (simp [*]; done)), (by first | rfl | (simp; done) | (simp [*]; done)), H', ⟨Nat.le_refl _⟩, ⟨by first | exact Kd.S_nil _ _ _ _ _ | exact Kd.N_nil _ _ _ _ _ | exact Kd.V_nil _ _ _ _ _ | exact Kd.Q_nil _ _ _ _ _ | exact Kd.R_nil _ _ _ _ _⟩, ⟨by (with_reducible repeat (first | apply Kd.N_alloc | apply Kd.N_drewN | apply Kd.N_drew)); exact Kd.N_mono HO157.out (fun _ hk => ⟨hk.1, ⟨(by simp [Value.ownBlock]), ⟨hk.2.1, hk.2.2⟩⟩⟩)⟩, ⟨by (with_reducible repeat (first | apply Kd.V_alloc | apply Kd.V_drewN | apply Kd.V_drew)); exact Kd.V_mono HO_143001.out (fun _ hk => ⟨hk.1.1.1, ⟨(by simp [Value.ownBlock]), ⟨hk.2, ⟨hk.1.1.2, hk.1.2⟩⟩⟩⟩)⟩, ⟨by (with_reducible repeat (first | apply Kd.V_alloc | apply Kd.V_drewN | apply Kd.V_drew)); exact Kd.V_mono HO148.out (fun _ hk => ⟨hk.1.1.1, ⟨(by simp [Value.ownBlock]), ⟨hk.2, ⟨hk.1.1.2, hk.1.2⟩⟩⟩⟩)⟩, ⟨by (with_reducible repeat (first | refine blk_drewN ?_ _ | refine blk_drew ?_ | refine blk_alloc ?_ _)); exact BK142.out⟩, ⟨by (with_reducible repeat (first | refine blk_drewN ?_ _ | refine blk_drew ?_ | refine blk_alloc ?_ _)); exact BK149.out⟩, ⟨by repeat (first | (with_reducible first | exact HB.out | apply below_alloc | apply pw_below_drewN | apply below_drew1 | refine below_set ?_ GE142.out | refine below_set ?_ GE149.out) | exact HB.out)⟩⟩
          case round =>
            clear H'
            try clear c1
            try clear c2
            try clear p2
            try clear c3
            try clear c5
            try clear c6
            try clear c12
            try clear c14
            try clear c14b0
            try clear c14b1
            try clear c16
            try clear c21
            try clear c28
            try clear c36
            try clear c39
            try clear hcz18_0
            try clear hcz18_1
            try clear hcz22_0
            try clear hcz22_1
            try clear hcz25_0
            try clear hcz25_1
            try clear hcz29_0
            try clear hcz29_1
            try clear hcz33_0
            try clear hcz33_1
            try clear hcz37_0
            try clear hcz37_1
            try clear hcz9_0
            try clear hcz9_1
            try clear hfz18_0
            try clear hfz18_1
            try clear hfz22_0
            try clear hfz22_1
            try clear hfz25_0
            try clear hfz25_1
            try clear hfz29_0
            try clear hfz29_1
            try clear hfz33_0
            try clear hfz33_1
            try clear hfz37_0
            try clear hfz37_1
            try clear hfz9_0
            try clear hfz9_1
            try clear p2
            obtain ⟨x9_2, x10_2, x11_2, x12_2, x143000_2, x143001_2, x150000_2, x150001_2, u143001, u150001, rfl, rfl, HA, HK2, HO_9, HO_11, HO_143001, HO_150001, BK142, BK149, HB⟩ := hrel
            cases gk with
            | zero => exact absurd HA.out (by simp [slotmeshref33_Add.l0])
            | succ k2 =>
              have H := HA.out
              clear HA
              simp only [slotmeshref33_Add.l0] at H
              by_cases c40 : x12_2 < (x11_2.length : Int)
              · rw [if_pos c40] at H
                have c40b0 : decide (x12_2 < (x11_2.length : Int)) = true := decide_eq_true c40
                clear c40
                have HC41 := Aside0.mk H
                clear H
                obtain ⟨Ao42, co42, eo42⟩ := Kd.N_slice HO_11.out
                subst eo42
                go_upto_region 15 with (fail)
                go_cut [55] (fun v55 wc => ∃ (kq : Nat) (x55_40 : Bool), v55 = .bool x55_40 ∧ Aside0 (slotmeshref33_Add.j2 kq t154 x9_2 x10_2 x11_2 x12_2 x55_40 x150000_2 x150001_2 = some (r1, r2, r3)) ∧ Aside0 (kq ≤ k2) ∧ Aside0 (Kd.N k25 52 wc w.heap.size (fun k_ => (P1_1_ k_ ∨ w.heap.size ≤ k_) ∧ some k_ ≠ ((.slice Ao42 x11_2.length co42) : Value).ownBlock ∧ k_ ≠ gb142 ∧ k_ ≠ gb149) u9 x9_2) ∧ Aside0 (Kd.N k25 52 wc w.heap.size (fun k_ => (P1_1_ k_ ∨ w.heap.size ≤ k_) ∧ some k_ ≠ (u9 : Value).ownBlock ∧ k_ ≠ gb142 ∧ k_ ≠ gb149) (.slice Ao42 x11_2.length co42) x11_2) ∧ Aside0 (Kd.V (Kd.int .u8) 5 wc w.heap.size (fun k_ => (P1_1_ k_ ∨ w.heap.size ≤ k_) ∧ some k_ ≠ (u9 : Value).ownBlock ∧ some k_ ≠ ((.slice Ao42 x11_2.length co42) : Value).ownBlock ∧ k_ ≠ gb142 ∧ k_ ≠ gb149) u143001 x143001_2) ∧ Aside0 (Kd.V (Kd.int .u8) 5 wc w.heap.size (fun k_ => (P1_1_ k_ ∨ w.heap.size ≤ k_) ∧ some k_ ≠ (u9 : Value).ownBlock ∧ some k_ ≠ ((.slice Ao42 x11_2.length co42) : Value).ownBlock ∧ k_ ≠ gb142 ∧ k_ ≠ gb149) u150001 x150001_2) ∧ Aside0 (wc.heap[gb142]? = some (.cells #[.int .i64 x143000_2, u143001] 52 (0, 0))) ∧ Aside0 (wc.heap[gb149]? = some (.cells #[.int .i64 x150000_2, u150001] 52 (0, 0))) ∧ Aside0 (Below w.heap.size w wc))
                case first =>
                  have H := HC41.out
                  clear HC41
                  by_cases c43 : x10_2 = true
                  · subst c43
                    have H1 : (slotmeshref33_Add.j2 k2 t154 x9_2 true x11_2 x12_2 false x150000_2 x150001_2) = some (r1, r2, r3) := by rw [if_pos rfl] at H; exact H
                    clear H
                    have H := H1
                    clear H1
                    have H' := Aside0.mk H
                    clear H
                    go_wp2
                    go_meet
                    case rel => exact ⟨_, (false), (by first | rfl | (simp; done) | (simp [*]; done)), H', ⟨by have := HJ2.out; have := HK2.out; first | omega | exact Nat.le_refl _⟩, ⟨by (with_reducible repeat (first | apply Kd.N_alloc | apply Kd.N_drewN | apply Kd.N_drew)); exact HO_9.out⟩, ⟨by (with_reducible repeat (first | apply Kd.N_alloc | apply Kd.N_drewN | apply Kd.N_drew)); exact HO_11.out⟩, ⟨by (with_reducible repeat (first | apply Kd.V_alloc | apply Kd.V_drewN | apply Kd.V_drew)); exact HO_143001.out⟩, ⟨by (with_reducible repeat (first | apply Kd.V_alloc | apply Kd.V_drewN | apply Kd.V_drew)); exact HO_150001.out⟩, ⟨by (with_reducible repeat (first | refine blk_drewN ?_ _ | refine blk_drew ?_ | refine blk_alloc ?_ _)); exact BK142.out⟩, ⟨by (with_reducible repeat (first | refine blk_drewN ?_ _ | refine blk_drew ?_ | refine blk_alloc ?_ _)); exact BK149.out⟩, ⟨by repeat (first | (with_reducible first | exact HB.out | apply below_alloc | apply pw_below_drewN | apply below_drew1 | refine below_set ?_ GE142.out | refine below_set ?_ GE149.out) | exact HB.out)⟩⟩
                  · replace c43 := Bool.eq_false_iff.mpr c43
                    subst c43
                    have H1 : (if 0 ≤ x12_2 then ((slotmeshref33_Leading.f k2 ((rd_T25 x11_2 x12_2).f0)).bind fun t162 => (slotmeshref33_Add.j2 k2 t154 x9_2 false x11_2 x12_2 (decide (t162 < t154)) x150000_2 x150001_2)) else (none)) = some (r1, r2, r3) := by rw [if_neg (show ¬ (false = true) by decide)] at H; exact H
                    clear H
                    have H := H1
                    clear H1
                    by_cases c44 : 0 ≤ x12_2
                    · rw [if_pos c44] at H
                      have c44b0 : decide (0 ≤ x12_2) = true := decide_eq_true c44
                      clear c44
                      (first | rw [c44b0] | (simp only [i64_w, i32_w]; rw [c44b0]) | skip)
                      replace H := Option.bind_eq_some_iff.mp H
                      obtain ⟨t162, A450, H⟩ := H
                      replace H : (slotmeshref33_Add.j2 k2 t154 x9_2 false x11_2 x12_2 (decide (t162 < t154)) x150000_2 x150001_2) = some (r1, r2, r3) := H
                      have A45 := Aside0.mk A450
                      clear A450
                      have H' := Aside0.mk H
                      clear H
                      have p161 : 0 ≤ (x12_2 : Int) := of_decide_eq_true (by first | (with_reducible assumption) | assumption)
                      have q161 : x12_2 < (x11_2.length : Int) := of_decide_eq_true (by first | (with_reducible assumption) | assumption)
                      obtain ⟨ad161, A161_1, c161_1, e161, hx161_0, hx161_1, hl161_1, hi161_1⟩ := at_T25 (Kd.N_reads' HO_11.out).2.2 x12_2 p161 q161
                      cases e161
                      obtain ⟨ce161, hce161, hMe161, hcc161⟩ := Kd.N_get HO_11.out z25 x12_2 p161 (by first | exact q161 | exact of_decide_eq_true (by first | (with_reducible assumption) | assumption) | (have e_ := (Kd.N_reads' HO_11.out).1; omega))
                      obtain ⟨ua161_1, uc161_1, rfl, ul161_1, ge161_1⟩ := k25_openF hMe161
                      have hv161_1 := hcc161 1 _ rfl
                      rw [add_field _ _ 1 (by omega)] at hv161_1
                      replace hv161_1 := Option.some.inj (hv161_1.symm.trans hx161_1)
                      injection hv161_1 with hva_ hvn_ hvc_
                      rw [hva_] at ge161_1
                      rw [hvc_] at ul161_1
                      have HL161_1 := Aside0.mk (show Kd.V (Kd.int .u8) 5 _ w.heap.size _ _ ((rd_T25 x11_2 x12_2).f1) from Kd.V_mk ul161_1 ge161_1)
                      clear hva_ hvn_ hvc_ ge161_1 ul161_1
                      clear hcc161 hce161
                      have HR161_1 := Aside0.mk hi161_1
                      have HC161_1 := Aside0.mk hl161_1
                      clear hi161_1 hl161_1
                      replace p161 := eq_true p161
                      replace q161 := eq_true q161
                      go_wp2_with (first | (go_at_call 56; (with_reducible refine (slotmeshref33_Leading.calls k2 ((rd_T25 x11_2 x12_2).f0) t162 _ A45.out).mono ?_); rintro e w' ⟨rfl, ⟨nd, rfl⟩⟩))
                      go_meet
                      case rel => exact ⟨_, (decide (t162 < t154)), (by first | rfl | (simp; done) | (simp [*]; done)), H', ⟨by have := HJ2.out; have := HK2.out; first | omega | exact Nat.le_refl _⟩, ⟨by (with_reducible repeat (first | apply Kd.N_alloc | apply Kd.N_drewN | apply Kd.N_drew)); exact HO_9.out⟩, ⟨by (with_reducible repeat (first | apply Kd.N_alloc | apply Kd.N_drewN | apply Kd.N_drew)); exact HO_11.out⟩, ⟨by (with_reducible repeat (first | apply Kd.V_alloc | apply Kd.V_drewN | apply Kd.V_drew)); exact HO_143001.out⟩, ⟨by (with_reducible repeat (first | apply Kd.V_alloc | apply Kd.V_drewN | apply Kd.V_drew)); exact HO_150001.out⟩, ⟨by (with_reducible repeat (first | refine blk_drewN ?_ _ | refine blk_drew ?_ | refine blk_alloc ?_ _)); exact BK142.out⟩, ⟨by (with_reducible repeat (first | refine blk_drewN ?_ _ | refine blk_drew ?_ | refine blk_alloc ?_ _)); exact BK149.out⟩, ⟨by repeat (first | (with_reducible first | exact HB.out | apply below_alloc | apply pw_below_drewN | apply below_drew1 | refine below_set ?_ GE142.out | refine below_set ?_ GE149.out) | exact HB.out)⟩⟩
                    · rw [if_neg c44] at H
                      exact absurd H (by simp)
                case rest =>
                  clear HC41
                  try clear c1
                  try clear p1
                  try clear q1
                  try clear hx1
                  try clear c2
                  try clear p2
                  try clear c3
                  try clear c4
                  try clear c5
                  try clear c6
                  try clear c12
                  try clear c14
                  try clear c14b0
                  try clear c14b1
                  try clear c16
                  try clear p16
                  try clear q16
                  try clear hx16
                  try clear c21
                  try clear c28
                  try clear c36
                  try clear c39
                  try clear c40
                  try clear c40b0
                  try clear c43
                  try clear c44
                  try clear c44b0
                  try clear hcz18_0
                  try clear hcz18_1
                  try clear hcz22_0
                  try clear hcz22_1
                  try clear hcz25_0
                  try clear hcz25_1
                  try clear hcz29_0
                  try clear hcz29_1
                  try clear hcz33_0
                  try clear hcz33_1
                  try clear hcz37_0
                  try clear hcz37_1
                  try clear hcz9_0
                  try clear hcz9_1
                  try clear hfz18_0
                  try clear hfz18_1
                  try clear hfz22_0
                  try clear hfz22_1
                  try clear hfz25_0
                  try clear hfz25_1
                  try clear hfz29_0
                  try clear hfz29_1
                  try clear hfz33_0
                  try clear hfz33_1
                  try clear hfz37_0
                  try clear hfz37_1
                  try clear hfz9_0
                  try clear hfz9_1
                  try clear hx161_0
                  try clear hx161_1
                  try clear p161
                  try clear p2
                  try clear q161
                  obtain ⟨kq, x55_40, rfl, HA, HJ40, HO_9, HO_11, HO_143001, HO_150001, BK142, BK149, HB⟩ := hcut
                  cases kq with
                  | zero => exact absurd HA.out (by simp [slotmeshref33_Add.j2])
                  | succ kj40 =>
                    have H := HA.out
                    clear HA
                    simp only [slotmeshref33_Add.j2] at H
                    have HC46 := Aside0.mk H
                    clear H
                    go_upto_if 55 with (fail)
                    go_cut [9, 10] (fun v9 v10 wc => ∃ (kq : Nat) (x9_45 : List (S25)) (x10_45 : Bool), v10 = .bool x10_45 ∧ Aside0 (slotmeshref33_Add.j3 kq t154 x9_45 x10_45 x11_2 x12_2 x150000_2 x150001_2 = some (r1, r2, r3)) ∧ Aside0 (kq ≤ kj40) ∧ Aside0 (Kd.N k25 52 wc w.heap.size (fun k_ => (P1_1_ k_ ∨ w.heap.size ≤ k_) ∧ some k_ ≠ ((.slice Ao42 x11_2.length co42) : Value).ownBlock ∧ k_ ≠ gb142 ∧ k_ ≠ gb149) v9 x9_45) ∧ Aside0 (Kd.N k25 52 wc w.heap.size (fun k_ => (P1_1_ k_ ∨ w.heap.size ≤ k_) ∧ some k_ ≠ (v9 : Value).ownBlock ∧ k_ ≠ gb142 ∧ k_ ≠ gb149) (.slice Ao42 x11_2.length co42) x11_2) ∧ Aside0 (Kd.V (Kd.int .u8) 5 wc w.heap.size (fun k_ => (P1_1_ k_ ∨ w.heap.size ≤ k_) ∧ some k_ ≠ (v9 : Value).ownBlock ∧ some k_ ≠ ((.slice Ao42 x11_2.length co42) : Value).ownBlock ∧ k_ ≠ gb142 ∧ k_ ≠ gb149) u143001 x143001_2) ∧ Aside0 (Kd.V (Kd.int .u8) 5 wc w.heap.size (fun k_ => (P1_1_ k_ ∨ w.heap.size ≤ k_) ∧ some k_ ≠ (v9 : Value).ownBlock ∧ some k_ ≠ ((.slice Ao42 x11_2.length co42) : Value).ownBlock ∧ k_ ≠ gb142 ∧ k_ ≠ gb149) u150001 x150001_2) ∧ Aside0 (wc.heap[gb142]? = some (.cells #[.int .i64 x143000_2, u143001] 52 (0, 0))) ∧ Aside0 (wc.heap[gb149]? = some (.cells #[.int .i64 x150000_2, u150001] 52 (0, 0))) ∧ Aside0 (Below w.heap.size w wc))
                    case first =>
                      have H := HC46.out
                      clear HC46
                      by_cases c47 : x55_40 = true
                      · subst c47
                        have H1 : (if x9_2.length < 4398046511104 then (slotmeshref33_Add.j3 kj40 t154 (x9_2 ++ [(⟨x150000_2, x150001_2⟩ : S25)]) true x11_2 x12_2 x150000_2 x150001_2) else (none)) = some (r1, r2, r3) := by rw [if_pos rfl] at H; exact H
                        clear H
                        have H := H1
                        clear H1
                        by_cases c48 : x9_2.length < 4398046511104
                        · rw [if_pos c48] at H
                          have LMc48 := Aside0.mk c48
                          clear c48
                          obtain ⟨y163, hy163⟩ : ∃ y_ : List (S25), y_ = (x9_2 ++ [(⟨x150000_2, x150001_2⟩ : S25)]) := ⟨_, rfl⟩
                          replace H : (slotmeshref33_Add.j3 kj40 t154 y163 true x11_2 x12_2 x150000_2 x150001_2) = some (r1, r2, r3) := by first | (rw [hy163]; with_reducible exact H) | (have H2_ := (Option.bind_some _ _).symm.trans H; rw [hy163]; with_reducible exact H2_) | (have H2_ := (Option.bind_some _ _).symm.trans H; with_reducible exact H2_) | with_reducible exact H | (rw [hy163]; exact H) | exact H
                          have Ny163 := Aside0.mk hy163
                          clear hy163
                          have H' := Aside0.mk H
                          clear H
                          have hnb49 := NB149_142.out
                          have hnc49 := NB142_149.out
                          have hcz50_0 : wc.cell? ⟨gb149, 0, none⟩ = some (.int .i64 x150000_2) := (blk_cell BK149.out 0).trans rfl
                          have hcz50_1 : wc.cell? ⟨gb149, 1, none⟩ = some (u150001) := (blk_cell BK149.out 1).trans rfl
                          have hfz50_0 := blk_frozen BK149.out 0
                          have hfz50_1 := blk_frozen BK149.out 1
                          obtain ⟨Ao52, co52, eo52⟩ := Kd.V_slice HO_150001.out
                          subst eo52
                          go_wp2_with (first | ((with_reducible refine gate_builtin (b := .append) (xs := #[.tmp 56, .tmp 58]) rfl ?_); at_builtin; refine Kd.N_append k25 (w0 := w) w.heap.size rfl (.tmp 56) (.tmp 58) 23 52 (.agg #[(.int .i64 0), (.slice none 0 0)]) 32 rfl Tryd.underlying23 info25 rfl (by decide) (by omega) u9 x9_2 (⟨x150000_2, x150001_2⟩ : S25) [.int .i64 x150000_2, .slice Ao52 x150001_2.length co52] (fun k_ => (P1_1_ k_ ∨ w.heap.size ≤ k_) ∧ some k_ ≠ (.slice Ao42 x11_2.length co42 : Value).ownBlock ∧ k_ ≠ gb142 ∧ k_ ≠ gb149) (fun k_ => ((fun k_ => (P1_1_ k_ ∨ w.heap.size ≤ k_) ∧ some k_ ≠ (.slice Ao42 x11_2.length co42 : Value).ownBlock ∧ k_ ≠ gb142 ∧ k_ ≠ gb149)) k_ ∧ some k_ ≠ (u9 : Value).ownBlock) rfl rfl ?aP (fun _ hk => hk) ?aF ?aO ?aB ?aS ?aL ?_; (case aP => exact (k25_mkF _ _ (⟨x150000_2, x150001_2⟩ : S25) (Kd.V_reads' (Kd.V_mono (ok' := (fun k_ => ((fun k_ => (P1_1_ k_ ∨ w.heap.size ≤ k_) ∧ some k_ ≠ (.slice Ao42 x11_2.length co42 : Value).ownBlock ∧ k_ ≠ gb142 ∧ k_ ≠ gb149)) k_ ∧ some k_ ≠ (u9 : Value).ownBlock)) (HO_150001.out) (fun k_ hk => ⟨⟨hk.1, ⟨hk.2.2.1, ⟨hk.2.2.2.1, hk.2.2.2.2⟩⟩⟩, hk.2.1⟩))).2.1 (Kd.V_F (Kd.V_mono (ok' := (fun k_ => ((fun k_ => (P1_1_ k_ ∨ w.heap.size ≤ k_) ∧ some k_ ≠ (.slice Ao42 x11_2.length co42 : Value).ownBlock ∧ k_ ≠ gb142 ∧ k_ ≠ gb149)) k_ ∧ some k_ ≠ (u9 : Value).ownBlock)) (HO_150001.out) (fun k_ hk => ⟨⟨hk.1, ⟨hk.2.2.1, ⟨hk.2.2.2.1, hk.2.2.2.2⟩⟩⟩, hk.2.1⟩))))); (case aB => exact (by repeat (first | (with_reducible first | exact HB.out | apply below_alloc | apply pw_below_drewN | apply below_drew1 | refine below_set ?_ GE142.out | refine below_set ?_ GE149.out) | exact HB.out))); (case aF => exact (fun k_ hk => ⟨(.inr (Nat.le_trans (below_size (by repeat (first | (with_reducible first | exact HB.out | apply below_alloc | apply pw_below_drewN | apply below_drew1 | refine below_set ?_ GE142.out | refine below_set ?_ GE149.out) | exact HB.out))) hk)), Kd.fresh' (Kd.N_lt (by (with_reducible repeat (first | apply Kd.N_alloc | apply Kd.N_drewN | apply Kd.N_drew)); exact HO_11.out)) k_ hk, Kd.freshB (g := gb142) (o := .cells #[.int .i64 x143000_2, u143001] 52 (0, 0)) (by (with_reducible repeat (first | refine blk_drewN ?_ _ | refine blk_drew ?_ | refine blk_alloc ?_ _)); exact BK142.out) k_ hk, Kd.freshB (g := gb149) (o := .cells #[.int .i64 x150000_2, .slice Ao52 x150001_2.length co52] 52 (0, 0)) (by (with_reducible repeat (first | refine blk_drewN ?_ _ | refine blk_drew ?_ | refine blk_alloc ?_ _)); exact BK149.out) k_ hk⟩)); (case aO => exact (by (with_reducible repeat (first | apply Kd.N_alloc | apply Kd.N_drewN | apply Kd.N_drew)); exact HO_9.out)); (case aS => exact (below_size (by repeat (first | (with_reducible first | exact HB.out | apply below_alloc | apply pw_below_drewN | apply below_drew1 | refine below_set ?_ GE142.out | refine below_set ?_ GE149.out) | exact HB.out)))); (case aL => have := LMc48.out; omega); intro v164 w51 ho hb hg hat; rw [← Ny163.out] at ho; have n0_ := Aside0.mk (Kd.N_afterv (ok := (fun k_ => (P1_1_ k_ ∨ w.heap.size ≤ k_) ∧ k_ ≠ gb142 ∧ k_ ≠ gb149)) (by (with_reducible repeat (first | apply Kd.N_alloc | apply Kd.N_drewN | apply Kd.N_drew)); exact Kd.N_mono HO_11.out (fun _ hk => ⟨⟨hk.1, ⟨hk.2.2.1, hk.2.2.2⟩⟩, hk.2.1⟩)) hg hat); have n1_ := Aside0.mk (Kd.V_afterv (ok := (fun k_ => (P1_1_ k_ ∨ w.heap.size ≤ k_) ∧ some k_ ≠ (.slice Ao42 x11_2.length co42 : Value).ownBlock ∧ k_ ≠ gb142 ∧ k_ ≠ gb149)) (by (with_reducible repeat (first | apply Kd.V_alloc | apply Kd.V_drewN | apply Kd.V_drew)); exact Kd.V_mono HO_143001.out (fun _ hk => ⟨⟨hk.1, ⟨hk.2.2.1, ⟨hk.2.2.2.1, hk.2.2.2.2⟩⟩⟩, hk.2.1⟩)) hg hat); have n2_ := Aside0.mk (Kd.V_afterv (ok := (fun k_ => (P1_1_ k_ ∨ w.heap.size ≤ k_) ∧ some k_ ≠ (.slice Ao42 x11_2.length co42 : Value).ownBlock ∧ k_ ≠ gb142 ∧ k_ ≠ gb149)) (by (with_reducible repeat (first | apply Kd.V_alloc | apply Kd.V_drewN | apply Kd.V_drew)); exact Kd.V_mono HO_150001.out (fun _ hk => ⟨⟨hk.1, ⟨hk.2.2.1, ⟨hk.2.2.2.1, hk.2.2.2.2⟩⟩⟩, hk.2.1⟩)) hg hat); have n3_ := Aside0.mk (blk_grown (g := gb142) (o := .cells #[.int .i64 x143000_2, u143001] 52 (0, 0)) (by (with_reducible repeat (first | refine blk_drewN ?_ _ | refine blk_drew ?_ | refine blk_alloc ?_ _)); exact BK142.out) hg (Kd.N_away HO_9.out (fun _ hk => hk.2.2.1))); have n4_ := Aside0.mk (blk_grown (g := gb149) (o := .cells #[.int .i64 x150000_2, .slice Ao52 x150001_2.length co52] 52 (0, 0)) (by (with_reducible repeat (first | refine blk_drewN ?_ _ | refine blk_drew ?_ | refine blk_alloc ?_ _)); exact BK149.out) hg (Kd.N_away HO_9.out (fun _ hk => hk.2.2.2))); have n5_ := Aside0.mk (hb); have n6_ := Aside0.mk (ho); clear HO_11; clear HO_143001; clear HO_150001; clear BK142; clear BK149; clear HB; clear HO_9; have HO_11 := n0_; have HO_143001 := n1_; have HO_150001 := n2_; have BK142 := n3_; have BK149 := n4_; have HB := n5_; have HO165 := n6_; clear n0_ n1_ n2_ n3_ n4_ n5_ n6_; clear ho hb hg hat))
                          go_meet
                          case rel => exact ⟨_, (y163), (true), (by first | rfl | (simp; done) | (simp [*]; done)), H', ⟨by have := HJ2.out; have := HK2.out; have := HJ40.out; first | omega | exact Nat.le_refl _⟩, ⟨by (with_reducible repeat (first | apply Kd.N_alloc | apply Kd.N_drewN | apply Kd.N_drew)); exact HO165.out⟩, ⟨by (with_reducible repeat (first | apply Kd.N_alloc | apply Kd.N_drewN | apply Kd.N_drew)); exact Kd.N_mono HO_11.out (fun _ hk => ⟨hk.1.1, ⟨hk.2, ⟨hk.1.2.1, hk.1.2.2⟩⟩⟩)⟩, ⟨by (with_reducible repeat (first | apply Kd.V_alloc | apply Kd.V_drewN | apply Kd.V_drew)); exact Kd.V_mono HO_143001.out (fun _ hk => ⟨hk.1.1, ⟨hk.2, ⟨hk.1.2.1, ⟨hk.1.2.2.1, hk.1.2.2.2⟩⟩⟩⟩)⟩, ⟨by (with_reducible repeat (first | apply Kd.V_alloc | apply Kd.V_drewN | apply Kd.V_drew)); exact Kd.V_mono HO_150001.out (fun _ hk => ⟨hk.1.1, ⟨hk.2, ⟨hk.1.2.1, ⟨hk.1.2.2.1, hk.1.2.2.2⟩⟩⟩⟩)⟩, ⟨by (with_reducible repeat (first | refine blk_drewN ?_ _ | refine blk_drew ?_ | refine blk_alloc ?_ _)); exact BK142.out⟩, ⟨by (with_reducible repeat (first | refine blk_drewN ?_ _ | refine blk_drew ?_ | refine blk_alloc ?_ _)); exact BK149.out⟩, ⟨by repeat (first | (with_reducible first | exact HB.out | apply below_alloc | apply pw_below_drewN | apply below_drew1 | refine below_set ?_ GE142.out | refine below_set ?_ GE149.out) | exact HB.out)⟩⟩
                        · rw [if_neg c48] at H
                          exact absurd H (by simp)
                      · replace c47 := Bool.eq_false_iff.mpr c47
                        subst c47
                        have H1 : (slotmeshref33_Add.j3 kj40 t154 x9_2 x10_2 x11_2 x12_2 x150000_2 x150001_2) = some (r1, r2, r3) := by rw [if_neg (show ¬ (false = true) by decide)] at H; exact H
                        clear H
                        have H := H1
                        clear H1
                        have H' := Aside0.mk H
                        clear H
                        go_wp2
                        go_meet
                        case rel => exact ⟨_, (x9_2), (x10_2), (by first | rfl | (simp; done) | (simp [*]; done)), H', ⟨by have := HJ2.out; have := HK2.out; have := HJ40.out; first | omega | exact Nat.le_refl _⟩, ⟨by (with_reducible repeat (first | apply Kd.N_alloc | apply Kd.N_drewN | apply Kd.N_drew)); exact HO_9.out⟩, ⟨by (with_reducible repeat (first | apply Kd.N_alloc | apply Kd.N_drewN | apply Kd.N_drew)); exact HO_11.out⟩, ⟨by (with_reducible repeat (first | apply Kd.V_alloc | apply Kd.V_drewN | apply Kd.V_drew)); exact HO_143001.out⟩, ⟨by (with_reducible repeat (first | apply Kd.V_alloc | apply Kd.V_drewN | apply Kd.V_drew)); exact HO_150001.out⟩, ⟨by (with_reducible repeat (first | refine blk_drewN ?_ _ | refine blk_drew ?_ | refine blk_alloc ?_ _)); exact BK142.out⟩, ⟨by (with_reducible repeat (first | refine blk_drewN ?_ _ | refine blk_drew ?_ | refine blk_alloc ?_ _)); exact BK149.out⟩, ⟨by repeat (first | (with_reducible first | exact HB.out | apply below_alloc | apply pw_below_drewN | apply below_drew1 | refine below_set ?_ GE142.out | refine below_set ?_ GE149.out) | exact HB.out)⟩⟩
                    case rest =>
                      clear HC46
                      try clear c1
                      try clear p1
                      try clear q1
                      try clear hx1
                      try clear c2
                      try clear p2
                      try clear c3
                      try clear c4
                      try clear c5
                      try clear c6
                      try clear c12
                      try clear c14
                      try clear c14b0
                      try clear c14b1
                      try clear c16
                      try clear p16
                      try clear q16
                      try clear hx16
                      try clear c21
                      try clear c28
                      try clear c36
                      try clear c39
                      try clear c40
                      try clear c40b0
                      try clear c43
                      try clear c44
                      try clear c44b0
                      try clear c47
                      try clear c48
                      try clear c49
                      try clear hcz18_0
                      try clear hcz18_1
                      try clear hcz22_0
                      try clear hcz22_1
                      try clear hcz25_0
                      try clear hcz25_1
                      try clear hcz29_0
                      try clear hcz29_1
                      try clear hcz33_0
                      try clear hcz33_1
                      try clear hcz37_0
                      try clear hcz37_1
                      try clear hcz50_0
                      try clear hcz50_1
                      try clear hcz9_0
                      try clear hcz9_1
                      try clear hfz18_0
                      try clear hfz18_1
                      try clear hfz22_0
                      try clear hfz22_1
                      try clear hfz25_0
                      try clear hfz25_1
                      try clear hfz29_0
                      try clear hfz29_1
                      try clear hfz33_0
                      try clear hfz33_1
                      try clear hfz37_0
                      try clear hfz37_1
                      try clear hfz50_0
                      try clear hfz50_1
                      try clear hfz9_0
                      try clear hfz9_1
                      try clear hx161_0
                      try clear hx161_1
                      try clear p1
                      try clear p16
                      try clear p161
                      try clear p2
                      try clear q1
                      try clear q16
                      try clear q161
                      obtain ⟨kq, x9_45, x10_45, rfl, HA, HJ45, HO_9, HO_11, HO_143001, HO_150001, BK142, BK149, HB⟩ := hcut
                      cases kq with
                      | zero => exact absurd HA.out (by simp [slotmeshref33_Add.j3])
                      | succ kj45 =>
                        have H := HA.out
                        clear HA
                        simp only [slotmeshref33_Add.j3] at H
                        by_cases c53 : 0 ≤ x12_2
                        · rw [if_pos c53] at H
                          have c53b0 : decide (0 ≤ x12_2) = true := decide_eq_true c53
                          clear c53
                          by_cases c54 : x12_2 < (x11_2.length : Int)
                          · rw [if_pos c54] at H
                            have c54b0 : decide (x12_2 < (x11_2.length : Int)) = true := decide_eq_true c54
                            clear c54
                            by_cases c55 : (Go.bits .and .i64 ((rd_T25 x11_2 x12_2).f0) t154) = 0
                            · rw [if_pos c55] at H
                              have c55b0 : ((Go.bits .and .i64 ((rd_T25 x11_2 x12_2).f0) t154) == 0) = true := beq_iff_eq.mpr c55
                              have c55b1 : ((Go.bits .and .i64 ((rd_T25 x11_2 x12_2).f0) t154) != 0) = false := bne_eq_false_iff_eq.mpr c55
                              clear c55
                              by_cases c56 : x9_45.length < 4398046511104
                              · rw [if_pos c56] at H
                                have LMc56 := Aside0.mk c56
                                clear c56
                                obtain ⟨y168, hy168⟩ : ∃ y_ : List (S25), y_ = (x9_45 ++ [(⟨(rd_T25 x11_2 x12_2).f0, (rd_T25 x11_2 x12_2).f1⟩ : S25)]) := ⟨_, rfl⟩
                                replace H : (slotmeshref33_Add.l0 kj45 t154 y168 x10_45 x11_2 (wrap64 (x12_2 + 1)) x150000_2 x150001_2) = some (r1, r2, r3) := by first | (rw [hy168]; with_reducible exact H) | (have H2_ := (Option.bind_some _ _).symm.trans H; rw [hy168]; with_reducible exact H2_) | (have H2_ := (Option.bind_some _ _).symm.trans H; with_reducible exact H2_) | with_reducible exact H | (rw [hy168]; exact H) | exact H
                                have Ny168 := Aside0.mk hy168
                                clear hy168
                                have H' := Aside0.mk H
                                clear H
                                have p166 : 0 ≤ (x12_2 : Int) := of_decide_eq_true (by first | (with_reducible assumption) | assumption)
                                have q166 : x12_2 < (x11_2.length : Int) := of_decide_eq_true (by first | (with_reducible assumption) | assumption)
                                obtain ⟨ad166, A166_1, c166_1, e166, hx166_0, hx166_1, hl166_1, hi166_1⟩ := at_T25 (Kd.N_reads' HO_11.out).2.2 x12_2 p166 q166
                                cases e166
                                obtain ⟨ce166, hce166, hMe166, hcc166⟩ := Kd.N_get HO_11.out z25 x12_2 p166 (by first | exact q166 | exact of_decide_eq_true (by first | (with_reducible assumption) | assumption) | (have e_ := (Kd.N_reads' HO_11.out).1; omega))
                                obtain ⟨ua166_1, uc166_1, rfl, ul166_1, ge166_1⟩ := k25_openF hMe166
                                have hv166_1 := hcc166 1 _ rfl
                                rw [add_field _ _ 1 (by omega)] at hv166_1
                                replace hv166_1 := Option.some.inj (hv166_1.symm.trans hx166_1)
                                injection hv166_1 with hva_ hvn_ hvc_
                                rw [hva_] at ge166_1
                                rw [hvc_] at ul166_1
                                have HL166_1 := Aside0.mk (show Kd.V (Kd.int .u8) 5 _ w.heap.size _ _ ((rd_T25 x11_2 x12_2).f1) from Kd.V_mk ul166_1 ge166_1)
                                clear hva_ hvn_ hvc_ ge166_1 ul166_1
                                clear hcc166 hce166
                                have HR166_1 := Aside0.mk hi166_1
                                have HC166_1 := Aside0.mk hl166_1
                                clear hi166_1 hl166_1
                                replace p166 := eq_true p166
                                replace q166 := eq_true q166
                                have p167 : 0 ≤ (x12_2 : Int) := of_decide_eq_true (by first | (with_reducible assumption) | assumption)
                                have q167 : x12_2 < (x11_2.length : Int) := of_decide_eq_true (by first | (with_reducible assumption) | assumption)
                                obtain ⟨ad167, A167_1, c167_1, e167, hx167_0, hx167_1, hl167_1, hi167_1⟩ := at_T25 (Kd.N_reads' HO_11.out).2.2 x12_2 p167 q167
                                obtain rfl : ad166 = ad167 := (by injection e167)
                                obtain ⟨ce167, hce167, hMe167, hcc167⟩ := Kd.N_get HO_11.out z25 x12_2 p167 (by first | exact q167 | exact of_decide_eq_true (by first | (with_reducible assumption) | assumption) | (have e_ := (Kd.N_reads' HO_11.out).1; omega))
                                obtain ⟨ua167_1, uc167_1, rfl, ul167_1, ge167_1⟩ := k25_openF hMe167
                                have hv167_1 := hcc167 1 _ rfl
                                rw [add_field _ _ 1 (by omega)] at hv167_1
                                replace hv167_1 := Option.some.inj (hv167_1.symm.trans hx167_1)
                                injection hv167_1 with hva_ hvn_ hvc_
                                rw [hva_] at ge167_1
                                rw [hvc_] at ul167_1
                                have HL167_1 := Aside0.mk (show Kd.V (Kd.int .u8) 5 _ w.heap.size _ _ ((rd_T25 x11_2 x12_2).f1) from Kd.V_mk ul167_1 ge167_1)
                                clear hva_ hvn_ hvc_ ge167_1 ul167_1
                                clear hcc167 hce167
                                have HR167_1 := Aside0.mk hi167_1
                                have HC167_1 := Aside0.mk hl167_1
                                clear hi167_1 hl167_1
                                replace p167 := eq_true p167
                                replace q167 := eq_true q167
                                have ea_ := Option.some.inj (hx166_1.symm.trans hx167_1)
                                injection ea_ with ea_ en_ ec_
                                subst ea_
                                subst ec_
                                clear en_
                                go_wp2_with (first | ((with_reducible refine gate_builtin (b := .append) (xs := #[.tmp 88, .tmp 93]) rfl ?_); at_builtin; refine Kd.N_append k25 (w0 := w) w.heap.size rfl (.tmp 88) (.tmp 93) 23 52 (.agg #[(.int .i64 0), (.slice none 0 0)]) 32 rfl Tryd.underlying23 info25 rfl (by decide) (by omega) u9 x9_45 (⟨(rd_T25 x11_2 x12_2).f0, (rd_T25 x11_2 x12_2).f1⟩ : S25) [.int .i64 ((rd_T25 x11_2 x12_2).f0), .slice A166_1 ((rd_T25 x11_2 x12_2).f1).length c166_1] (fun k_ => (P1_1_ k_ ∨ w.heap.size ≤ k_) ∧ some k_ ≠ (.slice (some ad166) x11_2.length co42 : Value).ownBlock ∧ k_ ≠ gb142 ∧ k_ ≠ gb149) (fun k_ => ((fun k_ => (P1_1_ k_ ∨ w.heap.size ≤ k_) ∧ some k_ ≠ (.slice (some ad166) x11_2.length co42 : Value).ownBlock ∧ k_ ≠ gb142 ∧ k_ ≠ gb149)) k_ ∧ some k_ ≠ (u9 : Value).ownBlock) rfl rfl ?aP (fun _ hk => hk) ?aF ?aO ?aB ?aS ?aL ?_; (case aP => exact (k25_mkF _ _ (⟨(rd_T25 x11_2 x12_2).f0, (rd_T25 x11_2 x12_2).f1⟩ : S25) (Kd.V_reads' (Kd.V_mono (ok' := (fun k_ => ((fun k_ => (P1_1_ k_ ∨ w.heap.size ≤ k_) ∧ some k_ ≠ (.slice (some ad166) x11_2.length co42 : Value).ownBlock ∧ k_ ≠ gb142 ∧ k_ ≠ gb149)) k_ ∧ some k_ ≠ (u9 : Value).ownBlock)) (HL167_1.out) (fun k_ hk => ⟨⟨hk.1.1, ⟨hk.2, ⟨hk.1.2.2.1, hk.1.2.2.2⟩⟩⟩, hk.1.2.1⟩))).2.1 (Kd.V_F (Kd.V_mono (ok' := (fun k_ => ((fun k_ => (P1_1_ k_ ∨ w.heap.size ≤ k_) ∧ some k_ ≠ (.slice (some ad166) x11_2.length co42 : Value).ownBlock ∧ k_ ≠ gb142 ∧ k_ ≠ gb149)) k_ ∧ some k_ ≠ (u9 : Value).ownBlock)) (HL167_1.out) (fun k_ hk => ⟨⟨hk.1.1, ⟨hk.2, ⟨hk.1.2.2.1, hk.1.2.2.2⟩⟩⟩, hk.1.2.1⟩))))); (case aB => exact (by repeat (first | (with_reducible first | exact HB.out | apply below_alloc | apply pw_below_drewN | apply below_drew1 | refine below_set ?_ GE142.out | refine below_set ?_ GE149.out) | exact HB.out))); (case aF => exact (fun k_ hk => ⟨(.inr (Nat.le_trans (below_size (by repeat (first | (with_reducible first | exact HB.out | apply below_alloc | apply pw_below_drewN | apply below_drew1 | refine below_set ?_ GE142.out | refine below_set ?_ GE149.out) | exact HB.out))) hk)), Kd.fresh' (Kd.N_lt (by (with_reducible repeat (first | apply Kd.N_alloc | apply Kd.N_drewN | apply Kd.N_drew)); exact HO_11.out)) k_ hk, Kd.freshB (g := gb142) (o := .cells #[.int .i64 x143000_2, u143001] 52 (0, 0)) (by (with_reducible repeat (first | refine blk_drewN ?_ _ | refine blk_drew ?_ | refine blk_alloc ?_ _)); exact BK142.out) k_ hk, Kd.freshB (g := gb149) (o := .cells #[.int .i64 x150000_2, u150001] 52 (0, 0)) (by (with_reducible repeat (first | refine blk_drewN ?_ _ | refine blk_drew ?_ | refine blk_alloc ?_ _)); exact BK149.out) k_ hk⟩)); (case aO => exact (by (with_reducible repeat (first | apply Kd.N_alloc | apply Kd.N_drewN | apply Kd.N_drew)); exact HO_9.out)); (case aS => exact (below_size (by repeat (first | (with_reducible first | exact HB.out | apply below_alloc | apply pw_below_drewN | apply below_drew1 | refine below_set ?_ GE142.out | refine below_set ?_ GE149.out) | exact HB.out)))); (case aL => have := LMc56.out; omega); intro v169 w57 ho hb hg hat; rw [← Ny168.out] at ho; have n0_ := Aside0.mk (Kd.N_afterv (ok := (fun k_ => (P1_1_ k_ ∨ w.heap.size ≤ k_) ∧ k_ ≠ gb142 ∧ k_ ≠ gb149)) (by (with_reducible repeat (first | apply Kd.N_alloc | apply Kd.N_drewN | apply Kd.N_drew)); exact Kd.N_mono HO_11.out (fun _ hk => ⟨⟨hk.1, ⟨hk.2.2.1, hk.2.2.2⟩⟩, hk.2.1⟩)) hg hat); have n1_ := Aside0.mk (Kd.V_afterv (ok := (fun k_ => (P1_1_ k_ ∨ w.heap.size ≤ k_) ∧ some k_ ≠ (.slice (some ad166) x11_2.length co42 : Value).ownBlock ∧ k_ ≠ gb142 ∧ k_ ≠ gb149)) (by (with_reducible repeat (first | apply Kd.V_alloc | apply Kd.V_drewN | apply Kd.V_drew)); exact Kd.V_mono HO_143001.out (fun _ hk => ⟨⟨hk.1, ⟨hk.2.2.1, ⟨hk.2.2.2.1, hk.2.2.2.2⟩⟩⟩, hk.2.1⟩)) hg hat); have n2_ := Aside0.mk (Kd.V_afterv (ok := (fun k_ => (P1_1_ k_ ∨ w.heap.size ≤ k_) ∧ some k_ ≠ (.slice (some ad166) x11_2.length co42 : Value).ownBlock ∧ k_ ≠ gb142 ∧ k_ ≠ gb149)) (by (with_reducible repeat (first | apply Kd.V_alloc | apply Kd.V_drewN | apply Kd.V_drew)); exact Kd.V_mono HO_150001.out (fun _ hk => ⟨⟨hk.1, ⟨hk.2.2.1, ⟨hk.2.2.2.1, hk.2.2.2.2⟩⟩⟩, hk.2.1⟩)) hg hat); have n3_ := Aside0.mk (blk_grown (g := gb142) (o := .cells #[.int .i64 x143000_2, u143001] 52 (0, 0)) (by (with_reducible repeat (first | refine blk_drewN ?_ _ | refine blk_drew ?_ | refine blk_alloc ?_ _)); exact BK142.out) hg (Kd.N_away HO_9.out (fun _ hk => hk.2.2.1))); have n4_ := Aside0.mk (blk_grown (g := gb149) (o := .cells #[.int .i64 x150000_2, u150001] 52 (0, 0)) (by (with_reducible repeat (first | refine blk_drewN ?_ _ | refine blk_drew ?_ | refine blk_alloc ?_ _)); exact BK149.out) hg (Kd.N_away HO_9.out (fun _ hk => hk.2.2.2))); have n5_ := Aside0.mk (Kd.V_afterv (ok := (fun k_ => (P1_1_ k_ ∨ w.heap.size ≤ k_) ∧ some k_ ≠ (.slice (some ad166) x11_2.length co42 : Value).ownBlock ∧ k_ ≠ gb142 ∧ k_ ≠ gb149)) (by (with_reducible repeat (first | apply Kd.V_alloc | apply Kd.V_drewN | apply Kd.V_drew)); exact Kd.V_mono HL166_1.out (fun _ hk => ⟨⟨hk.1.1, ⟨hk.2, ⟨hk.1.2.2.1, hk.1.2.2.2⟩⟩⟩, hk.1.2.1⟩)) hg hat); have n6_ := Aside0.mk (Kd.V_afterv (ok := (fun k_ => (P1_1_ k_ ∨ w.heap.size ≤ k_) ∧ some k_ ≠ (.slice (some ad166) x11_2.length co42 : Value).ownBlock ∧ k_ ≠ gb142 ∧ k_ ≠ gb149)) (by (with_reducible repeat (first | apply Kd.V_alloc | apply Kd.V_drewN | apply Kd.V_drew)); exact Kd.V_mono HL167_1.out (fun _ hk => ⟨⟨hk.1.1, ⟨hk.2, ⟨hk.1.2.2.1, hk.1.2.2.2⟩⟩⟩, hk.1.2.1⟩)) hg hat); have n7_ := Aside0.mk (hb); have n8_ := Aside0.mk (ho); clear HO_11; clear HO_143001; clear HO_150001; clear BK142; clear BK149; clear HL166_1; clear HL167_1; clear HB; clear HO_9; have HO_11 := n0_; have HO_143001 := n1_; have HO_150001 := n2_; have BK142 := n3_; have BK149 := n4_; have HL166_1 := n5_; have HL167_1 := n6_; have HB := n7_; have HO170 := n8_; clear n0_ n1_ n2_ n3_ n4_ n5_ n6_ n7_ n8_; clear ho hb hg hat))
                                go_roundg kj45
                                case measure => have := HJ2.out; have := HK2.out; have := HJ40.out; have := HJ45.out; omega
                                case rel => exact ⟨(y168), (x10_45), (x11_2), (wrap64 (x12_2 + 1)), (x143000_2), (x143001_2), (x150000_2), (x150001_2), (u143001), (u150001), (by first | rfl | (simp; done) | (simp [*]; done)), (by first | rfl | (simp; done) | (simp [*]; done)), H', ⟨by have := HJ2.out; have := HK2.out; have := HJ40.out; have := HJ45.out; omega⟩, ⟨by (with_reducible repeat (first | apply Kd.N_alloc | apply Kd.N_drewN | apply Kd.N_drew)); exact HO170.out⟩, ⟨by (with_reducible repeat (first | apply Kd.N_alloc | apply Kd.N_drewN | apply Kd.N_drew)); exact Kd.N_mono HO_11.out (fun _ hk => ⟨hk.1.1, ⟨hk.2, ⟨hk.1.2.1, hk.1.2.2⟩⟩⟩)⟩, ⟨by (with_reducible repeat (first | apply Kd.V_alloc | apply Kd.V_drewN | apply Kd.V_drew)); exact Kd.V_mono HO_143001.out (fun _ hk => ⟨hk.1.1, ⟨hk.2, ⟨hk.1.2.1, ⟨hk.1.2.2.1, hk.1.2.2.2⟩⟩⟩⟩)⟩, ⟨by (with_reducible repeat (first | apply Kd.V_alloc | apply Kd.V_drewN | apply Kd.V_drew)); exact Kd.V_mono HO_150001.out (fun _ hk => ⟨hk.1.1, ⟨hk.2, ⟨hk.1.2.1, ⟨hk.1.2.2.1, hk.1.2.2.2⟩⟩⟩⟩)⟩, ⟨by (with_reducible repeat (first | refine blk_drewN ?_ _ | refine blk_drew ?_ | refine blk_alloc ?_ _)); exact BK142.out⟩, ⟨by (with_reducible repeat (first | refine blk_drewN ?_ _ | refine blk_drew ?_ | refine blk_alloc ?_ _)); exact BK149.out⟩, ⟨by repeat (first | (with_reducible first | exact HB.out | apply below_alloc | apply pw_below_drewN | apply below_drew1 | refine below_set ?_ GE142.out | refine below_set ?_ GE149.out) | exact HB.out)⟩⟩
                              · rw [if_neg c56] at H
                                exact absurd H (by simp)
                            · rw [if_neg c55] at H
                              have c55b0 : ((Go.bits .and .i64 ((rd_T25 x11_2 x12_2).f0) t154) == 0) = false := beq_eq_false_iff_ne.mpr c55
                              have c55b1 : ((Go.bits .and .i64 ((rd_T25 x11_2 x12_2).f0) t154) != 0) = true := bne_iff_ne.mpr c55
                              replace H := Option.bind_eq_some_iff.mp H
                              obtain ⟨t173, A580, H⟩ := H
                              replace H : ((some (x11_2.set (x12_2 : Int).toNat (⟨Go.bits .xor .i64 ((rd_T25 x11_2 x12_2).f0) x150000_2, t173⟩ : S25) : List (S25))).bind fun y176 => (if x9_45.length < 4398046511104 then (slotmeshref33_Add.l0 kj45 t154 (x9_45 ++ [(⟨(rd_T25 y176 x12_2).f0, (rd_T25 y176 x12_2).f1⟩ : S25)]) x10_45 y176 (wrap64 (x12_2 + 1)) x150000_2 x150001_2) else (none))) = some (r1, r2, r3) := H
                              have A58 := Aside0.mk A580
                              clear A580
                              obtain ⟨y176, hy176⟩ : ∃ y_ : List (S25), y_ = (x11_2.set (x12_2 : Int).toNat (⟨Go.bits .xor .i64 ((rd_T25 x11_2 x12_2).f0) x150000_2, t173⟩ : S25)) := ⟨_, rfl⟩
                              replace H : (if x9_45.length < 4398046511104 then (slotmeshref33_Add.l0 kj45 t154 (x9_45 ++ [(⟨(rd_T25 y176 x12_2).f0, (rd_T25 y176 x12_2).f1⟩ : S25)]) x10_45 y176 (wrap64 (x12_2 + 1)) x150000_2 x150001_2) else (none)) = some (r1, r2, r3) := by first | (rw [hy176]; with_reducible exact H) | (have H2_ := (Option.bind_some _ _).symm.trans H; rw [hy176]; with_reducible exact H2_) | (have H2_ := (Option.bind_some _ _).symm.trans H; with_reducible exact H2_) | with_reducible exact H | (rw [hy176]; exact H) | exact H
                              have Ny176 := Aside0.mk hy176
                              clear hy176
                              by_cases c60 : x9_45.length < 4398046511104
                              · rw [if_pos c60] at H
                                have LMc60 := Aside0.mk c60
                                clear c60
                                obtain ⟨y178, hy178⟩ : ∃ y_ : List (S25), y_ = (x9_45 ++ [(⟨(rd_T25 y176 x12_2).f0, (rd_T25 y176 x12_2).f1⟩ : S25)]) := ⟨_, rfl⟩
                                replace H : (slotmeshref33_Add.l0 kj45 t154 y178 x10_45 y176 (wrap64 (x12_2 + 1)) x150000_2 x150001_2) = some (r1, r2, r3) := by first | (rw [hy178]; with_reducible exact H) | (have H2_ := (Option.bind_some _ _).symm.trans H; rw [hy178]; with_reducible exact H2_) | (have H2_ := (Option.bind_some _ _).symm.trans H; with_reducible exact H2_) | with_reducible exact H | (rw [hy178]; exact H) | exact H
                                have Ny178 := Aside0.mk hy178
                                clear hy178
                                have H' := Aside0.mk H
                                clear H
                                have p166 : 0 ≤ (x12_2 : Int) := of_decide_eq_true (by first | (with_reducible assumption) | assumption)
                                have q166 : x12_2 < (x11_2.length : Int) := of_decide_eq_true (by first | (with_reducible assumption) | assumption)
                                obtain ⟨ad166, A166_1, c166_1, e166, hx166_0, hx166_1, hl166_1, hi166_1⟩ := at_T25 (Kd.N_reads' HO_11.out).2.2 x12_2 p166 q166
                                cases e166
                                obtain ⟨ce166, hce166, hMe166, hcc166⟩ := Kd.N_get HO_11.out z25 x12_2 p166 (by first | exact q166 | exact of_decide_eq_true (by first | (with_reducible assumption) | assumption) | (have e_ := (Kd.N_reads' HO_11.out).1; omega))
                                obtain ⟨ua166_1, uc166_1, rfl, ul166_1, ge166_1⟩ := k25_openF hMe166
                                have hv166_1 := hcc166 1 _ rfl
                                rw [add_field _ _ 1 (by omega)] at hv166_1
                                replace hv166_1 := Option.some.inj (hv166_1.symm.trans hx166_1)
                                injection hv166_1 with hva_ hvn_ hvc_
                                rw [hva_] at ge166_1
                                rw [hvc_] at ul166_1
                                have HL166_1 := Aside0.mk (show Kd.V (Kd.int .u8) 5 _ w.heap.size _ _ ((rd_T25 x11_2 x12_2).f1) from Kd.V_mk ul166_1 ge166_1)
                                clear hva_ hvn_ hvc_ ge166_1 ul166_1
                                clear hcc166 hce166
                                have HR166_1 := Aside0.mk hi166_1
                                have HC166_1 := Aside0.mk hl166_1
                                clear hi166_1 hl166_1
                                replace p166 := eq_true p166
                                replace q166 := eq_true q166
                                try go_wp2
                                have n0_ := Aside0.mk (Kd.N_drew HO_9.out)
                                have n1_ := Aside0.mk (Kd.N_drew HO_11.out)
                                have n2_ := Aside0.mk (Kd.V_drew HO_143001.out)
                                have n3_ := Aside0.mk (Kd.V_drew HO_150001.out)
                                have n4_ := Aside0.mk (Kd.V_drew HL166_1.out)
                                have n5_ := Aside0.mk (blk_drew BK142.out)
                                have n6_ := Aside0.mk (blk_drew BK149.out)
                                have n7_ := Aside0.mk (Kd.C_drew HR166_1.out)
                                have n8_ := Aside0.mk (below_drew1 HB.out)
                                clear HO_9
                                clear HO_11
                                clear HO_143001
                                clear HO_150001
                                clear HL166_1
                                clear BK142
                                clear BK149
                                clear HR166_1
                                clear HB
                                have HO_9 := n0_
                                have HO_11 := n1_
                                have HO_143001 := n2_
                                have HO_150001 := n3_
                                have HL166_1 := n4_
                                have BK142 := n5_
                                have BK149 := n6_
                                have HR166_1 := n7_
                                have HB := n8_
                                clear n0_ n1_ n2_ n3_ n4_ n5_ n6_ n7_ n8_
                                have p171 : 0 ≤ (x12_2 : Int) := of_decide_eq_true (by first | (with_reducible assumption) | assumption)
                                have q171 : x12_2 < (x11_2.length : Int) := of_decide_eq_true (by first | (with_reducible assumption) | assumption)
                                obtain ⟨ad171, A171_1, c171_1, e171, hx171_0, hx171_1, hl171_1, hi171_1⟩ := at_T25 (Kd.N_reads' HO_11.out).2.2 x12_2 p171 q171
                                obtain rfl : ad166 = ad171 := (by injection e171)
                                obtain ⟨ce171, hce171, hMe171, hcc171⟩ := Kd.N_get HO_11.out z25 x12_2 p171 (by first | exact q171 | exact of_decide_eq_true (by first | (with_reducible assumption) | assumption) | (have e_ := (Kd.N_reads' HO_11.out).1; omega))
                                obtain ⟨ua171_1, uc171_1, rfl, ul171_1, ge171_1⟩ := k25_openF hMe171
                                have hv171_1 := hcc171 1 _ rfl
                                rw [add_field _ _ 1 (by omega)] at hv171_1
                                replace hv171_1 := Option.some.inj (hv171_1.symm.trans hx171_1)
                                injection hv171_1 with hva_ hvn_ hvc_
                                rw [hva_] at ge171_1
                                rw [hvc_] at ul171_1
                                have HL171_1 := Aside0.mk (show Kd.V (Kd.int .u8) 5 _ w.heap.size _ _ ((rd_T25 x11_2 x12_2).f1) from Kd.V_mk ul171_1 ge171_1)
                                clear hva_ hvn_ hvc_ ge171_1 ul171_1
                                clear hcc171 hce171
                                have HR171_1 := Aside0.mk hi171_1
                                have HC171_1 := Aside0.mk hl171_1
                                clear hi171_1 hl171_1
                                replace p171 := eq_true p171
                                replace q171 := eq_true q171
                                have p172 : 0 ≤ (x12_2 : Int) := of_decide_eq_true (by first | (with_reducible assumption) | assumption)
                                have q172 : x12_2 < (x11_2.length : Int) := of_decide_eq_true (by first | (with_reducible assumption) | assumption)
                                obtain ⟨ad172, A172_1, c172_1, e172, hx172_0, hx172_1, hl172_1, hi172_1⟩ := at_T25 (Kd.N_reads' HO_11.out).2.2 x12_2 p172 q172
                                obtain rfl : ad166 = ad172 := (by injection e172)
                                obtain ⟨ce172, hce172, hMe172, hcc172⟩ := Kd.N_get HO_11.out z25 x12_2 p172 (by first | exact q172 | exact of_decide_eq_true (by first | (with_reducible assumption) | assumption) | (have e_ := (Kd.N_reads' HO_11.out).1; omega))
                                obtain ⟨ua172_1, uc172_1, rfl, ul172_1, ge172_1⟩ := k25_openF hMe172
                                have hv172_1 := hcc172 1 _ rfl
                                rw [add_field _ _ 1 (by omega)] at hv172_1
                                replace hv172_1 := Option.some.inj (hv172_1.symm.trans hx172_1)
                                injection hv172_1 with hva_ hvn_ hvc_
                                rw [hva_] at ge172_1
                                rw [hvc_] at ul172_1
                                have HL172_1 := Aside0.mk (show Kd.V (Kd.int .u8) 5 _ w.heap.size _ _ ((rd_T25 x11_2 x12_2).f1) from Kd.V_mk ul172_1 ge172_1)
                                clear hva_ hvn_ hvc_ ge172_1 ul172_1
                                clear hcc172 hce172
                                have HR172_1 := Aside0.mk hi172_1
                                have HC172_1 := Aside0.mk hl172_1
                                clear hi172_1 hl172_1
                                replace p172 := eq_true p172
                                replace q172 := eq_true q172
                                have ea_ := Option.some.inj (hx171_1.symm.trans hx172_1)
                                injection ea_ with ea_ en_ ec_
                                subst ea_
                                subst ec_
                                clear en_
                                obtain ⟨Ao62, co62, eo62⟩ := Kd.V_slice HO_150001.out
                                (first | subst eo62 | (injection eo62 with f1_ f2_ f3_; have f4_ := f1_.symm; have f5_ := f3_.symm; clear f1_ f2_ f3_; subst f4_; subst f5_))
                                refine start_ (n := 21) (S := fun w' => w'.cell? ⟨gb149, 0, none⟩ = some (.int .i64 x150000_2) ∧ w'.cell? ⟨gb149, 1, none⟩ = some (.slice Ao62 x150001_2.length co62) ∧ w'.cell? (ad166.add ((x12_2).toNat * 2)) = some (.int .i64 ((rd_T25 x11_2 x12_2).f0)) ∧ w'.cell? ⟨(ad166.add ((x12_2).toNat * 2)).block, (ad166.add ((x12_2).toNat * 2)).off + 1, none⟩ = some (.slice A171_1 ((rd_T25 x11_2 x12_2).f1).length c171_1) ∧ w'.cell? (ad166.add ((x12_2).toNat * 2)) = some (.int .i64 ((rd_T25 x11_2 x12_2).f0)) ∧ w'.cell? ⟨(ad166.add ((x12_2).toNat * 2)).block, (ad166.add ((x12_2).toNat * 2)).off + 1, none⟩ = some (.slice A171_1 ((rd_T25 x11_2 x12_2).f1).length c171_1)) (ds := [20]) (bl 21 0) (by kernel_rfl) rfl rfl ⟨(blk_cell BK149.out 0).trans rfl, (blk_cell BK149.out 1).trans rfl, hx171_0, hx171_1, hx172_0, hx172_1⟩ (fun hHeld => ?_); refine with_tabW slotmeshref33_Add.tab19 slotmeshref33_Add.bits19 (fun HT_ HW_ => ?_)
                                generalize wc.drew = w61 at HO_9 HO_11 HO_143001 HO_150001 HL166_1 BK142 BK149 HR166_1 HB HL171_1 HL172_1 HR171_1 HR172_1 hx171_0 hx171_1 hx172_0 hx172_1 hHeld ⊢
                                refine pU 0 68 (bl 21 1) (any_of HT_.out (by kernel_rfl)) (h := ?_)
                                refine pU 1 69 (bl 21 3) (any_of HT_.out (by kernel_rfl)) (h := ?_)
                                refine pU 2 70 (bl 21 7) (any_of HT_.out (by kernel_rfl)) (h := ?_)
                                refine pU 3 71 (bl 21 15) (any_of HT_.out (by kernel_rfl)) (h := ?_)
                                refine pU 4 72 (bl 21 31) (any_of HT_.out (by kernel_rfl)) (h := ?_)
                                refine pU 5 73 (bl 21 63) (any_of HT_.out (by kernel_rfl)) (h := ?_)
                                refine pU 7 75 (bl 21 191) (any_of HT_.out (by kernel_rfl)) (h := ?_)
                                refine pU 10 78 (bl 21 1215) (any_of HT_.out (by kernel_rfl)) (h := ?_)
                                refine pU 11 79 (bl 21 3263) (any_of HT_.out (by kernel_rfl)) (h := ?_)
                                refine pU 12 80 (bl 21 7359) (any_of HT_.out (by kernel_rfl)) (h := ?_)
                                refine pU 13 81 (bl 21 15551) (any_of HT_.out (by kernel_rfl)) (h := ?_)
                                refine pU 15 83 (bl 21 48319) (any_of HT_.out (by kernel_rfl)) (h := ?_)
                                refine tU 6 74 (bl 21 48383) (take_ofW HT_.out HW_.out (by kernel_rfl)) hHeld (hy := by rintro w' ⟨s0, s1, s2, s3, s4, s5⟩; go_simp; with_reducible rfl) (h := ?_)
                                refine tU 8 76 (bl 21 48639) (take_ofW HT_.out HW_.out (by kernel_rfl)) hHeld (hy := by rintro w' ⟨s0, s1, s2, s3, s4, s5⟩; go_simp; with_reducible rfl) (h := ?_)
                                refine pU 9 77 (bl 21 49151) (any_of HT_.out (by kernel_rfl)) (h := ?_)
                                refine tU 14 82 (bl 21 65535) (take_ofW HT_.out HW_.out (by kernel_rfl)) hHeld (hy := by rintro w' ⟨s0, s1, s2, s3, s4, s5⟩; go_simp; with_reducible rfl) (h := ?_)
                                refine tU 16 84 (bl 21 131071) (take_ofW HT_.out HW_.out (by kernel_rfl)) hHeld (hy := by rintro w' ⟨s0, s1, s2, s3, s4, s5⟩; go_simp; with_reducible rfl) (h := ?_)
                                refine one_ (i := 17) (N := some 85) (bl 21 262143) rfl rfl (one_of HT_.out (by kernel_rfl)) (by decide) (fun K hK => ?_)
                                refine goes_ Tryd.func26 (by kernel_rfl) rfl #[.slice A171_1 ((rd_T25 x11_2 x12_2).f1).length c171_1, .slice Ao62 x150001_2.length co62] (by rfl) rfl rfl (by (try simp only [List.map_toArray, List.map_cons, List.map_nil]); first | done | rfl | (simp only [List.length_drop, List.length_take]; rfl)) ?_
                                with_reducible refine (slotmeshref33_Xor.calls kj45 _ _ ((rd_T25 x11_2 x12_2).f1) _ _ x150001_2 t173 _ ?side1 ?side2 ?side3 ?side4 A58.out).mono ?_
                                (case side1 => repeat (first | exact (by repeat (first | (with_reducible exact HR172_1.out) | (with_reducible refine Kd.C_alloc ?_ _) | (with_reducible refine Kd.C_drewN ?_ _) | (with_reducible refine Kd.C_drew ?_) | exact HR172_1.out)) | (with_reducible refine Kd.C_alloc ?_ _) | (with_reducible refine Kd.C_drewN ?_ _) | (with_reducible refine Kd.C_drew ?_)))
                                (case side2 => exact HC172_1.out)
                                (case side3 => repeat (first | exact (Kd.V_reads' HO_150001.out).2.2 | (with_reducible refine Kd.C_alloc ?_ _) | (with_reducible refine Kd.C_drewN ?_ _) | (with_reducible refine Kd.C_drew ?_)))
                                (case side4 => exact (Kd.V_reads' HO_150001.out).2.1)
                                rintro e w63 ⟨v174, rfl, ho0, hb⟩
                                have HS2_ := (hb.cell (World.block_lt_of_cell? _ _ (hHeld.2.2.1))).trans (hHeld.2.2.1)
                                have HS3_ := (hb.cell (World.block_lt_of_cell? _ _ (hHeld.2.2.2.1))).trans (hHeld.2.2.2.1)
                                have HS4_ := (hb.cell (World.block_lt_of_cell? _ _ (hHeld.2.2.2.2.1))).trans (hHeld.2.2.2.2.1)
                                have HS5_ := (hb.cell (World.block_lt_of_cell? _ _ (hHeld.2.2.2.2.2))).trans (hHeld.2.2.2.2.2)
                                refine ⟨_, rfl, ?_⟩
                                have n0_ := Aside0.mk (Kd.N_elder' (by (with_reducible repeat (first | apply Kd.N_alloc | apply Kd.N_drewN | apply Kd.N_drew)); exact HO_9.out) (Kd.R_base ho0) hb)
                                have n1_ := Aside0.mk (Kd.N_elder' (by (with_reducible repeat (first | apply Kd.N_alloc | apply Kd.N_drewN | apply Kd.N_drew)); exact HO_11.out) (Kd.R_base ho0) hb)
                                have n2_ := Aside0.mk (Kd.V_elder' (by (with_reducible repeat (first | apply Kd.V_alloc | apply Kd.V_drewN | apply Kd.V_drew)); exact HO_143001.out) (Kd.R_base ho0) hb)
                                have n3_ := Aside0.mk (Kd.V_elder' (by (with_reducible repeat (first | apply Kd.V_alloc | apply Kd.V_drewN | apply Kd.V_drew)); exact HO_150001.out) (Kd.R_base ho0) hb)
                                have n4_ := Aside0.mk (Kd.V_elder' (by (with_reducible repeat (first | apply Kd.V_alloc | apply Kd.V_drewN | apply Kd.V_drew)); exact HL166_1.out) (Kd.R_base ho0) hb)
                                have n5_ := Aside0.mk (Kd.V_elder' (by (with_reducible repeat (first | apply Kd.V_alloc | apply Kd.V_drewN | apply Kd.V_drew)); exact HL171_1.out) (Kd.R_base ho0) hb)
                                have n6_ := Aside0.mk (Kd.V_elder' (by (with_reducible repeat (first | apply Kd.V_alloc | apply Kd.V_drewN | apply Kd.V_drew)); exact HL172_1.out) (Kd.R_base ho0) hb)
                                have n7_ := Aside0.mk (Kd.R_lower (Kd.R_newM (M := fun k_ => (w.heap.size ≤ k_)) ho0 (below_size (by repeat (first | (with_reducible first | exact HB.out | apply below_alloc | apply pw_below_drewN | apply below_drew1 | refine below_set ?_ GE142.out | refine below_set ?_ GE149.out) | exact HB.out))) (fun k_ h_ => h_)) (below_size (by repeat (first | (with_reducible first | exact HB.out | apply below_alloc | apply pw_below_drewN | apply below_drew1 | refine below_set ?_ GE142.out | refine below_set ?_ GE149.out) | exact HB.out))))
                                have n8_ := Aside0.mk (blk_below (g := gb142) (o := .cells #[.int .i64 x143000_2, u143001] 52 (0, 0)) (by (with_reducible repeat (first | refine blk_drewN ?_ _ | refine blk_drew ?_ | refine blk_alloc ?_ _)); exact BK142.out) hb)
                                have n9_ := Aside0.mk (blk_below (g := gb149) (o := .cells #[.int .i64 x150000_2, .slice Ao62 x150001_2.length co62] 52 (0, 0)) (by (with_reducible repeat (first | refine blk_drewN ?_ _ | refine blk_drew ?_ | refine blk_alloc ?_ _)); exact BK149.out) hb)
                                have n10_ := Aside0.mk (Kd.C_below (by repeat (first | (with_reducible exact HR166_1.out) | (with_reducible refine Kd.C_alloc ?_ _) | (with_reducible refine Kd.C_drewN ?_ _) | (with_reducible refine Kd.C_drew ?_) | exact HR166_1.out)) hb)
                                have n11_ := Aside0.mk (Kd.C_below (by repeat (first | (with_reducible exact HR171_1.out) | (with_reducible refine Kd.C_alloc ?_ _) | (with_reducible refine Kd.C_drewN ?_ _) | (with_reducible refine Kd.C_drew ?_) | exact HR171_1.out)) hb)
                                have n12_ := Aside0.mk (Kd.C_below (by repeat (first | (with_reducible exact HR172_1.out) | (with_reducible refine Kd.C_alloc ?_ _) | (with_reducible refine Kd.C_drewN ?_ _) | (with_reducible refine Kd.C_drew ?_) | exact HR172_1.out)) hb)
                                have n13_ := Aside0.mk (below_step (by repeat (first | (with_reducible first | exact HB.out | apply below_alloc | apply pw_below_drewN | apply below_drew1 | refine below_set ?_ GE142.out | refine below_set ?_ GE149.out) | exact HB.out)) hb)
                                clear HO_9
                                clear HO_11
                                clear HO_143001
                                clear HO_150001
                                clear HL166_1
                                clear HL171_1
                                clear HL172_1
                                clear BK142
                                clear BK149
                                clear HR166_1
                                clear HR171_1
                                clear HR172_1
                                clear HB
                                have HO_9 := n0_
                                have HO_11 := n1_
                                have HO_143001 := n2_
                                have HO_150001 := n3_
                                have HL166_1 := n4_
                                have HL171_1 := n5_
                                have HL172_1 := n6_
                                have HO175 := n7_
                                have BK142 := n8_
                                have BK149 := n9_
                                have HR166_1 := n10_
                                have HR171_1 := n11_
                                have HR172_1 := n12_
                                have HB := n13_
                                clear n0_ n1_ n2_ n3_ n4_ n5_ n6_ n7_ n8_ n9_ n10_ n11_ n12_ n13_
                                (try clear hb)
                                (try clear hb2)
                                (try clear hk)
                                (try clear hi)
                                (try clear ho0)
                                obtain ⟨Ao64, co64, eo64⟩ := Kd.R_slice HO175.out
                                (first | subst eo64 | (injection eo64 with f1_ f2_ f3_; have f4_ := f1_.symm; have f5_ := f3_.symm; clear f1_ f2_ f3_; subst f4_; subst f5_))
                                have p59 : 0 ≤ (x12_2 : Int) := of_decide_eq_true (by first | (with_reducible assumption) | assumption)
                                have q59 : (x12_2 : Int) < ((x11_2.length : Int) : Int) := of_decide_eq_true (by first | (with_reducible assumption) | assumption)
                                obtain ⟨go59, co59, eo59, gb59, gl59, cl59, HG59⟩ := Kd.N_form HO_11.out (by omega)
                                (first | cases eo59 | (injection eo59 with ea_ en_ ec_; (first | subst ea_ | (injection ea_ with ea_; subst ea_)); subst ec_; clear en_))
                                have GB59 := Aside0.mk gb59
                                have GG59 := Aside0.mk HG59
                                clear gb59 gl59 HG59
                                (first | simp only [add_plain] at hx166_0 | skip)
                                (first | simp only [add_plain] at hx166_1 | skip)
                                (first | simp only [add_plain] at hx167_0 | skip)
                                (first | simp only [add_plain] at hx167_1 | skip)
                                (first | simp only [add_plain] at hx171_0 | skip)
                                (first | simp only [add_plain] at hx171_1 | skip)
                                (first | simp only [add_plain] at hx172_0 | skip)
                                (first | simp only [add_plain] at hx172_1 | skip)
                                obtain ⟨ce59, hcl59, hM59, hcc59, hfr59⟩ := Kd.N_elem HO_11.out z25 (x12_2 : Int) p59 q59
                                obtain ⟨ua59_1, uc59_1, rfl, ul59_1, ge59_1⟩ := k25_openF hM59
                                have hx59_0 : World.cell? _ ⟨go59, (x12_2 : Int).toNat * 2, none⟩ = some (.int .i64 ((rd_T25 x11_2 x12_2).f0)) := hcc59 0 _ rfl
                                have hx59_1 : World.cell? _ ⟨go59, (x12_2 : Int).toNat * 2 + 1, none⟩ = some (.slice ua59_1 ((rd_T25 x11_2 x12_2).f1).length uc59_1) := hcc59 1 _ rfl
                                have hf59_0 : World.frozen? _ ⟨go59, (x12_2 : Int).toNat * 2, none⟩ = false := hfr59 0
                                have hf59_1 : World.frozen? _ ⟨go59, (x12_2 : Int).toNat * 2 + 1, none⟩ = false := hfr59 1
                                clear hcl59 hcc59 hfr59 hM59
                                replace p59 := eq_true p59
                                replace q59 := eq_true q59
                                have HX65 := Aside0.mk (show Kd.N k25 52 _ w.heap.size (fun k_ => (P1_1_ k_ ∨ w.heap.size ≤ k_) ∧ some k_ ≠ (u9 : Value).ownBlock ∧ some k_ ≠ (.slice Ao64 t173.length co64 : Value).ownBlock ∧ k_ ≠ gb142 ∧ k_ ≠ gb149) (.slice (some ⟨go59, 0, none⟩) x11_2.length co42) x11_2 from (Kd.N_mono (HO_11.out) (fun k_ hk => ⟨hk.1.1, ⟨hk.1.2.1, ⟨hk.2, ⟨hk.1.2.2.1, hk.1.2.2.2⟩⟩⟩⟩)))
                                replace HX65 := Aside0.mk (show Kd.N k25 52 _ w.heap.size (fun k_ => (P1_1_ k_ ∨ w.heap.size ≤ k_) ∧ some k_ ≠ (u9 : Value).ownBlock ∧ k_ ≠ gb142 ∧ k_ ≠ gb149) (.slice (some ⟨go59, 0, none⟩) x11_2.length co42) x11_2 from Kd.N_mono HX65.out (fun k_ hk => ⟨hk.1, ⟨hk.2.1, ⟨hk.2.2.2.1, hk.2.2.2.2⟩⟩⟩))
                                obtain ⟨ce65, hcl65, hM65, hcc65, hfr65⟩ := Kd.N_elem HX65.out z25 (x12_2 : Int) (of_decide_eq_true (by first | (with_reducible assumption) | assumption)) (by have h_ : (x12_2 : Int) < ((x11_2.length : Int) : Int) := of_decide_eq_true (by first | (with_reducible assumption) | assumption); first | exact h_ | (have e_ := (Kd.N_reads' HO_11.out).1; omega) | simpa using h_)
                                obtain ⟨ua65_1, uc65_1, rfl, ul65_1, ge65_1⟩ := k25_openF hM65
                                have HP65 := (Kd.N_seg HX65.out (x12_2 : Int) (of_decide_eq_true (by first | (with_reducible assumption) | assumption)) (by have h_ : (x12_2 : Int) < ((x11_2.length : Int) : Int) := of_decide_eq_true (by first | (with_reducible assumption) | assumption); first | exact h_ | (have e_ := (Kd.N_reads' HO_11.out).1; omega) | simpa using h_) (seg := [.int .i64 (Go.bits .xor .i64 ((rd_T25 x11_2 x12_2).f0) x150000_2), .slice Ao64 t173.length co64]) (j := 0) hcl65 hcc65 (show 2 ≤ 2 from by decide) (x' := (⟨Go.bits .xor .i64 ((rd_T25 x11_2 x12_2).f0) x150000_2, t173⟩ : S25)) (k25_mkF _ _ (⟨Go.bits .xor .i64 ((rd_T25 x11_2 x12_2).f0) x150000_2, t173⟩ : S25) (Kd.R_reads' (Kd.R_mono (ok' := (fun k_ => ((fun k_ => (P1_1_ k_ ∨ w.heap.size ≤ k_) ∧ some k_ ≠ (u9 : Value).ownBlock ∧ k_ ≠ gb142 ∧ k_ ≠ gb149)) k_ ∧ k_ ≠ go59)) (Kd.R_types (Kd.R_types (Kd.R_apart' (Kd.R_apart' (HO175.out) (Kd.N_typed HO_9.out) (by decide)) (Kd.N_typed HO_11.out) (by decide)) BK142.out (by decide)) BK149.out (by decide)) (fun k_ hk => ⟨⟨(.inr (hk.1.1.1.1.1)), ⟨hk.1.1.1.2, ⟨hk.1.2, hk.2⟩⟩⟩, fun e_ => (hk.1.1.2) (by rw [e_]; rfl)⟩))).2.1 (Kd.R_F (Kd.R_mono (ok' := (fun k_ => ((fun k_ => (P1_1_ k_ ∨ w.heap.size ≤ k_) ∧ some k_ ≠ (u9 : Value).ownBlock ∧ k_ ≠ gb142 ∧ k_ ≠ gb149)) k_ ∧ k_ ≠ go59)) (Kd.R_types (Kd.R_types (Kd.R_apart' (Kd.R_apart' (HO175.out) (Kd.N_typed HO_9.out) (by decide)) (Kd.N_typed HO_11.out) (by decide)) BK142.out (by decide)) BK149.out (by decide)) (fun k_ hk => ⟨⟨(.inr (hk.1.1.1.1.1)), ⟨hk.1.1.1.2, ⟨hk.1.2, hk.2⟩⟩⟩, fun e_ => (hk.1.1.2) (by rw [e_]; rfl)⟩)))) (fun _ hk => hk)).1
                                rw [← Ny176.out] at HP65
                                have HQ65 := Aside0.mk HP65
                                clear hcl65 hcc65 hfr65 hM65 HP65
                                refine hK.out _ _ ⟨(blk_cell BK149.out 0).trans rfl, (blk_cell BK149.out 1).trans rfl, HS2_, HS3_, HS4_, HS5_⟩ (fun hHeld => ?_)
                                clear hK K
                                refine nU 85 (h := ?_)
                                refine pU 18 86 (bl 21 524287) (any_of HT_.out (by kernel_rfl)) (h := ?_)
                                refine pU 19 87 (bl 21 1048575) (any_of HT_.out (by kernel_rfl)) (h := ?_)
                                refine last_ (i := 20) (N := none) (bl 21 2097151) rfl rfl (one_of HT_.out (by kernel_rfl)) (by decide) (fun K hK => ?_)
                                refine skip_ (w1 := ?_) (by rfl) rfl ?_ ?_
                                rotate_left
                                · go_simp
                                  rfl
                                refine hK.out _ _ ?_
                                clear hK K
                                refine done_ (done_of HT_.out (by kernel_rfl)) ?_
                                have n0_ : Aside0 (Kd.N k25 52 ((w63.setCell ⟨go59, (x12_2 : Int).toNat * 2, none⟩ (.int .i64 (Go.bits .xor .i64 ((rd_T25 x11_2 x12_2).f0) x150000_2))).setCell ⟨go59, (x12_2 : Int).toNat * 2 + 1, none⟩ (.slice Ao64 t173.length co64)) w.heap.size (fun k_ => (P1_1_ k_ ∨ w.heap.size ≤ k_) ∧ some k_ ≠ (.slice (some ⟨go59, 0, none⟩) x11_2.length co42 : Value).ownBlock ∧ k_ ≠ gb142 ∧ k_ ≠ gb149) u9 x9_45) := ⟨by (with_reducible repeat (first | apply Kd.N_alloc | apply Kd.N_drewN | apply Kd.N_drew)); exact Kd.N_mono (Kd.N_far (p := ⟨go59, (x12_2 : Int).toNat * 2 + 1, none⟩) (Kd.N_far (p := ⟨go59, (x12_2 : Int).toNat * 2, none⟩) (Kd.N_mono HO_9.out (fun k_ hk => (⟨hk, fun e_ => hk.1.2.1 (by rw [e_]; rfl)⟩ : _ ∧ k_ ≠ go59))) (fun _ hk => hk.2) (.int .i64 (Go.bits .xor .i64 ((rd_T25 x11_2 x12_2).f0) x150000_2))) (fun _ hk => hk.2) (.slice Ao64 t173.length co64)) (fun _ hk => ⟨hk.1.1.1, ⟨hk.1.1.2.1, ⟨hk.1.1.2.2.1, hk.1.1.2.2.2⟩⟩⟩)⟩
                                have n1_ : Aside0 (Kd.N k25 52 ((w63.setCell ⟨go59, (x12_2 : Int).toNat * 2, none⟩ (.int .i64 (Go.bits .xor .i64 ((rd_T25 x11_2 x12_2).f0) x150000_2))).setCell ⟨go59, (x12_2 : Int).toNat * 2 + 1, none⟩ (.slice Ao64 t173.length co64)) w.heap.size (fun k_ => (P1_1_ k_ ∨ w.heap.size ≤ k_) ∧ some k_ ≠ (u9 : Value).ownBlock ∧ k_ ≠ gb142 ∧ k_ ≠ gb149) (.slice (some ⟨go59, 0, none⟩) x11_2.length co42) y176) := ⟨by (with_reducible repeat (first | apply Kd.N_alloc | apply Kd.N_drewN | apply Kd.N_drew)); exact HQ65.out⟩
                                have n2_ : Aside0 (Kd.V (Kd.int .u8) 5 ((w63.setCell ⟨go59, (x12_2 : Int).toNat * 2, none⟩ (.int .i64 (Go.bits .xor .i64 ((rd_T25 x11_2 x12_2).f0) x150000_2))).setCell ⟨go59, (x12_2 : Int).toNat * 2 + 1, none⟩ (.slice Ao64 t173.length co64)) w.heap.size (fun k_ => (P1_1_ k_ ∨ w.heap.size ≤ k_) ∧ some k_ ≠ (u9 : Value).ownBlock ∧ some k_ ≠ (.slice (some ⟨go59, 0, none⟩) x11_2.length co42 : Value).ownBlock ∧ k_ ≠ gb142 ∧ k_ ≠ gb149) u143001 x143001_2) := ⟨by (with_reducible repeat (first | apply Kd.V_alloc | apply Kd.V_drewN | apply Kd.V_drew)); exact Kd.V_mono (Kd.V_far (p := ⟨go59, (x12_2 : Int).toNat * 2 + 1, none⟩) (Kd.V_far (p := ⟨go59, (x12_2 : Int).toNat * 2, none⟩) (Kd.V_mono HO_143001.out (fun k_ hk => (⟨hk, fun e_ => hk.1.2.2.1 (by rw [e_]; rfl)⟩ : _ ∧ k_ ≠ go59))) (fun _ hk => hk.2) (.int .i64 (Go.bits .xor .i64 ((rd_T25 x11_2 x12_2).f0) x150000_2))) (fun _ hk => hk.2) (.slice Ao64 t173.length co64)) (fun _ hk => ⟨hk.1.1.1, ⟨hk.1.1.2.1, ⟨hk.1.1.2.2.1, ⟨hk.1.1.2.2.2.1, hk.1.1.2.2.2.2⟩⟩⟩⟩)⟩
                                have n3_ : Aside0 (Kd.V (Kd.int .u8) 5 ((w63.setCell ⟨go59, (x12_2 : Int).toNat * 2, none⟩ (.int .i64 (Go.bits .xor .i64 ((rd_T25 x11_2 x12_2).f0) x150000_2))).setCell ⟨go59, (x12_2 : Int).toNat * 2 + 1, none⟩ (.slice Ao64 t173.length co64)) w.heap.size (fun k_ => (P1_1_ k_ ∨ w.heap.size ≤ k_) ∧ some k_ ≠ (u9 : Value).ownBlock ∧ some k_ ≠ (.slice (some ⟨go59, 0, none⟩) x11_2.length co42 : Value).ownBlock ∧ k_ ≠ gb142 ∧ k_ ≠ gb149) (.slice Ao62 x150001_2.length co62) x150001_2) := ⟨by (with_reducible repeat (first | apply Kd.V_alloc | apply Kd.V_drewN | apply Kd.V_drew)); exact Kd.V_mono (Kd.V_far (p := ⟨go59, (x12_2 : Int).toNat * 2 + 1, none⟩) (Kd.V_far (p := ⟨go59, (x12_2 : Int).toNat * 2, none⟩) (Kd.V_mono HO_150001.out (fun k_ hk => (⟨hk, fun e_ => hk.1.2.2.1 (by rw [e_]; rfl)⟩ : _ ∧ k_ ≠ go59))) (fun _ hk => hk.2) (.int .i64 (Go.bits .xor .i64 ((rd_T25 x11_2 x12_2).f0) x150000_2))) (fun _ hk => hk.2) (.slice Ao64 t173.length co64)) (fun _ hk => ⟨hk.1.1.1, ⟨hk.1.1.2.1, ⟨hk.1.1.2.2.1, ⟨hk.1.1.2.2.2.1, hk.1.1.2.2.2.2⟩⟩⟩⟩)⟩
                                have n4_ : Aside0 (Kd.V (Kd.int .u8) 5 ((w63.setCell ⟨go59, (x12_2 : Int).toNat * 2, none⟩ (.int .i64 (Go.bits .xor .i64 ((rd_T25 x11_2 x12_2).f0) x150000_2))).setCell ⟨go59, (x12_2 : Int).toNat * 2 + 1, none⟩ (.slice Ao64 t173.length co64)) w.heap.size (fun k_ => (P1_1_ k_ ∨ w.heap.size ≤ k_) ∧ some k_ ≠ (u9 : Value).ownBlock ∧ some k_ ≠ (.slice (some ⟨go59, 0, none⟩) x11_2.length co42 : Value).ownBlock ∧ k_ ≠ gb142 ∧ k_ ≠ gb149) (.slice A166_1 ((rd_T25 x11_2 x12_2).f1).length c166_1) ((rd_T25 x11_2 x12_2).f1)) := ⟨by (with_reducible repeat (first | apply Kd.V_alloc | apply Kd.V_drewN | apply Kd.V_drew)); exact Kd.V_mono (Kd.V_far (p := ⟨go59, (x12_2 : Int).toNat * 2 + 1, none⟩) (Kd.V_far (p := ⟨go59, (x12_2 : Int).toNat * 2, none⟩) (Kd.V_mono HL166_1.out (fun k_ hk => (⟨hk, fun e_ => hk.1.2 (by rw [e_]; rfl)⟩ : _ ∧ k_ ≠ go59))) (fun _ hk => hk.2) (.int .i64 (Go.bits .xor .i64 ((rd_T25 x11_2 x12_2).f0) x150000_2))) (fun _ hk => hk.2) (.slice Ao64 t173.length co64)) (fun _ hk => ⟨hk.1.1.1.1, ⟨hk.1.1.1.2.1, ⟨hk.1.1.2, ⟨hk.1.1.1.2.2.1, hk.1.1.1.2.2.2⟩⟩⟩⟩)⟩
                                have n5_ : Aside0 (Kd.V (Kd.int .u8) 5 ((w63.setCell ⟨go59, (x12_2 : Int).toNat * 2, none⟩ (.int .i64 (Go.bits .xor .i64 ((rd_T25 x11_2 x12_2).f0) x150000_2))).setCell ⟨go59, (x12_2 : Int).toNat * 2 + 1, none⟩ (.slice Ao64 t173.length co64)) w.heap.size (fun k_ => (P1_1_ k_ ∨ w.heap.size ≤ k_) ∧ some k_ ≠ (u9 : Value).ownBlock ∧ some k_ ≠ (.slice (some ⟨go59, 0, none⟩) x11_2.length co42 : Value).ownBlock ∧ k_ ≠ gb142 ∧ k_ ≠ gb149) (.slice A171_1 ((rd_T25 x11_2 x12_2).f1).length c171_1) ((rd_T25 x11_2 x12_2).f1)) := ⟨by (with_reducible repeat (first | apply Kd.V_alloc | apply Kd.V_drewN | apply Kd.V_drew)); exact Kd.V_mono (Kd.V_far (p := ⟨go59, (x12_2 : Int).toNat * 2 + 1, none⟩) (Kd.V_far (p := ⟨go59, (x12_2 : Int).toNat * 2, none⟩) (Kd.V_mono HL171_1.out (fun k_ hk => (⟨hk, fun e_ => hk.1.2 (by rw [e_]; rfl)⟩ : _ ∧ k_ ≠ go59))) (fun _ hk => hk.2) (.int .i64 (Go.bits .xor .i64 ((rd_T25 x11_2 x12_2).f0) x150000_2))) (fun _ hk => hk.2) (.slice Ao64 t173.length co64)) (fun _ hk => ⟨hk.1.1.1.1, ⟨hk.1.1.1.2.1, ⟨hk.1.1.2, ⟨hk.1.1.1.2.2.1, hk.1.1.1.2.2.2⟩⟩⟩⟩)⟩
                                have n6_ : Aside0 (Kd.V (Kd.int .u8) 5 ((w63.setCell ⟨go59, (x12_2 : Int).toNat * 2, none⟩ (.int .i64 (Go.bits .xor .i64 ((rd_T25 x11_2 x12_2).f0) x150000_2))).setCell ⟨go59, (x12_2 : Int).toNat * 2 + 1, none⟩ (.slice Ao64 t173.length co64)) w.heap.size (fun k_ => (P1_1_ k_ ∨ w.heap.size ≤ k_) ∧ some k_ ≠ (u9 : Value).ownBlock ∧ some k_ ≠ (.slice (some ⟨go59, 0, none⟩) x11_2.length co42 : Value).ownBlock ∧ k_ ≠ gb142 ∧ k_ ≠ gb149) (.slice A171_1 ((rd_T25 x11_2 x12_2).f1).length c171_1) ((rd_T25 x11_2 x12_2).f1)) := ⟨by (with_reducible repeat (first | apply Kd.V_alloc | apply Kd.V_drewN | apply Kd.V_drew)); exact Kd.V_mono (Kd.V_far (p := ⟨go59, (x12_2 : Int).toNat * 2 + 1, none⟩) (Kd.V_far (p := ⟨go59, (x12_2 : Int).toNat * 2, none⟩) (Kd.V_mono HL172_1.out (fun k_ hk => (⟨hk, fun e_ => hk.1.2 (by rw [e_]; rfl)⟩ : _ ∧ k_ ≠ go59))) (fun _ hk => hk.2) (.int .i64 (Go.bits .xor .i64 ((rd_T25 x11_2 x12_2).f0) x150000_2))) (fun _ hk => hk.2) (.slice Ao64 t173.length co64)) (fun _ hk => ⟨hk.1.1.1.1, ⟨hk.1.1.1.2.1, ⟨hk.1.1.2, ⟨hk.1.1.1.2.2.1, hk.1.1.1.2.2.2⟩⟩⟩⟩)⟩
                                have n7_ : Aside0 (((w63.setCell ⟨go59, (x12_2 : Int).toNat * 2, none⟩ (.int .i64 (Go.bits .xor .i64 ((rd_T25 x11_2 x12_2).f0) x150000_2))).setCell ⟨go59, (x12_2 : Int).toNat * 2 + 1, none⟩ (.slice Ao64 t173.length co64)).heap[gb142]? = some (.cells #[.int .i64 x143000_2, u143001] 52 (0, 0))) := ⟨by (with_reducible repeat (first | refine blk_drewN ?_ _ | refine blk_drew ?_ | refine blk_alloc ?_ _)); refine blk_far ?_ (by have h_ := Kd.N_away HO_11.out (fun _ hk => hk.1.2.2.1); intro e_; exact h_ (by rw [e_]; rfl)) _; (with_reducible repeat (first | refine blk_drewN ?_ _ | refine blk_drew ?_ | refine blk_alloc ?_ _)); refine blk_far ?_ (by have h_ := Kd.N_away HO_11.out (fun _ hk => hk.1.2.2.1); intro e_; exact h_ (by rw [e_]; rfl)) _; (with_reducible repeat (first | refine blk_drewN ?_ _ | refine blk_drew ?_ | refine blk_alloc ?_ _)); exact BK142.out⟩
                                have n8_ : Aside0 (((w63.setCell ⟨go59, (x12_2 : Int).toNat * 2, none⟩ (.int .i64 (Go.bits .xor .i64 ((rd_T25 x11_2 x12_2).f0) x150000_2))).setCell ⟨go59, (x12_2 : Int).toNat * 2 + 1, none⟩ (.slice Ao64 t173.length co64)).heap[gb149]? = some (.cells #[.int .i64 x150000_2, .slice Ao62 x150001_2.length co62] 52 (0, 0))) := ⟨by (with_reducible repeat (first | refine blk_drewN ?_ _ | refine blk_drew ?_ | refine blk_alloc ?_ _)); refine blk_far ?_ (by have h_ := Kd.N_away HO_11.out (fun _ hk => hk.1.2.2.2); intro e_; exact h_ (by rw [e_]; rfl)) _; (with_reducible repeat (first | refine blk_drewN ?_ _ | refine blk_drew ?_ | refine blk_alloc ?_ _)); refine blk_far ?_ (by have h_ := Kd.N_away HO_11.out (fun _ hk => hk.1.2.2.2); intro e_; exact h_ (by rw [e_]; rfl)) _; (with_reducible repeat (first | refine blk_drewN ?_ _ | refine blk_drew ?_ | refine blk_alloc ?_ _)); exact BK149.out⟩
                                have n9_ : Aside0 (Below w.heap.size w ((w63.setCell ⟨go59, (x12_2 : Int).toNat * 2, none⟩ (.int .i64 (Go.bits .xor .i64 ((rd_T25 x11_2 x12_2).f0) x150000_2))).setCell ⟨go59, (x12_2 : Int).toNat * 2 + 1, none⟩ (.slice Ao64 t173.length co64))) := ⟨by repeat (first | (with_reducible first | exact HB.out | apply below_alloc | apply pw_below_drewN | apply below_drew1 | refine below_set ?_ GB59.out | refine below_set ?_ GB59.out | refine below_set ?_ GE142.out | refine below_set ?_ GE149.out) | exact HB.out)⟩
                                (try clear HO_9)
                                (try clear HO_11)
                                (try clear HO_143001)
                                (try clear HO_150001)
                                (try clear HL166_1)
                                (try clear HL171_1)
                                (try clear HL172_1)
                                (try clear BK142)
                                (try clear BK149)
                                (try clear HB)
                                generalize ((w63.setCell ⟨go59, (x12_2 : Int).toNat * 2, none⟩ (.int .i64 (Go.bits .xor .i64 ((rd_T25 x11_2 x12_2).f0) x150000_2))).setCell ⟨go59, (x12_2 : Int).toNat * 2 + 1, none⟩ (.slice Ao64 t173.length co64)) = w66 at n0_ n1_ n2_ n3_ n4_ n5_ n6_ n7_ n8_ n9_ ⊢
                                have HO_9 := n0_
                                have HO_11 := n1_
                                have HO_143001 := n2_
                                have HO_150001 := n3_
                                have HL166_1 := n4_
                                have HL171_1 := n5_
                                have HL172_1 := n6_
                                have BK142 := n7_
                                have BK149 := n8_
                                have HB := n9_
                                clear n0_ n1_ n2_ n3_ n4_ n5_ n6_ n7_ n8_ n9_
                                have p177 : 0 ≤ (x12_2 : Int) := of_decide_eq_true (by first | (with_reducible assumption) | assumption)
                                have q177 : x12_2 < (y176.length : Int) := (by have h_ : (x12_2 : Int) < ((x11_2.length : Int) : Int) := of_decide_eq_true (by first | (with_reducible assumption) | assumption); first | (have e_ := (Kd.N_reads' HO_11.out).1; omega) | simpa only [Ny176.out, List.length_set] using h_)
                                have ql177 : ((x12_2 : Int) < ((x11_2.length : Int) : Int)) = True := eq_true (of_decide_eq_true (by first | (with_reducible assumption) | assumption))
                                obtain ⟨ad177, A177_1, c177_1, e177, hx177_0, hx177_1, hl177_1, hi177_1⟩ := at_T25 (Kd.N_reads' HO_11.out).2.2 x12_2 p177 q177
                                obtain rfl : (⟨go59, 0, none⟩ : Addr) = ad177 := (by injection e177)
                                obtain ⟨ce177, hce177, hMe177, hcc177⟩ := Kd.N_get HO_11.out z25 x12_2 p177 (by first | exact q177 | exact of_decide_eq_true (by first | (with_reducible assumption) | assumption) | (have e_ := (Kd.N_reads' HO_11.out).1; omega))
                                obtain ⟨ua177_1, uc177_1, rfl, ul177_1, ge177_1⟩ := k25_openF hMe177
                                have hv177_1 := hcc177 1 _ rfl
                                rw [add_field _ _ 1 (by omega)] at hv177_1
                                replace hv177_1 := Option.some.inj (hv177_1.symm.trans hx177_1)
                                injection hv177_1 with hva_ hvn_ hvc_
                                rw [hva_] at ge177_1
                                rw [hvc_] at ul177_1
                                have HL177_1 := Aside0.mk (show Kd.V (Kd.int .u8) 5 _ w.heap.size _ _ ((rd_T25 y176 x12_2).f1) from Kd.V_mk ul177_1 ge177_1)
                                clear hva_ hvn_ hvc_ ge177_1 ul177_1
                                clear hcc177 hce177
                                (first | simp only [add_plain] at hx177_0 | simp only [add_at] at hx177_0 | simp only [Addr.add, Nat.zero_add] at hx177_0 | skip)
                                (first | simp only [add_plain] at hx177_1 | simp only [add_at] at hx177_1 | simp only [Addr.add, Nat.zero_add] at hx177_1 | skip)
                                have HR177_1 := Aside0.mk hi177_1
                                have HC177_1 := Aside0.mk hl177_1
                                clear hi177_1 hl177_1
                                replace p177 := eq_true p177
                                replace q177 := eq_true q177
                                try go_wp2_with (first | ((with_reducible refine gate_builtin (b := .append) (xs := #[.tmp 88, .tmp 93]) rfl ?_); at_builtin; refine Kd.N_append k25 (w0 := w) w.heap.size rfl (.tmp 88) (.tmp 93) 23 52 (.agg #[(.int .i64 0), (.slice none 0 0)]) 32 rfl Tryd.underlying23 info25 rfl (by decide) (by omega) u9 x9_45 (⟨(rd_T25 y176 x12_2).f0, (rd_T25 y176 x12_2).f1⟩ : S25) [.int .i64 ((rd_T25 y176 x12_2).f0), .slice A177_1 ((rd_T25 y176 x12_2).f1).length c177_1] (fun k_ => (P1_1_ k_ ∨ w.heap.size ≤ k_) ∧ some k_ ≠ (.slice (some ⟨go59, 0, none⟩) x11_2.length co42 : Value).ownBlock ∧ k_ ≠ gb142 ∧ k_ ≠ gb149) (fun k_ => ((fun k_ => (P1_1_ k_ ∨ w.heap.size ≤ k_) ∧ some k_ ≠ (.slice (some ⟨go59, 0, none⟩) x11_2.length co42 : Value).ownBlock ∧ k_ ≠ gb142 ∧ k_ ≠ gb149)) k_ ∧ some k_ ≠ (u9 : Value).ownBlock) rfl rfl ?aP (fun _ hk => hk) ?aF ?aO ?aB ?aS ?aL ?_; (case aP => exact (k25_mkF _ _ (⟨(rd_T25 y176 x12_2).f0, (rd_T25 y176 x12_2).f1⟩ : S25) (Kd.V_reads' (Kd.V_mono (ok' := (fun k_ => ((fun k_ => (P1_1_ k_ ∨ w.heap.size ≤ k_) ∧ some k_ ≠ (.slice (some ⟨go59, 0, none⟩) x11_2.length co42 : Value).ownBlock ∧ k_ ≠ gb142 ∧ k_ ≠ gb149)) k_ ∧ some k_ ≠ (u9 : Value).ownBlock)) (HL177_1.out) (fun k_ hk => ⟨⟨hk.1.1, ⟨hk.2, ⟨hk.1.2.2.1, hk.1.2.2.2⟩⟩⟩, hk.1.2.1⟩))).2.1 (Kd.V_F (Kd.V_mono (ok' := (fun k_ => ((fun k_ => (P1_1_ k_ ∨ w.heap.size ≤ k_) ∧ some k_ ≠ (.slice (some ⟨go59, 0, none⟩) x11_2.length co42 : Value).ownBlock ∧ k_ ≠ gb142 ∧ k_ ≠ gb149)) k_ ∧ some k_ ≠ (u9 : Value).ownBlock)) (HL177_1.out) (fun k_ hk => ⟨⟨hk.1.1, ⟨hk.2, ⟨hk.1.2.2.1, hk.1.2.2.2⟩⟩⟩, hk.1.2.1⟩))))); (case aB => exact (by repeat (first | (with_reducible first | exact HB.out | apply below_alloc | apply pw_below_drewN | apply below_drew1 | refine below_set ?_ GE142.out | refine below_set ?_ GE149.out) | exact HB.out))); (case aF => exact (fun k_ hk => ⟨(.inr (Nat.le_trans (below_size (by repeat (first | (with_reducible first | exact HB.out | apply below_alloc | apply pw_below_drewN | apply below_drew1 | refine below_set ?_ GE142.out | refine below_set ?_ GE149.out) | exact HB.out))) hk)), Kd.fresh' (Kd.N_lt (by (with_reducible repeat (first | apply Kd.N_alloc | apply Kd.N_drewN | apply Kd.N_drew)); exact HO_11.out)) k_ hk, Kd.freshB (g := gb142) (o := .cells #[.int .i64 x143000_2, u143001] 52 (0, 0)) (by (with_reducible repeat (first | refine blk_drewN ?_ _ | refine blk_drew ?_ | refine blk_alloc ?_ _)); exact BK142.out) k_ hk, Kd.freshB (g := gb149) (o := .cells #[.int .i64 x150000_2, .slice Ao62 x150001_2.length co62] 52 (0, 0)) (by (with_reducible repeat (first | refine blk_drewN ?_ _ | refine blk_drew ?_ | refine blk_alloc ?_ _)); exact BK149.out) k_ hk⟩)); (case aO => exact (by (with_reducible repeat (first | apply Kd.N_alloc | apply Kd.N_drewN | apply Kd.N_drew)); exact HO_9.out)); (case aS => exact (below_size (by repeat (first | (with_reducible first | exact HB.out | apply below_alloc | apply pw_below_drewN | apply below_drew1 | refine below_set ?_ GE142.out | refine below_set ?_ GE149.out) | exact HB.out)))); (case aL => have := LMc60.out; omega); intro v179 w67 ho hb hg hat; rw [← Ny178.out] at ho; have n0_ := Aside0.mk (Kd.N_afterv (ok := (fun k_ => (P1_1_ k_ ∨ w.heap.size ≤ k_) ∧ k_ ≠ gb142 ∧ k_ ≠ gb149)) (by (with_reducible repeat (first | apply Kd.N_alloc | apply Kd.N_drewN | apply Kd.N_drew)); exact Kd.N_mono HO_11.out (fun _ hk => ⟨⟨hk.1, ⟨hk.2.2.1, hk.2.2.2⟩⟩, hk.2.1⟩)) hg hat); have n1_ := Aside0.mk (Kd.V_afterv (ok := (fun k_ => (P1_1_ k_ ∨ w.heap.size ≤ k_) ∧ some k_ ≠ (.slice (some ⟨go59, 0, none⟩) x11_2.length co42 : Value).ownBlock ∧ k_ ≠ gb142 ∧ k_ ≠ gb149)) (by (with_reducible repeat (first | apply Kd.V_alloc | apply Kd.V_drewN | apply Kd.V_drew)); exact Kd.V_mono HO_143001.out (fun _ hk => ⟨⟨hk.1, ⟨hk.2.2.1, ⟨hk.2.2.2.1, hk.2.2.2.2⟩⟩⟩, hk.2.1⟩)) hg hat); have n2_ := Aside0.mk (Kd.V_afterv (ok := (fun k_ => (P1_1_ k_ ∨ w.heap.size ≤ k_) ∧ some k_ ≠ (.slice (some ⟨go59, 0, none⟩) x11_2.length co42 : Value).ownBlock ∧ k_ ≠ gb142 ∧ k_ ≠ gb149)) (by (with_reducible repeat (first | apply Kd.V_alloc | apply Kd.V_drewN | apply Kd.V_drew)); exact Kd.V_mono HO_150001.out (fun _ hk => ⟨⟨hk.1, ⟨hk.2.2.1, ⟨hk.2.2.2.1, hk.2.2.2.2⟩⟩⟩, hk.2.1⟩)) hg hat); have n3_ := Aside0.mk (blk_grown (g := gb142) (o := .cells #[.int .i64 x143000_2, u143001] 52 (0, 0)) (by (with_reducible repeat (first | refine blk_drewN ?_ _ | refine blk_drew ?_ | refine blk_alloc ?_ _)); exact BK142.out) hg (Kd.N_away HO_9.out (fun _ hk => hk.2.2.1))); have n4_ := Aside0.mk (blk_grown (g := gb149) (o := .cells #[.int .i64 x150000_2, .slice Ao62 x150001_2.length co62] 52 (0, 0)) (by (with_reducible repeat (first | refine blk_drewN ?_ _ | refine blk_drew ?_ | refine blk_alloc ?_ _)); exact BK149.out) hg (Kd.N_away HO_9.out (fun _ hk => hk.2.2.2))); have n5_ := Aside0.mk (Kd.V_afterv (ok := (fun k_ => (P1_1_ k_ ∨ w.heap.size ≤ k_) ∧ some k_ ≠ (.slice (some ⟨go59, 0, none⟩) x11_2.length co42 : Value).ownBlock ∧ k_ ≠ gb142 ∧ k_ ≠ gb149)) (by (with_reducible repeat (first | apply Kd.V_alloc | apply Kd.V_drewN | apply Kd.V_drew)); exact Kd.V_mono HL166_1.out (fun _ hk => ⟨⟨hk.1, ⟨hk.2.2.1, ⟨hk.2.2.2.1, hk.2.2.2.2⟩⟩⟩, hk.2.1⟩)) hg hat); have n6_ := Aside0.mk (Kd.V_afterv (ok := (fun k_ => (P1_1_ k_ ∨ w.heap.size ≤ k_) ∧ some k_ ≠ (.slice (some ⟨go59, 0, none⟩) x11_2.length co42 : Value).ownBlock ∧ k_ ≠ gb142 ∧ k_ ≠ gb149)) (by (with_reducible repeat (first | apply Kd.V_alloc | apply Kd.V_drewN | apply Kd.V_drew)); exact Kd.V_mono HL171_1.out (fun _ hk => ⟨⟨hk.1, ⟨hk.2.2.1, ⟨hk.2.2.2.1, hk.2.2.2.2⟩⟩⟩, hk.2.1⟩)) hg hat); have n7_ := Aside0.mk (Kd.V_afterv (ok := (fun k_ => (P1_1_ k_ ∨ w.heap.size ≤ k_) ∧ some k_ ≠ (.slice (some ⟨go59, 0, none⟩) x11_2.length co42 : Value).ownBlock ∧ k_ ≠ gb142 ∧ k_ ≠ gb149)) (by (with_reducible repeat (first | apply Kd.V_alloc | apply Kd.V_drewN | apply Kd.V_drew)); exact Kd.V_mono HL172_1.out (fun _ hk => ⟨⟨hk.1, ⟨hk.2.2.1, ⟨hk.2.2.2.1, hk.2.2.2.2⟩⟩⟩, hk.2.1⟩)) hg hat); have n8_ := Aside0.mk (Kd.V_afterv (ok := (fun k_ => (P1_1_ k_ ∨ w.heap.size ≤ k_) ∧ some k_ ≠ (.slice (some ⟨go59, 0, none⟩) x11_2.length co42 : Value).ownBlock ∧ k_ ≠ gb142 ∧ k_ ≠ gb149)) (by (with_reducible repeat (first | apply Kd.V_alloc | apply Kd.V_drewN | apply Kd.V_drew)); exact Kd.V_mono HL177_1.out (fun _ hk => ⟨⟨hk.1.1, ⟨hk.2, ⟨hk.1.2.2.1, hk.1.2.2.2⟩⟩⟩, hk.1.2.1⟩)) hg hat); have n9_ := Aside0.mk (hb); have n10_ := Aside0.mk (ho); clear HO_11; clear HO_143001; clear HO_150001; clear BK142; clear BK149; clear HL166_1; clear HL171_1; clear HL172_1; clear HL177_1; clear HB; clear HO_9; have HO_11 := n0_; have HO_143001 := n1_; have HO_150001 := n2_; have BK142 := n3_; have BK149 := n4_; have HL166_1 := n5_; have HL171_1 := n6_; have HL172_1 := n7_; have HL177_1 := n8_; have HB := n9_; have HO180 := n10_; clear n0_ n1_ n2_ n3_ n4_ n5_ n6_ n7_ n8_ n9_ n10_; clear ho hb hg hat))
                                go_roundg kj45
                                case measure => have := HJ2.out; have := HK2.out; have := HJ40.out; have := HJ45.out; omega
                                case rel => exact ⟨(y178), (x10_45), (y176), (wrap64 (x12_2 + 1)), (x143000_2), (x143001_2), (x150000_2), (x150001_2), (u143001), (.slice Ao62 x150001_2.length co62), (by first | rfl | (simp; done) | (simp [*]; done)), (by first | rfl | (simp; done) | (simp [*]; done)), H', ⟨by have := HJ2.out; have := HK2.out; have := HJ40.out; have := HJ45.out; omega⟩, ⟨by (with_reducible repeat (first | apply Kd.N_alloc | apply Kd.N_drewN | apply Kd.N_drew)); exact HO180.out⟩, ⟨by (with_reducible repeat (first | apply Kd.N_alloc | apply Kd.N_drewN | apply Kd.N_drew)); exact Kd.N_mono HO_11.out (fun _ hk => ⟨hk.1.1, ⟨hk.2, ⟨hk.1.2.1, hk.1.2.2⟩⟩⟩)⟩, ⟨by (with_reducible repeat (first | apply Kd.V_alloc | apply Kd.V_drewN | apply Kd.V_drew)); exact Kd.V_mono HO_143001.out (fun _ hk => ⟨hk.1.1, ⟨hk.2, ⟨hk.1.2.1, ⟨hk.1.2.2.1, hk.1.2.2.2⟩⟩⟩⟩)⟩, ⟨by (with_reducible repeat (first | apply Kd.V_alloc | apply Kd.V_drewN | apply Kd.V_drew)); exact Kd.V_mono HO_150001.out (fun _ hk => ⟨hk.1.1, ⟨hk.2, ⟨hk.1.2.1, ⟨hk.1.2.2.1, hk.1.2.2.2⟩⟩⟩⟩)⟩, ⟨by (with_reducible repeat (first | refine blk_drewN ?_ _ | refine blk_drew ?_ | refine blk_alloc ?_ _)); exact BK142.out⟩, ⟨by (with_reducible repeat (first | refine blk_drewN ?_ _ | refine blk_drew ?_ | refine blk_alloc ?_ _)); exact BK149.out⟩, ⟨by repeat (first | (with_reducible first | exact HB.out | apply below_alloc | apply pw_below_drewN | apply below_drew1 | refine below_set ?_ GE142.out | refine below_set ?_ GE149.out) | exact HB.out)⟩⟩
                              · rw [if_neg c60] at H
                                exact absurd H (by simp)
                          · rw [if_neg c54] at H
                            exact absurd H (by simp)
                        · rw [if_neg c53] at H
                          exact absurd H (by simp)
              · rw [if_neg c40] at H
                have c40b0 : decide (x12_2 < (x11_2.length : Int)) = false := decide_eq_false c40
                clear c40
                by_cases c68 : x10_2 = true
                · subst c68
                  have H1 : (some (x9_2, true, 0)) = some (r1, r2, r3) := by rw [if_pos rfl] at H; exact H
                  clear H
                  have H := H1
                  clear H1
                  simp only [Option.some.injEq, Prod.mk.injEq] at H
                  obtain ⟨rfl, rfl, rfl⟩ := H
                  obtain ⟨Ao69, co69, eo69⟩ := Kd.N_slice HO_11.out
                  subst eo69
                  go_wp2
                  go_ret3
                  exact ⟨_, by first | rfl | (simp [errW_none, errW_some] <;> rfl) | (simp [*, errW_none, errW_some] <;> rfl), by (with_reducible repeat (first | apply Kd.N_alloc | apply Kd.N_drewN | apply Kd.N_drew)); exact Kd.N_mono HO_9.out (fun _ hk => hk.1), by repeat (first | (with_reducible first | exact HB.out | apply below_alloc | apply pw_below_drewN | apply below_drew1 | refine below_set ?_ GE142.out | refine below_set ?_ GE149.out) | exact HB.out)⟩
                · replace c68 := Bool.eq_false_iff.mpr c68
                  subst c68
                  have H1 : (if x9_2.length < 4398046511104 then (some ((x9_2 ++ [(⟨x150000_2, x150001_2⟩ : S25)]), true, 0)) else (none)) = some (r1, r2, r3) := by rw [if_neg (show ¬ (false = true) by decide)] at H; exact H
                  clear H
                  have H := H1
                  clear H1
                  by_cases c70 : x9_2.length < 4398046511104
                  · rw [if_pos c70] at H
                    have LMc70 := Aside0.mk c70
                    clear c70
                    obtain ⟨y158, hy158⟩ : ∃ y_ : List (S25), y_ = (x9_2 ++ [(⟨x150000_2, x150001_2⟩ : S25)]) := ⟨_, rfl⟩
                    replace H : (some (y158, true, 0)) = some (r1, r2, r3) := by first | (rw [hy158]; with_reducible exact H) | (have H2_ := (Option.bind_some _ _).symm.trans H; rw [hy158]; with_reducible exact H2_) | (have H2_ := (Option.bind_some _ _).symm.trans H; with_reducible exact H2_) | with_reducible exact H | (rw [hy158]; exact H) | exact H
                    have Ny158 := Aside0.mk hy158
                    clear hy158
                    simp only [Option.some.injEq, Prod.mk.injEq] at H
                    obtain ⟨rfl, rfl, rfl⟩ := H
                    obtain ⟨Ao71, co71, eo71⟩ := Kd.N_slice HO_11.out
                    subst eo71
                    have hnb72 := NB149_142.out
                    have hnc72 := NB142_149.out
                    have hcz73_0 : wr.cell? ⟨gb149, 0, none⟩ = some (.int .i64 x150000_2) := (blk_cell BK149.out 0).trans rfl
                    have hcz73_1 : wr.cell? ⟨gb149, 1, none⟩ = some (u150001) := (blk_cell BK149.out 1).trans rfl
                    have hfz73_0 := blk_frozen BK149.out 0
                    have hfz73_1 := blk_frozen BK149.out 1
                    obtain ⟨Ao75, co75, eo75⟩ := Kd.V_slice HO_150001.out
                    subst eo75
                    go_wp2_with (first | ((with_reducible refine gate_builtin (b := .append) (xs := #[.tmp 97, .tmp 99]) rfl ?_); at_builtin; refine Kd.N_append k25 (w0 := w) w.heap.size rfl (.tmp 97) (.tmp 99) 23 52 (.agg #[(.int .i64 0), (.slice none 0 0)]) 32 rfl Tryd.underlying23 info25 rfl (by decide) (by omega) u9 x9_2 (⟨x150000_2, x150001_2⟩ : S25) [.int .i64 x150000_2, .slice Ao75 x150001_2.length co75] (fun k_ => (P1_1_ k_ ∨ w.heap.size ≤ k_) ∧ some k_ ≠ (.slice Ao71 x11_2.length co71 : Value).ownBlock ∧ k_ ≠ gb142 ∧ k_ ≠ gb149) (fun k_ => ((fun k_ => (P1_1_ k_ ∨ w.heap.size ≤ k_) ∧ some k_ ≠ (.slice Ao71 x11_2.length co71 : Value).ownBlock ∧ k_ ≠ gb142 ∧ k_ ≠ gb149)) k_ ∧ some k_ ≠ (u9 : Value).ownBlock) rfl rfl ?aP (fun _ hk => hk) ?aF ?aO ?aB ?aS ?aL ?_; (case aP => exact (k25_mkF _ _ (⟨x150000_2, x150001_2⟩ : S25) (Kd.V_reads' (Kd.V_mono (ok' := (fun k_ => ((fun k_ => (P1_1_ k_ ∨ w.heap.size ≤ k_) ∧ some k_ ≠ (.slice Ao71 x11_2.length co71 : Value).ownBlock ∧ k_ ≠ gb142 ∧ k_ ≠ gb149)) k_ ∧ some k_ ≠ (u9 : Value).ownBlock)) (HO_150001.out) (fun k_ hk => ⟨⟨hk.1, ⟨hk.2.2.1, ⟨hk.2.2.2.1, hk.2.2.2.2⟩⟩⟩, hk.2.1⟩))).2.1 (Kd.V_F (Kd.V_mono (ok' := (fun k_ => ((fun k_ => (P1_1_ k_ ∨ w.heap.size ≤ k_) ∧ some k_ ≠ (.slice Ao71 x11_2.length co71 : Value).ownBlock ∧ k_ ≠ gb142 ∧ k_ ≠ gb149)) k_ ∧ some k_ ≠ (u9 : Value).ownBlock)) (HO_150001.out) (fun k_ hk => ⟨⟨hk.1, ⟨hk.2.2.1, ⟨hk.2.2.2.1, hk.2.2.2.2⟩⟩⟩, hk.2.1⟩))))); (case aB => exact (by repeat (first | (with_reducible first | exact HB.out | apply below_alloc | apply pw_below_drewN | apply below_drew1 | refine below_set ?_ GE142.out | refine below_set ?_ GE149.out) | exact HB.out))); (case aF => exact (fun k_ hk => ⟨(.inr (Nat.le_trans (below_size (by repeat (first | (with_reducible first | exact HB.out | apply below_alloc | apply pw_below_drewN | apply below_drew1 | refine below_set ?_ GE142.out | refine below_set ?_ GE149.out) | exact HB.out))) hk)), Kd.fresh' (Kd.N_lt (by (with_reducible repeat (first | apply Kd.N_alloc | apply Kd.N_drewN | apply Kd.N_drew)); exact HO_11.out)) k_ hk, Kd.freshB (g := gb142) (o := .cells #[.int .i64 x143000_2, u143001] 52 (0, 0)) (by (with_reducible repeat (first | refine blk_drewN ?_ _ | refine blk_drew ?_ | refine blk_alloc ?_ _)); exact BK142.out) k_ hk, Kd.freshB (g := gb149) (o := .cells #[.int .i64 x150000_2, .slice Ao75 x150001_2.length co75] 52 (0, 0)) (by (with_reducible repeat (first | refine blk_drewN ?_ _ | refine blk_drew ?_ | refine blk_alloc ?_ _)); exact BK149.out) k_ hk⟩)); (case aO => exact (by (with_reducible repeat (first | apply Kd.N_alloc | apply Kd.N_drewN | apply Kd.N_drew)); exact HO_9.out)); (case aS => exact (below_size (by repeat (first | (with_reducible first | exact HB.out | apply below_alloc | apply pw_below_drewN | apply below_drew1 | refine below_set ?_ GE142.out | refine below_set ?_ GE149.out) | exact HB.out)))); (case aL => have := LMc70.out; omega); intro v159 w74 ho hb hg hat; rw [← Ny158.out] at ho; have n0_ := Aside0.mk (Kd.N_afterv (ok := (fun k_ => (P1_1_ k_ ∨ w.heap.size ≤ k_) ∧ k_ ≠ gb142 ∧ k_ ≠ gb149)) (by (with_reducible repeat (first | apply Kd.N_alloc | apply Kd.N_drewN | apply Kd.N_drew)); exact Kd.N_mono HO_11.out (fun _ hk => ⟨⟨hk.1, ⟨hk.2.2.1, hk.2.2.2⟩⟩, hk.2.1⟩)) hg hat); have n1_ := Aside0.mk (Kd.V_afterv (ok := (fun k_ => (P1_1_ k_ ∨ w.heap.size ≤ k_) ∧ some k_ ≠ (.slice Ao71 x11_2.length co71 : Value).ownBlock ∧ k_ ≠ gb142 ∧ k_ ≠ gb149)) (by (with_reducible repeat (first | apply Kd.V_alloc | apply Kd.V_drewN | apply Kd.V_drew)); exact Kd.V_mono HO_143001.out (fun _ hk => ⟨⟨hk.1, ⟨hk.2.2.1, ⟨hk.2.2.2.1, hk.2.2.2.2⟩⟩⟩, hk.2.1⟩)) hg hat); have n2_ := Aside0.mk (Kd.V_afterv (ok := (fun k_ => (P1_1_ k_ ∨ w.heap.size ≤ k_) ∧ some k_ ≠ (.slice Ao71 x11_2.length co71 : Value).ownBlock ∧ k_ ≠ gb142 ∧ k_ ≠ gb149)) (by (with_reducible repeat (first | apply Kd.V_alloc | apply Kd.V_drewN | apply Kd.V_drew)); exact Kd.V_mono HO_150001.out (fun _ hk => ⟨⟨hk.1, ⟨hk.2.2.1, ⟨hk.2.2.2.1, hk.2.2.2.2⟩⟩⟩, hk.2.1⟩)) hg hat); have n3_ := Aside0.mk (blk_grown (g := gb142) (o := .cells #[.int .i64 x143000_2, u143001] 52 (0, 0)) (by (with_reducible repeat (first | refine blk_drewN ?_ _ | refine blk_drew ?_ | refine blk_alloc ?_ _)); exact BK142.out) hg (Kd.N_away HO_9.out (fun _ hk => hk.2.2.1))); have n4_ := Aside0.mk (blk_grown (g := gb149) (o := .cells #[.int .i64 x150000_2, .slice Ao75 x150001_2.length co75] 52 (0, 0)) (by (with_reducible repeat (first | refine blk_drewN ?_ _ | refine blk_drew ?_ | refine blk_alloc ?_ _)); exact BK149.out) hg (Kd.N_away HO_9.out (fun _ hk => hk.2.2.2))); have n5_ := Aside0.mk (hb); have n6_ := Aside0.mk (ho); clear HO_11; clear HO_143001; clear HO_150001; clear BK142; clear BK149; clear HB; clear HO_9; have HO_11 := n0_; have HO_143001 := n1_; have HO_150001 := n2_; have BK142 := n3_; have BK149 := n4_; have HB := n5_; have HO160 := n6_; clear n0_ n1_ n2_ n3_ n4_ n5_ n6_; clear ho hb hg hat))
                    go_ret3
                    exact ⟨_, by first | rfl | (simp [errW_none, errW_some] <;> rfl) | (simp [*, errW_none, errW_some] <;> rfl), by (with_reducible repeat (first | apply Kd.N_alloc | apply Kd.N_drewN | apply Kd.N_drew)); exact Kd.N_mono HO160.out (fun _ hk => hk.1), by repeat (first | (with_reducible first | exact HB.out | apply below_alloc | apply pw_below_drewN | apply below_drew1 | refine below_set ?_ GE142.out | refine below_set ?_ GE149.out) | exact HB.out)⟩
                  · rw [if_neg c70] at H
                    exact absurd H (by simp)
end Go.Proofs.YtknlbeojdmeljaaDoor.P
namespace Go.Proofs.YtknlbeojdmeljaaDoor.L
open Go.RowKit Go.Proofs.YtknlbeojdmeljaaDoorW.PrintWords Go.Proofs.YtknlbeojdmeljaaDoorW.PrintLast Go.Proofs.YtknlbeojdmeljaaDoorW.PrintMore Go.Proofs.YtknlbeojdmeljaaDoor.P Go.Proofs.YtknlbeojdmeljaaDoor.H
set_option linter.unusedVariables false
set_option linter.unusedSimpArgs false
/-- with fuel enough -/
def Ev {α : Type} (f : Nat → Option α) (r : α) : Prop := ∃ K, ∀ k, K ≤ k → f k = some r
theorem Ev.succ {α β : Type} {f : Nat → Option α} {g : Nat → Option β} {r : α} {s : β} (h : Ev f r) (e : ∀ k, f k = some r → g (k + 1) = some s) : Ev g s := by
  obtain ⟨K, h⟩ := h
  refine ⟨K + 1, fun k hk => ?_⟩
  obtain ⟨j, rfl⟩ : ∃ j, k = j + 1 := ⟨k - 1, by omega⟩
  exact e j (h j (by omega))
theorem Ev.map {α β : Type} {f : Nat → Option α} {g : Nat → Option β} {r : α} {s : β} (h : Ev f r) (e : ∀ k, f k = some r → g k = some s) : Ev g s := by
  obtain ⟨K, h⟩ := h
  exact ⟨K, fun k hk => e k (h k hk)⟩
theorem Ev.succ2 {α β γ : Type} {f : Nat → Option α} {g : Nat → Option β} {r : α} {s : β} {h : Nat → Option γ} (h1 : Ev f r) (h2 : Ev g s) {t : γ} (e : ∀ k, f k = some r → g k = some s → h (k + 1) = some t) : Ev h t := by
  obtain ⟨K1, h1⟩ := h1
  obtain ⟨K2, h2⟩ := h2
  refine ⟨K1 + K2 + 1, fun k hk => ?_⟩
  obtain ⟨j, rfl⟩ : ∃ j, k = j + 1 := ⟨k - 1, by omega⟩
  exact e j (h1 j (by omega)) (h2 j (by omega))
theorem Ev.one {α : Type} {f : Nat → Option α} {r : α} (e : ∀ k, f (k + 1) = some r) : Ev f r := ⟨1, fun k hk => by
  obtain ⟨j, rfl⟩ : ∃ j, k = j + 1 := ⟨k - 1, by omega⟩
  exact e j⟩
theorem Ev.and {α β : Type} {f : Nat → Option α} {g : Nat → Option β} {r : α} {s : β} (h1 : Ev f r) (h2 : Ev g s) : ∃ K, ∀ k, K ≤ k → f k = some r ∧ g k = some s := by
  obtain ⟨K1, h1⟩ := h1
  obtain ⟨K2, h2⟩ := h2
  exact ⟨K1 + K2, fun k hk => ⟨h1 k (by omega), h2 k (by omega)⟩⟩
theorem wrap_succ (i : Nat) (h : i < 9223372036854775807) : wrap64 ((i : Int) + 1) = ((i + 1 : Nat) : Int) := by unfold wrap64; omega
theorem wrap_pred (i : Nat) (h0 : 0 < i) (h : i < 9223372036854775808) : wrap64 ((i : Int) - 1) = ((i - 1 : Nat) : Int) := by unfold wrap64; omega
theorem lead_spec (m : Nat) (h1 : 1 ≤ m) (h : m < 65536) : ∃ j, j < 16 ∧ lead m = 2 ^ j ∧ 2 ^ j ≤ m ∧ m < 2 ^ (j + 1) := by
  obtain ⟨h2, h3, h4⟩ := Lib.bitLenAux_bounds 64 m (by omega) (by omega)
  have h5 := bitLen16 m h
  have e : Lib.bitLen m = Lib.bitLenAux 64 m := rfl
  rw [← e] at h2 h3 h4
  refine ⟨Lib.bitLen m - 1, by omega, ?_, h3, ?_⟩
  · unfold lead
    have : 2 ^ Lib.bitLen m = 2 * 2 ^ (Lib.bitLen m - 1) := by rw [← Nat.pow_succ']; congr 1; omega
    omega
  · rwa [show Lib.bitLen m - 1 + 1 = Lib.bitLen m by omega]
theorem leading_l0 (m j : Nat) (hj : j < 16) (h1 : 2 ^ j ≤ m) (h2 : m < 2 ^ (j + 1)) (hm : m < 65536) : ∀ n i, i + n = j → Ev (fun k => slotmeshref33_Leading.l0 k (m : Int) ((2 ^ i : Nat) : Int)) ((2 ^ j : Nat) : Int) := by
  intro n
  induction n with
  | zero =>
    intro i hi
    have : i = j := by omega
    subst this
    refine Ev.one (fun k => ?_)
    have hp : 2 ^ (i + 1) = 2 ^ i * 2 := Nat.pow_succ 2 i
    have hw : wrap64 (((2 ^ i : Nat) : Int) * 2) = ((2 ^ i * 2 : Nat) : Int) := by unfold wrap64; omega
    rw [slotmeshref33_Leading.l0, hw, if_neg (by omega)]
  | succ n ih =>
    intro i hi
    refine (ih (i + 1) (by omega)).succ (fun k hk => ?_)
    have hp : 2 ^ (i + 1) = 2 ^ i * 2 := Nat.pow_succ 2 i
    have hle : 2 ^ (i + 1) ≤ 2 ^ j := Nat.pow_le_pow_right (by omega) (by omega)
    have hw : wrap64 (((2 ^ i : Nat) : Int) * 2) = ((2 ^ (i + 1) : Nat) : Int) := by rw [hp]; unfold wrap64; omega
    rw [slotmeshref33_Leading.l0, hw, if_pos (by omega)]
    exact hk
theorem leading_ev (m : Nat) (h1 : 1 ≤ m) (h : m < 65536) : Ev (fun k => slotmeshref33_Leading.f k (m : Int)) (lead m : Int) := by
  obtain ⟨j, hj, e, h2, h3⟩ := lead_spec m h1 h
  rw [e]
  exact leading_l0 m j hj h2 h3 h j 0 (by omega)
/-- the same at a mask as it stands -/
theorem leading_ev' (z : Int) (h1 : 1 ≤ z) (h : z < 65536) : Ev (fun k => slotmeshref33_Leading.f k z) (lead z.toNat : Int) := by
  obtain ⟨m, rfl⟩ := Int.eq_ofNat_of_zero_le (show 0 ≤ z by omega)
  exact leading_ev m (by omega) (by omega)
theorem formed_eq (m : Int) (d : List Int) : slotmeshref33_Formed.f m d = some (fineB m d) := by
  unfold slotmeshref33_Formed.f fineB
  by_cases h1 : m ≥ 1
  · rw [if_pos h1]
    by_cases h2 : m < 65536
    · rw [if_pos h2]
      have e1 : decide (1 ≤ m) = true := decide_eq_true h1
      have e2 : decide (m < 65536) = true := decide_eq_true h2
      rw [e1, e2]
      simp only [Bool.true_and]
      congr 1
      rw [Bool.eq_iff_iff]
      simp
      omega
    · rw [if_neg h2]
      have e2 : decide (m < 65536) = false := decide_eq_false h2
      rw [e2]
      simp
  · rw [if_neg h1]
    have e1 : decide (1 ≤ m) = false := decide_eq_false h1
    rw [e1]
    simp
def allFrom (p : Nat → Bool) : Nat → Nat → Bool
  | _, 0 => true
  | i, n + 1 => p i && allFrom p (i + 1) n
theorem allFrom_iff (p : Nat → Bool) : ∀ n i, allFrom p i n = true ↔ ∀ j, i ≤ j → j < i + n → p j = true := by
  intro n
  induction n with
  | zero => intro i; simp [allFrom]; intro j h1 h2; omega
  | succ n ih =>
    intro i
    simp only [allFrom, Bool.and_eq_true, ih]
    constructor
    · rintro ⟨h1, h2⟩ j h3 h4
      by_cases e : j = i
      · rw [e]; exact h1
      · exact h2 j (by omega) (by omega)
    · intro h
      exact ⟨h i (by omega) (by omega), fun j h1 h2 => h j (by omega) (by omega)⟩
def at_ (l : List S25) (i : Nat) : S25 := l.getD i z25
def mk (l : List S25) (i : Nat) : Nat := (at_ l i).f0.toNat
theorem rd_at (l : List S25) (i : Nat) : rd_T25 l (i : Int) = at_ l i := by simp [rd_T25, at_]
def okAt (l : List S25) (i : Nat) : Bool := fineB (at_ l i).f0 (at_ l i).f1 && (i == 0 || decide (lead (mk l i) < lead (mk l (i - 1))))
def okPair (l : List S25) (i k : Nat) : Bool := i == k || (mk l k &&& lead (mk l i)) == 0
theorem fine_spec {m : Int} {d : List Int} (h : fineB m d = true) : 1 ≤ m ∧ m < 65536 ∧ d.length = 16 := FRow.spec ⟨⟨m, d⟩, h⟩
theorem okAt_fine {l : List S25} {i : Nat} (h : okAt l i = true) : 1 ≤ (at_ l i).f0 ∧ (at_ l i).f0 < 65536 ∧ (at_ l i).f1.length = 16 := by
  unfold okAt at h
  simp only [Bool.and_eq_true] at h
  exact fine_spec h.1
theorem i64_and_int (a : Int) (ha : 1 ≤ a ∧ a < 65536) (b : Nat) (hb : b < 65536) : Go.bits .and .i64 a (b : Int) = ((a.toNat &&& b : Nat) : Int) := by
  obtain ⟨m, rfl⟩ := Int.eq_ofNat_of_zero_le (show 0 ≤ a by omega)
  exact i64_and_nat m b (by omega) (by omega)
/-- the inner loop, and what comes behind it -/
theorem valid_l2 (l : List S25) (hl : l.length < 9223372036854775808) (hok : ∀ j, j < l.length → okAt l j = true) (i : Nat) (hi : i < l.length) (rest : Bool) (hrest : Ev (fun k => slotmeshref33_Valid.l1 k l ((i + 1 : Nat) : Int)) rest) :
    ∀ n c, c + n = l.length → Ev (fun k => slotmeshref33_Valid.l2 k l (i : Int) (c : Int)) (allFrom (okPair l i) c n && rest) := by
  intro n
  induction n with
  | zero =>
    intro c hc
    refine hrest.succ (fun k hk => ?_)
    rw [slotmeshref33_Valid.l2, if_neg (by omega), wrap_succ i (by omega)]
    simpa [allFrom] using hk
  | succ n ih =>
    intro c hc
    have hlt : (c : Int) < (l.length : Int) := by omega
    by_cases hic : i = c
    · refine (ih (c + 1) (by omega)).succ (fun k hk => ?_)
      rw [slotmeshref33_Valid.l2, if_pos hlt, if_pos (by omega), wrap_succ c (by omega)]
      have hp : okPair l i c = true := by simp [okPair, hic]
      simpa [allFrom, hp] using hk
    · have hfi := okAt_fine (hok i hi)
      have hfc := okAt_fine (hok c (by omega))
      have hle := leading_ev' (at_ l i).f0 hfi.1 hfi.2.1
      have hll := lead_lt (at_ l i).f0.toNat (by omega)
      have hand := i64_and_int (at_ l c).f0 ⟨hfc.1, hfc.2.1⟩ _ hll
      by_cases hz : (mk l c &&& lead (mk l i)) = 0
      · refine hle.succ2 (ih (c + 1) (by omega)) (fun k h1 h2 => ?_)
        rw [slotmeshref33_Valid.l2, if_pos hlt, if_neg (by omega), if_pos (by omega), if_pos (by omega), if_pos (by omega), rd_at, rd_at, h1]
        simp only [Option.bind_some]
        rw [hand, if_pos (by show ((mk l c &&& lead (mk l i) : Nat) : Int) = 0; rw [hz]; rfl), wrap_succ c (by omega)]
        have hp : okPair l i c = true := by simp [okPair, hz]
        simpa [allFrom, hp] using h2
      · refine hle.succ (fun k h1 => ?_)
        rw [slotmeshref33_Valid.l2, if_pos hlt, if_neg (by omega), if_pos (by omega), if_pos (by omega), if_pos (by omega), rd_at, rd_at, h1]
        simp only [Option.bind_some]
        have hp : okPair l i c = false := by simp [okPair, hic, hz]
        rw [hand, if_neg (by show ¬ ((mk l c &&& lead (mk l i) : Nat) : Int) = 0; omega)]
        simp [allFrom, hp]
theorem valid_l1 (l : List S25) (hl : l.length < 9223372036854775808) (hok : ∀ j, j < l.length → okAt l j = true) :
    ∀ n i, i + n = l.length → Ev (fun k => slotmeshref33_Valid.l1 k l (i : Int)) (allFrom (fun a => allFrom (okPair l a) 0 l.length) i n) := by
  intro n
  induction n with
  | zero =>
    intro i hi
    refine Ev.one (fun k => ?_)
    rw [slotmeshref33_Valid.l1, if_neg (by omega)]
    rfl
  | succ n ih =>
    intro i hi
    refine (valid_l2 l hl hok i (by omega) _ (ih (i + 1) (by omega)) l.length 0 (by omega)).succ (fun k hk => ?_)
    rw [slotmeshref33_Valid.l1, if_pos (by omega)]
    exact hk
def refB (l : List S25) : Bool := allFrom (okAt l) 0 l.length && allFrom (fun a => allFrom (okPair l a) 0 l.length) 0 l.length
theorem valid_l0 (l : List S25) (hl : l.length < 9223372036854775808) :
    ∀ n i, i + n = l.length → (∀ j, j < i → okAt l j = true) → Ev (fun k => slotmeshref33_Valid.l0 k l (i : Int)) (allFrom (okAt l) i n && allFrom (fun a => allFrom (okPair l a) 0 l.length) 0 l.length) := by
  intro n
  induction n with
  | zero =>
    intro i hi hb
    refine (valid_l1 l hl (fun j hj => hb j (by omega)) l.length 0 (by omega)).succ (fun k hk => ?_)
    rw [slotmeshref33_Valid.l0, if_neg (by omega)]
    simpa [allFrom] using hk
  | succ n ih =>
    intro i hi hb
    have hlt : (i : Int) < (l.length : Int) := by omega
    by_cases hf : fineB (at_ l i).f0 (at_ l i).f1 = true
    · have hfi := fine_spec hf
      have hle := leading_ev' (at_ l i).f0 hfi.1 hfi.2.1
      by_cases h0 : i = 0
      · subst h0
        have hp : okAt l 0 = true := by simp [okAt, hf]
        refine (ih 1 (by omega) (fun j hj => by rw [show j = 0 by omega]; exact hp)).succ (fun k hk => ?_)
        rw [slotmeshref33_Valid.l0, if_pos hlt, if_pos (by omega), rd_at, formed_eq, hf]
        simp only [Option.bind_some, if_true]
        rw [if_neg (by omega), show wrap64 (((0 : Nat) : Int) + 1) = ((0 + 1 : Nat) : Int) from wrap_succ 0 (by omega)]
        simpa [allFrom, hp] using hk
      · have hfp := okAt_fine (hb (i - 1) (by omega))
        have hlp := leading_ev' (at_ l (i - 1)).f0 hfp.1 hfp.2.1
        by_cases hc : lead (mk l i) < lead (mk l (i - 1))
        · have hp : okAt l i = true := by simp [okAt, hf, hc]
          obtain ⟨K, hK⟩ := hle.and hlp
          have hev2 : Ev (fun k => if slotmeshref33_Leading.f k (at_ l i).f0 = some (lead (at_ l i).f0.toNat : Int) ∧ slotmeshref33_Leading.f k (at_ l (i - 1)).f0 = some (lead (at_ l (i - 1)).f0.toNat : Int) then some () else none) () := ⟨K, fun k hk => if_pos (hK k hk)⟩
          refine hev2.succ2 (ih (i + 1) (by omega) (fun j hj => by
            by_cases e : j = i
            · rw [e]; exact hp
            · exact hb j (by omega))) (fun k h1 h2 => ?_)
          have h1' : slotmeshref33_Leading.f k (at_ l i).f0 = some (lead (at_ l i).f0.toNat : Int) ∧ slotmeshref33_Leading.f k (at_ l (i - 1)).f0 = some (lead (at_ l (i - 1)).f0.toNat : Int) := by
            by_cases hh : slotmeshref33_Leading.f k (at_ l i).f0 = some (lead (at_ l i).f0.toNat : Int) ∧ slotmeshref33_Leading.f k (at_ l (i - 1)).f0 = some (lead (at_ l (i - 1)).f0.toNat : Int)
            · exact hh
            · rw [if_neg hh] at h1; cases h1
          rw [slotmeshref33_Valid.l0, if_pos hlt, if_pos (by omega), rd_at, formed_eq, hf]
          simp only [Option.bind_some, if_true]
          rw [if_pos (by omega), wrap_pred i (by omega) (by omega), if_pos (by omega), if_pos (by omega), rd_at, h1'.1, h1'.2]
          simp only [Option.bind_some]
          rw [if_neg (by have : lead (at_ l i).f0.toNat < lead (at_ l (i - 1)).f0.toNat := hc; omega), wrap_succ i (by omega)]
          simpa [allFrom, hp] using h2
        · have hp : okAt l i = false := by simp [okAt, hc, h0]
          refine hle.succ2 hlp (fun k h1 h2 => ?_)
          rw [slotmeshref33_Valid.l0, if_pos hlt, if_pos (by omega), rd_at, formed_eq, hf]
          simp only [Option.bind_some, if_true]
          rw [if_pos (by omega), wrap_pred i (by omega) (by omega), if_pos (by omega), if_pos (by omega), rd_at, h1, h2]
          simp only [Option.bind_some]
          rw [if_pos (by have : ¬ lead (at_ l i).f0.toNat < lead (at_ l (i - 1)).f0.toNat := hc; omega)]
          simp [allFrom, hp]
    · have hp : okAt l i = false := by simp [okAt, hf]
      refine Ev.one (fun k => ?_)
      rw [slotmeshref33_Valid.l0, if_pos hlt, if_pos (by omega), rd_at, formed_eq]
      simp only [Option.bind_some]
      rw [if_neg hf]
      simp [allFrom, hp]
theorem refValid (l : List S25) (hl : l.length < 9223372036854775808) : Ev (fun k => slotmeshref33_Valid.f k l) (refB l) :=
  valid_l0 l hl l.length 0 (by omega) (fun j hj => by omega)
theorem and_two_pow (m j : Nat) : m &&& 2 ^ j = if m.testBit j then 2 ^ j else 0 := by
  apply Nat.eq_of_testBit_eq
  intro i
  rw [Nat.testBit_and, Nat.testBit_two_pow]
  by_cases h : m.testBit j = true
  · rw [if_pos h, Nat.testBit_two_pow]
    by_cases e : j = i
    · subst e; simp [h]
    · simp [e]
  · rw [if_neg h]
    by_cases e : j = i
    · subst e; simpa using h
    · simp [e]
theorem top_bit {m j : Nat} (h1 : 2 ^ j ≤ m) (h2 : m < 2 ^ (j + 1)) : m.testBit j = true := by
  obtain ⟨i, hi, hb⟩ := Nat.exists_ge_and_testBit_of_ge_two_pow h1
  by_cases e : i = j
  · rw [← e]; exact hb
  · have := Nat.testBit_lt_two_pow (x := m) (i := i) (Nat.lt_of_lt_of_le h2 (Nat.pow_le_pow_right (by omega) (by omega)))
    rw [this] at hb
    cases hb
/-- the leads of a list, together -/
def orL (l : List S25) : Nat := l.foldl (fun a x => a ||| lead x.f0.toNat) 0
theorem val1_val (l : List S25) : ∀ st, (∀ x ∈ l, fineB x.f0 x.f1 = true) → ((st.2 :: l.map (fun x => lead x.f0.toNat)).Pairwise (· > ·)) → val1 l st = some (l.foldl (fun a x => a ||| lead x.f0.toNat) st.1, (l.map (fun x => lead x.f0.toNat)).getLast?.getD st.2) := by
  induction l with
  | nil => intro st _ _; rfl
  | cons x l ih =>
    intro st hf hp
    simp only [List.map_cons, List.pairwise_cons] at hp
    have h1 : fineB x.f0 x.f1 = true ∧ lead x.f0.toNat < st.2 := ⟨hf x (by simp), hp.1 _ (by simp)⟩
    rw [val1, if_pos h1, ih _ (fun y hy => hf y (by simp [hy]))]
    · simp only [List.foldl_cons, List.map_cons, List.getLast?_cons]
      simp
    · simp only [List.pairwise_cons]
      exact ⟨hp.2.1, hp.2.2⟩
theorem val1_conv (l : List S25) : ∀ st st', val1 l st = some st' → (∀ x ∈ l, fineB x.f0 x.f1 = true) ∧ ((st.2 :: l.map (fun x => lead x.f0.toNat)).Pairwise (· > ·)) := by
  induction l with
  | nil => intro st st' _; simp
  | cons x l ih =>
    intro st st' h
    rw [val1] at h
    split at h
    · rename_i hc
      obtain ⟨h1, h2⟩ := ih _ _ h
      refine ⟨fun y hy => ?_, ?_⟩
      · rcases List.mem_cons.1 hy with rfl | hy
        · exact hc.1
        · exact h1 y hy
      · simp only [List.map_cons, List.pairwise_cons] at h2 ⊢
        refine ⟨fun b hb => ?_, h2⟩
        rcases List.mem_cons.1 hb with rfl | hb
        · exact hc.2
        · exact Nat.lt_trans (h2.1 b hb) hc.2
    · cases h
/-- what valid rows are, in plain words -/
structure VP (l : List S25) : Prop where
  fine : ∀ x ∈ l, fineB x.f0 x.f1 = true
  desc : (l.map (fun x => lead x.f0.toNat)).Pairwise (· > ·)
  red : ∀ i k, i < l.length → k < l.length → i ≠ k → mk l k &&& lead (mk l i) = 0
theorem lead_lt16 (x : S25) (h : fineB x.f0 x.f1 = true) : lead x.f0.toNat < 65536 := lead_lt _ (by have := fine_spec h; omega)
theorem testBit_foldl_or (l : List S25) (i : Nat) : ∀ a : Nat, (l.foldl (fun a x => a ||| lead x.f0.toNat) a).testBit i = (a.testBit i || l.any (fun x => (lead x.f0.toNat).testBit i)) := by
  induction l with
  | nil => intro a; simp
  | cons x l ih => intro a; rw [List.foldl_cons, ih, Nat.testBit_or]; simp [Bool.or_assoc]
theorem mem_at {l : List S25} {i : Nat} (h : i < l.length) : at_ l i ∈ l := by
  unfold at_
  rw [List.getD_eq_getElem?_getD, List.getElem?_eq_getElem h]
  exact List.getElem_mem h
theorem at_mem {l : List S25} {x : S25} (h : x ∈ l) : ∃ i, i < l.length ∧ at_ l i = x := by
  obtain ⟨i, hi, e⟩ := List.getElem_of_mem h
  exact ⟨i, hi, by unfold at_; rw [List.getD_eq_getElem?_getD, List.getElem?_eq_getElem hi]; exact e⟩
theorem lead_inj_at {l : List S25} (hd : (l.map (fun x => lead x.f0.toNat)).Pairwise (· > ·)) {i k : Nat} (hi : i < l.length) (hk : k < l.length) (hne : i ≠ k) : lead (mk l i) ≠ lead (mk l k) := by
  have key : ∀ a b, a < b → b < l.length → lead (mk l b) < lead (mk l a) := by
    intro a b hab hb
    have := List.pairwise_iff_getElem.1 hd a b (by simp; omega) (by simpa using hb) hab
    simp only [List.getElem_map] at this
    unfold mk at_
    rw [List.getD_eq_getElem?_getD, List.getD_eq_getElem?_getD, List.getElem?_eq_getElem hb, List.getElem?_eq_getElem (show a < l.length by omega)]
    exact this
  rcases Nat.lt_or_gt_of_ne hne with h | h
  · have := key i k h hk; omega
  · have := key k i h hi; omega
theorem validS_iff (l : List S25) : validS l = true ↔ VP l := by
  have lead2 : ∀ x ∈ l, fineB x.f0 x.f1 = true → ∃ j, j < 16 ∧ lead x.f0.toNat = 2 ^ j ∧ x.f0.toNat.testBit j = true := by
    intro x hx hf
    have := fine_spec hf
    obtain ⟨j, h1, h2, h3, h4⟩ := lead_spec x.f0.toNat (by omega) (by omega)
    exact ⟨j, h1, h2, top_bit h3 h4⟩
  -- the test of the second loop, bit by bit
  have second : ∀ (hf : ∀ x ∈ l, fineB x.f0 x.f1 = true) (hd : (l.map (fun x => lead x.f0.toNat)).Pairwise (· > ·)), ((l.all fun x => x.f0.toNat &&& orL l == lead x.f0.toNat) = true ↔ ∀ i k, i < l.length → k < l.length → i ≠ k → mk l k &&& lead (mk l i) = 0) := by
    intro hf hd
    rw [List.all_eq_true]
    constructor
    · intro h i k hi hk hne
      have hx := h (at_ l k) (mem_at hk)
      simp only [beq_iff_eq] at hx
      obtain ⟨j, hj, e, _⟩ := lead2 _ (mem_at hi) (hf _ (mem_at hi))
      show (at_ l k).f0.toNat &&& lead (at_ l i).f0.toNat = 0
      rw [e, and_two_pow]
      by_cases hb : (at_ l k).f0.toNat.testBit j = true
      · exfalso
        have ht : ((at_ l k).f0.toNat &&& orL l).testBit j = true := by
          rw [Nat.testBit_and, hb, orL, testBit_foldl_or]
          simp only [Bool.true_and, Nat.zero_testBit, Bool.false_or, List.any_eq_true]
          exact ⟨at_ l i, mem_at hi, by rw [e, Nat.testBit_two_pow_self]⟩
        rw [hx] at ht
        obtain ⟨j2, _, e2, _⟩ := lead2 _ (mem_at hk) (hf _ (mem_at hk))
        rw [e2, Nat.testBit_two_pow] at ht
        have : j2 = j := by simpa using ht
        exact lead_inj_at hd hi hk hne (by show lead (at_ l i).f0.toNat = lead (at_ l k).f0.toNat; rw [e, e2, this])
      · rw [if_neg hb]
    · intro h x hx
      obtain ⟨k, hk, rfl⟩ := at_mem hx
      obtain ⟨j, hj, e, hb⟩ := lead2 _ hx (hf _ hx)
      simp only [beq_iff_eq]
      apply Nat.eq_of_testBit_eq
      intro i
      rw [Nat.testBit_and, orL, testBit_foldl_or, e, Nat.testBit_two_pow]
      simp only [Nat.zero_testBit, Bool.false_or]
      by_cases hij : j = i
      · subst hij
        rw [hb]
        simp only [Bool.true_and, decide_true, List.any_eq_true]
        exact ⟨_, hx, by rw [e, Nat.testBit_two_pow_self]⟩
      · simp only [hij, decide_false, Bool.and_eq_false_iff]
        by_cases hbi : (at_ l k).f0.toNat.testBit i = true
        · right
          rw [List.any_eq_false]
          intro y hy ht
          obtain ⟨k2, hk2, rfl⟩ := at_mem hy
          obtain ⟨j2, _, e2, _⟩ := lead2 _ hy (hf _ hy)
          rw [e2, Nat.testBit_two_pow] at ht
          have hji : j2 = i := by simpa using ht
          by_cases hkk : k2 = k
          · subst hkk
            rw [e] at e2
            have := (Nat.pow_right_inj (show 1 < 2 by omega)).1 e2
            omega
          · have := h k2 k hk2 hk hkk
            have h3 : (at_ l k).f0.toNat &&& lead (at_ l k2).f0.toNat = 0 := this
            rw [e2, and_two_pow, hji, if_pos hbi] at h3
            have := Nat.two_pow_pos i
            omega
        · left
          simpa using hbi
  constructor
  · intro h
    unfold validS at h
    split at h
    · cases h
    · rename_i st hv
      obtain ⟨h1, h2⟩ := val1_conv _ _ _ hv
      have h3 := val1_val l (0, 65536) h1 h2
      rw [hv] at h3
      injection h3 with h3
      simp only [List.pairwise_cons] at h2
      rw [h3] at h
      exact ⟨h1, h2.2, (second h1 h2.2).1 h⟩
  · rintro ⟨h1, h2, h3⟩
    have hp : (((0, 65536) : Nat × Nat).2 :: l.map (fun x => lead x.f0.toNat)).Pairwise (· > ·) := by
      rw [List.pairwise_cons]
      refine ⟨fun b hb => ?_, h2⟩
      obtain ⟨x, hx, rfl⟩ := List.mem_map.1 hb
      exact lead_lt16 x (h1 x hx)
    unfold validS
    rw [val1_val l (0, 65536) h1 hp]
    exact (second h1 h2).2 h3
theorem refB_iff (l : List S25) : refB l = true ↔ VP l := by
  unfold refB
  rw [Bool.and_eq_true, allFrom_iff, allFrom_iff]
  constructor
  · rintro ⟨h1, h2⟩
    have hf : ∀ x ∈ l, fineB x.f0 x.f1 = true := by
      intro x hx
      obtain ⟨i, hi, rfl⟩ := at_mem hx
      have := h1 i (by omega) (by omega)
      unfold okAt at this
      simp only [Bool.and_eq_true] at this
      exact this.1
    have hstep : ∀ i, i + 1 < l.length → lead (mk l (i + 1)) < lead (mk l i) := by
      intro i hi
      have := h1 (i + 1) (by omega) (by omega)
      unfold okAt at this
      simp at this
      exact this.2
    have hmono : ∀ d i, i + d + 1 < l.length → lead (mk l (i + d + 1)) < lead (mk l i) := by
      intro d
      induction d with
      | zero => intro i hi; exact hstep i hi
      | succ d ih => intro i hi; exact Nat.lt_trans (hstep (i + d + 1) hi) (ih i (by omega))
    refine ⟨hf, ?_, fun i k hi hk hne => ?_⟩
    · rw [List.pairwise_iff_getElem]
      intro i j hi hj hij
      simp only [List.length_map] at hi hj
      simp only [List.getElem_map]
      have := hmono (j - i - 1) i (by omega)
      rw [show i + (j - i - 1) + 1 = j by omega] at this
      unfold mk at_ at this
      rw [List.getD_eq_getElem?_getD, List.getD_eq_getElem?_getD, List.getElem?_eq_getElem hj, List.getElem?_eq_getElem hi] at this
      exact this
    · have := (allFrom_iff _ _ _).1 (h2 i (by omega) (by omega)) k (by omega) (by omega)
      unfold okPair at this
      simp [hne] at this
      exact this
  · rintro ⟨h1, h2, h3⟩
    refine ⟨fun i _ hi => ?_, fun i _ hi => (allFrom_iff _ _ _).2 (fun k _ hk => ?_)⟩
    · unfold okAt
      rw [h1 _ (mem_at (by omega)), Bool.true_and]
      by_cases e : i = 0
      · simp [e]
      · have := List.pairwise_iff_getElem.1 h2 (i - 1) i (by simp; omega) (by simp; omega) (by omega)
        simp only [List.getElem_map] at this
        have h4 : lead (mk l i) < lead (mk l (i - 1)) := by
          unfold mk at_
          rw [List.getD_eq_getElem?_getD, List.getD_eq_getElem?_getD, List.getElem?_eq_getElem (show i < l.length by omega), List.getElem?_eq_getElem (show i - 1 < l.length by omega)]
          exact this
        simp [h4]
    · unfold okPair
      by_cases e : i = k
      · simp [e]
      · rw [h3 i k (by omega) (by omega) e]
        simp
theorem refB_validS (l : List S25) : refB l = validS l := by
  rw [Bool.eq_iff_iff, refB_iff, validS_iff]
theorem refValid' (l : List S25) (hl : l.length < 9223372036854775808) : Ev (fun k => slotmeshref33_Valid.f k l) (validS l) := by
  rw [← refB_validS]
  exact refValid l hl
end Go.Proofs.YtknlbeojdmeljaaDoor.L
namespace Go.Proofs.YtknlbeojdmeljaaDoor.L
open Go.RowKit Go.Proofs.YtknlbeojdmeljaaDoorW.PrintWords Go.Proofs.YtknlbeojdmeljaaDoorW.PrintLast Go.Proofs.YtknlbeojdmeljaaDoorW.PrintMore Go.Proofs.YtknlbeojdmeljaaDoor.P Go.Proofs.YtknlbeojdmeljaaDoor.H
set_option linter.unusedVariables false
set_option linter.unusedSimpArgs false
theorem rd_nat (l : List Int) (i : Nat) : rd l (i : Int) = l.getD i 0 := by simp [rd]
theorem xorD_snoc (a b : List Int) (i : Nat) (ha : i < a.length) (hb : i < b.length) : xorD (a.take i) (b.take i) ++ [xorB (a.getD i 0) (b.getD i 0)] = xorD (a.take (i + 1)) (b.take (i + 1)) := by
  rw [List.take_succ_eq_append_getElem ha, List.take_succ_eq_append_getElem hb]
  unfold xorD
  rw [List.zipWith_append (by simp; omega)]
  simp [List.getD, List.getElem?_eq_getElem ha, List.getElem?_eq_getElem hb]
theorem xor_l0 (a b : List Int) (ha : 16 ≤ a.length) (hb : 16 ≤ b.length) : ∀ n i, i + n = 16 → Ev (fun k => slotmeshref33_Xor.l0 k a b (xorD (a.take i) (b.take i)) (i : Int)) (xorD (a.take 16) (b.take 16)) := by
  intro n
  induction n with
  | zero =>
    intro i hi
    refine Ev.one (fun k => ?_)
    rw [slotmeshref33_Xor.l0, if_neg (by omega), show i = 16 by omega]
  | succ n ih =>
    intro i hi
    refine (ih (i + 1) (by omega)).succ (fun k hk => ?_)
    rw [slotmeshref33_Xor.l0, if_pos (by omega), if_pos (by omega), if_pos (by omega), if_pos (by omega), if_pos (by
      unfold xorD; rw [List.length_zipWith, List.length_take, List.length_take]; omega), rd_nat, rd_nat, wrap_succ i (by omega)]
    rw [show (xorD (a.take i) (b.take i) ++ [Go.bits .xor .u8 (a.getD i 0) (b.getD i 0)]) = xorD (a.take (i + 1)) (b.take (i + 1)) from xorD_snoc a b i (by omega) (by omega)]
    exact hk
theorem refXor (a b : List Int) (ha : a.length = 16) (hb : b.length = 16) : Ev (fun k => slotmeshref33_Xor.f k a b) (xorD a b) := by
  have := xor_l0 a b (by omega) (by omega) 16 0 (by omega)
  rw [List.take_of_length_le (show a.length ≤ 16 by omega), List.take_of_length_le (show b.length ≤ 16 by omega)] at this
  exact this
theorem i64_xor_int (a b : Int) (ha : 0 ≤ a ∧ a < 65536) (hb : 0 ≤ b ∧ b < 65536) : Go.bits .xor .i64 a b = ((a.toNat ^^^ b.toNat : Nat) : Int) := by
  obtain ⟨m, rfl⟩ := Int.eq_ofNat_of_zero_le ha.1
  obtain ⟨n, rfl⟩ := Int.eq_ofNat_of_zero_le hb.1
  exact i64_xor_nat m n (by omega) (by omega)
theorem stepS_ok (x : Nat × List Int) (r : S25) (hr : fineB r.f0 r.f1 = true) (h : x.1 < 65536 ∧ x.2.length = 16) : (stepS x r).1 < 65536 ∧ (stepS x r).2.length = 16 := step1_ok x ⟨r, hr⟩ h
theorem drop_at (l : List S25) (i : Nat) (h : i < l.length) : l.drop i = at_ l i :: l.drop (i + 1) := by
  rw [List.drop_eq_getElem_cons h]
  congr 1
  unfold at_
  rw [List.getD_eq_getElem?_getD, List.getElem?_eq_getElem h]
  rfl
theorem reduce_l0 (l : List S25) (hl : l.length < 9223372036854775808) (hv : ∀ x ∈ l, fineB x.f0 x.f1 = true) : ∀ n i, i + n = l.length → ∀ (m : Nat) (d : List Int), m < 65536 → d.length = 16 →
    Ev (fun k => slotmeshref33_reduce.l0 k l (i : Int) (m : Int) d) (((redS (l.drop i) (m, d)).1 : Int), (redS (l.drop i) (m, d)).2) := by
  intro n
  induction n with
  | zero =>
    intro i hi m d hm hd
    refine Ev.one (fun k => ?_)
    rw [slotmeshref33_reduce.l0, if_neg (by omega), List.drop_of_length_le (by omega)]
    rfl
  | succ n ih =>
    intro i hi m d hm hd
    have hf := hv _ (mem_at (show i < l.length by omega))
    have hfi := fine_spec hf
    have hle := leading_ev' (at_ l i).f0 hfi.1 hfi.2.1
    have hll := lead_lt (at_ l i).f0.toNat (by omega)
    have hand := i64_and_nat m _ (show m < 9223372036854775808 by omega) (show lead (at_ l i).f0.toNat < 9223372036854775808 by omega)
    rw [drop_at l i (by omega)]
    by_cases hz : m &&& lead (at_ l i).f0.toNat = 0
    · have hst : redS (at_ l i :: l.drop (i + 1)) (m, d) = redS (l.drop (i + 1)) (m, d) := by
        show redS (l.drop (i + 1)) (stepS (m, d) (at_ l i)) = _
        rw [show stepS (m, d) (at_ l i) = (m, d) from if_neg (by simpa using hz)]
      rw [hst]
      refine hle.succ2 (ih (i + 1) (by omega) m d hm hd) (fun k h1 h2 => ?_)
      rw [slotmeshref33_reduce.l0, if_pos (by omega), if_pos (by omega), rd_at, h1]
      simp only [Option.bind_some]
      rw [hand, if_pos (by rw [hz]; rfl), wrap_succ i (by omega)]
      exact h2
    · have hst : redS (at_ l i :: l.drop (i + 1)) (m, d) = redS (l.drop (i + 1)) (m ^^^ (at_ l i).f0.toNat, xorD d (at_ l i).f1) := by
        show redS (l.drop (i + 1)) (stepS (m, d) (at_ l i)) = _
        rw [show stepS (m, d) (at_ l i) = (m ^^^ (at_ l i).f0.toNat, xorD d (at_ l i).f1) from if_pos hz]
      rw [hst]
      have hok := stepS_ok (m, d) (at_ l i) hf ⟨hm, hd⟩
      rw [show stepS (m, d) (at_ l i) = (m ^^^ (at_ l i).f0.toNat, xorD d (at_ l i).f1) from if_pos hz] at hok
      have hx := refXor d (at_ l i).f1 hd hfi.2.2
      have hxr := i64_xor_int (m : Int) (at_ l i).f0 (by omega) (by omega)
      rw [Int.toNat_natCast] at hxr
      obtain ⟨K, hK⟩ := hle.and hx
      have h3 : Ev (fun k => (slotmeshref33_Leading.f k (at_ l i).f0).bind fun a => (slotmeshref33_Xor.f k d (at_ l i).f1).bind fun b => some (a, b)) ((lead (at_ l i).f0.toNat : Int), xorD d (at_ l i).f1) := ⟨K, fun k hk => by simp only [(hK k hk).1, (hK k hk).2, Option.bind_some]⟩
      refine h3.succ2 (ih (i + 1) (by omega) _ _ hok.1 hok.2) (fun k h1 h2 => ?_)
      have ha : slotmeshref33_Leading.f k (at_ l i).f0 = some (lead (at_ l i).f0.toNat : Int) ∧ slotmeshref33_Xor.f k d (at_ l i).f1 = some (xorD d (at_ l i).f1) := by
        cases e1 : slotmeshref33_Leading.f k (at_ l i).f0 with
        | none => rw [e1] at h1; cases h1
        | some a =>
          cases e2 : slotmeshref33_Xor.f k d (at_ l i).f1 with
          | none => rw [e1, e2] at h1; cases h1
          | some b =>
            rw [e1, e2] at h1
            simp only [Option.bind_some, Option.some.injEq, Prod.mk.injEq] at h1
            exact ⟨by rw [h1.1], by rw [h1.2]⟩
      rw [slotmeshref33_reduce.l0, if_pos (by omega), if_pos (by omega), rd_at, ha.1]
      simp only [Option.bind_some]
      rw [hand, if_neg (by omega), ha.2]
      simp only [Option.bind_some]
      rw [wrap_succ i (by omega), hxr]
      exact h2
theorem refReduce (l : List S25) (hl : l.length < 9223372036854775808) (hv : validS l = true) (m : Nat) (d : List Int) (hm : m < 65536) (hd : d.length = 16) :
    Ev (fun k => slotmeshref33_reduce.f k l (m : Int) d) (((redS l (m, d)).1 : Int), (redS l (m, d)).2) :=
  reduce_l0 l hl ((validS_iff l).1 hv).fine l.length 0 (by omega) m d hm hd
theorem zero_l0 (b : List Int) (hl : b.length < 9223372036854775808) : ∀ n i, i + n = b.length → Ev (fun k => slotmeshref33_Zero.l0 k b (i : Int)) ((b.drop i).all (· == 0)) := by
  intro n
  induction n with
  | zero =>
    intro i hi
    refine Ev.one (fun k => ?_)
    rw [slotmeshref33_Zero.l0, if_neg (by omega), List.drop_of_length_le (by omega)]
    rfl
  | succ n ih =>
    intro i hi
    have hd : b.drop i = b.getD i 0 :: b.drop (i + 1) := by
      rw [List.drop_eq_getElem_cons (by omega), List.getD_eq_getElem?_getD, List.getElem?_eq_getElem (show i < b.length by omega)]
      rfl
    rw [hd]
    by_cases hz : b.getD i 0 = 0
    · refine (ih (i + 1) (by omega)).succ (fun k hk => ?_)
      rw [slotmeshref33_Zero.l0, if_pos (by omega), if_pos (by omega), rd_nat, if_pos hz, wrap_succ i (by omega), List.all_cons, hz]
      exact hk
    · refine Ev.one (fun k => ?_)
      rw [slotmeshref33_Zero.l0, if_pos (by omega), if_pos (by omega), rd_nat, if_neg hz, List.all_cons]
      have h2 : (b.getD i 0 == 0) = false := by rw [beq_eq_false_iff_ne]; exact hz
      rw [h2]
      rfl
theorem refZero (b : List Int) (hl : b.length < 9223372036854775808) : Ev (fun k => slotmeshref33_Zero.f k b) (b.all (· == 0)) := zero_l0 b hl b.length 0 (by omega)
theorem copy_l0 (l : List S25) (hl : l.length < 4398046511104) (hd : ∀ x ∈ l, x.f1.length < 140737488355328) : ∀ n i, i + n = l.length → Ev (fun k => slotmeshref33_Copy.l0 k l (l.take i) (i : Int)) l := by
  intro n
  induction n with
  | zero =>
    intro i hi
    refine Ev.one (fun k => ?_)
    rw [slotmeshref33_Copy.l0, if_neg (by omega), List.take_of_length_le (by omega)]
  | succ n ih =>
    intro i hi
    refine (ih (i + 1) (by omega)).succ (fun k hk => ?_)
    have h1 := hd _ (mem_at (show i < l.length by omega))
    rw [slotmeshref33_Copy.l0, if_pos (by omega), if_pos (by omega), rd_at, if_pos (by simpa using h1), if_pos (by rw [List.length_take]; omega), wrap_succ i (by omega)]
    have e : l.take i ++ [(⟨(at_ l i).f0, [] ++ (at_ l i).f1⟩ : S25)] = l.take (i + 1) := by
      rw [List.take_succ_eq_append_getElem (show i < l.length by omega)]
      congr 2
      unfold at_
      rw [List.getD_eq_getElem?_getD, List.getElem?_eq_getElem (show i < l.length by omega)]
      simp
    rw [e]
    exact hk
theorem refCopy (l : List S25) (hl : l.length < 4398046511104) (hd : ∀ x ∈ l, x.f1.length < 140737488355328) : Ev (fun k => slotmeshref33_Copy.f k l) l := copy_l0 l hl hd l.length 0 (by omega)
theorem bytes_l0 (a b : List Int) (he : a.length = b.length) (hl : a.length < 9223372036854775808) : ∀ n i, i + n = a.length → Ev (fun k => slotmeshref33_Bytes.l0 k a b (i : Int)) (a.drop i == b.drop i) := by
  intro n
  induction n with
  | zero =>
    intro i hi
    refine Ev.one (fun k => ?_)
    rw [slotmeshref33_Bytes.l0, if_neg (by omega), List.drop_of_length_le (by omega), List.drop_of_length_le (by omega)]
    rfl
  | succ n ih =>
    intro i hi
    have hd : ∀ c : List Int, i < c.length → c.drop i = c.getD i 0 :: c.drop (i + 1) := fun c hc => by
      rw [List.drop_eq_getElem_cons hc, List.getD_eq_getElem?_getD, List.getElem?_eq_getElem hc]
      rfl
    rw [hd a (by omega), hd b (by omega)]
    by_cases hz : a.getD i 0 = b.getD i 0
    · refine (ih (i + 1) (by omega)).succ (fun k hk => ?_)
      rw [slotmeshref33_Bytes.l0, if_pos (by omega), if_pos (by omega), if_pos (by omega), rd_nat, rd_nat, if_pos hz, wrap_succ i (by omega), hz]
      simpa using hk
    · refine Ev.one (fun k => ?_)
      rw [slotmeshref33_Bytes.l0, if_pos (by omega), if_pos (by omega), if_pos (by omega), rd_nat, rd_nat, if_neg hz]
      simp only [Option.some.injEq]
      symm
      rw [beq_eq_false_iff_ne]
      intro h
      injection h with h1
      exact hz h1
theorem refBytes (a b : List Int) (hl : a.length < 9223372036854775808) : Ev (fun k => slotmeshref33_Bytes.f k a b) (a == b) := by
  by_cases he : a.length = b.length
  · refine (bytes_l0 a b he hl a.length 0 (by omega)).map (fun k hk => ?_)
    rw [slotmeshref33_Bytes.f, if_pos (by omega)]
    exact hk
  · refine ⟨0, fun k _ => ?_⟩
    show slotmeshref33_Bytes.f k a b = _
    rw [slotmeshref33_Bytes.f, if_neg (by omega)]
    congr 1
    symm
    rw [beq_eq_false_iff_ne]
    rintro rfl
    exact he rfl
def sameB (a b : List S25) : Bool := a.map (fun x => (x.f0, x.f1)) == b.map (fun x => (x.f0, x.f1))
theorem same_l0 (a b : List S25) (he : a.length = b.length) (hl : a.length < 9223372036854775808) (hd : ∀ x ∈ a, x.f1.length < 9223372036854775808) : ∀ n i, i + n = a.length → Ev (fun k => slotmeshref33_Same.l0 k a b (i : Int)) (sameB (a.drop i) (b.drop i)) := by
  intro n
  induction n with
  | zero =>
    intro i hi
    refine Ev.one (fun k => ?_)
    rw [slotmeshref33_Same.l0, if_neg (by omega), List.drop_of_length_le (by omega), List.drop_of_length_le (by omega)]
    rfl
  | succ n ih =>
    intro i hi
    rw [drop_at a i (by omega), drop_at b i (by omega)]
    by_cases hz : (at_ a i).f0 = (at_ b i).f0
    · have hb := refBytes (at_ a i).f1 (at_ b i).f1 (hd _ (mem_at (by omega)))
      by_cases hy : (at_ a i).f1 = (at_ b i).f1
      · refine hb.succ2 (ih (i + 1) (by omega)) (fun k h1 h2 => ?_)
        rw [slotmeshref33_Same.l0, if_pos (by omega), if_pos (by omega), if_pos (by omega), rd_at, rd_at, if_pos hz, h1]
        simp only [Option.bind_some]
        rw [if_pos (by simpa using hy), wrap_succ i (by omega), h2]
        simp [sameB, hz, hy]
      · refine hb.succ (fun k h1 => ?_)
        rw [slotmeshref33_Same.l0, if_pos (by omega), if_pos (by omega), if_pos (by omega), rd_at, rd_at, if_pos hz, h1]
        simp only [Option.bind_some]
        rw [if_neg (by simpa using hy)]
        simp [sameB, hy]
    · refine Ev.one (fun k => ?_)
      rw [slotmeshref33_Same.l0, if_pos (by omega), if_pos (by omega), if_pos (by omega), rd_at, rd_at, if_neg hz]
      simp [sameB, hz]
theorem refSame (a b : List S25) (hl : a.length < 9223372036854775808) (hd : ∀ x ∈ a, x.f1.length < 9223372036854775808) : Ev (fun k => slotmeshref33_Same.f k a b) (sameB a b) := by
  by_cases he : a.length = b.length
  · refine (same_l0 a b he hl hd a.length 0 (by omega)).map (fun k hk => ?_)
    rw [slotmeshref33_Same.f, if_pos (by omega)]
    exact hk
  · refine ⟨0, fun k _ => ?_⟩
    show slotmeshref33_Same.f k a b = _
    rw [slotmeshref33_Same.f, if_neg (by omega)]
    congr 1
    symm
    unfold sameB
    rw [beq_eq_false_iff_ne]
    intro h
    have := congrArg List.length h
    simp at this
    exact he this
theorem few_l0 (l : List S25) (hl : l.length < 9223372036854775808) : ∀ n i, i + n = l.length → Ev (fun k => slotmeshref33_Few.l0 k l (i : Int)) ((l.drop i).all (fun x => decide (x.f1.length ≤ 100)) && decide (l.length ≤ 40)) := by
  intro n
  induction n with
  | zero =>
    intro i hi
    refine Ev.one (fun k => ?_)
    rw [slotmeshref33_Few.l0, if_neg (by omega), List.drop_of_length_le (by omega)]
    simp
    omega
  | succ n ih =>
    intro i hi
    rw [drop_at l i (by omega)]
    by_cases hz : (at_ l i).f1.length ≤ 100
    · refine (ih (i + 1) (by omega)).succ (fun k hk => ?_)
      rw [slotmeshref33_Few.l0, if_pos (by omega), if_pos (by omega), rd_at, if_neg (by omega), wrap_succ i (by omega), hk]
      simp [hz]
    · refine Ev.one (fun k => ?_)
      rw [slotmeshref33_Few.l0, if_pos (by omega), if_pos (by omega), rd_at, if_pos (by omega)]
      simp [hz]
def fewB (l : List S25) : Bool := l.all (fun x => decide (x.f1.length ≤ 100)) && decide (l.length ≤ 40)
theorem refFew (l : List S25) (hl : l.length < 9223372036854775808) : Ev (fun k => slotmeshref33_Few.f k l) (fewB l) := few_l0 l hl l.length 0 (by omega)
end Go.Proofs.YtknlbeojdmeljaaDoor.L
namespace Go.Proofs.YtknlbeojdmeljaaDoor.L
open Go.RowKit Go.Proofs.YtknlbeojdmeljaaDoorW.PrintWords Go.Proofs.YtknlbeojdmeljaaDoorW.PrintLast Go.Proofs.YtknlbeojdmeljaaDoorW.PrintMore Go.Proofs.YtknlbeojdmeljaaDoor.P Go.Proofs.YtknlbeojdmeljaaDoor.H
set_option linter.unusedVariables false
set_option linter.unusedSimpArgs false
theorem Ev.bind {α β : Type} {f : Nat → Option α} {g : Nat → α → Option β} {r : α} {s : β} (h1 : Ev f r) (h2 : Ev (fun k => g k r) s) : Ev (fun k => (f k).bind (g k)) s := by
  obtain ⟨K1, h1⟩ := h1
  obtain ⟨K2, h2⟩ := h2
  exact ⟨K1 + K2, fun k hk => by show (f k).bind (g k) = some s; rw [h1 k (by omega)]; exact h2 k (by omega)⟩
theorem Ev.const {α : Type} (r : α) : Ev (fun _ => some r) r := ⟨0, fun _ _ => rfl⟩
theorem Ev.up {α : Type} {f g : Nat → Option α} {r : α} (h : Ev f r) (e : ∀ k, g (k + 1) = f k) : Ev g r := h.succ (fun k hk => (e k).trans hk)
def isB (a : Int) : Prop := 0 ≤ a ∧ a < 256
theorem xorB_nat (a b : Nat) (ha : a < 256) (hb : b < 256) : xorB (a : Int) (b : Int) = ((a ^^^ b : Nat) : Int) := by
  have hx : a ^^^ b < 2 ^ 8 := Nat.xor_lt_two_pow (by omega) (by omega)
  have h1 : (BitVec.ofInt 8 (a : Int)).toNat = a := by
    rw [BitVec.ofInt_natCast, BitVec.toNat_ofNat]; exact Nat.mod_eq_of_lt (by omega)
  have h2 : (BitVec.ofInt 8 (b : Int)).toNat = b := by
    rw [BitVec.ofInt_natCast, BitVec.toNat_ofNat]; exact Nat.mod_eq_of_lt (by omega)
  show IntKind.u8.wrap ((BitVec.ofInt 8 (a : Int) ^^^ BitVec.ofInt 8 (b : Int)).toNat : Int) = _
  rw [BitVec.toNat_xor, h1, h2]
  show (((a ^^^ b : Nat) : Int) % 256) = _
  omega
theorem isB_nat {a : Int} (h : isB a) : ∃ n : Nat, a = (n : Int) ∧ n < 256 := by
  obtain ⟨n, rfl⟩ := Int.eq_ofNat_of_zero_le h.1
  exact ⟨n, rfl, by have := h.2; omega⟩
theorem xorB_isB {a b : Int} (ha : isB a) (hb : isB b) : isB (xorB a b) := by
  obtain ⟨m, rfl, hm⟩ := isB_nat ha
  obtain ⟨n, rfl, hn⟩ := isB_nat hb
  rw [xorB_nat m n hm hn]
  have hx : m ^^^ n < 2 ^ 8 := Nat.xor_lt_two_pow (by omega) (by omega)
  exact ⟨by omega, by omega⟩
theorem xorB_comm {a b : Int} (ha : isB a) (hb : isB b) : xorB a b = xorB b a := by
  obtain ⟨m, rfl, hm⟩ := isB_nat ha
  obtain ⟨n, rfl, hn⟩ := isB_nat hb
  rw [xorB_nat m n hm hn, xorB_nat n m hn hm, Nat.xor_comm]
theorem xorB_assoc {a b c : Int} (ha : isB a) (hb : isB b) (hc : isB c) : xorB (xorB a b) c = xorB a (xorB b c) := by
  obtain ⟨m, rfl, hm⟩ := isB_nat ha
  obtain ⟨n, rfl, hn⟩ := isB_nat hb
  obtain ⟨k, rfl, hk⟩ := isB_nat hc
  have h1 : m ^^^ n < 2 ^ 8 := Nat.xor_lt_two_pow (by omega) (by omega)
  have h2 : n ^^^ k < 2 ^ 8 := Nat.xor_lt_two_pow (by omega) (by omega)
  rw [xorB_nat m n hm hn, xorB_nat n k hn hk, xorB_nat _ k (by omega) hk, xorB_nat m _ hm (by omega), Nat.xor_assoc]
theorem xorB_self {a : Int} (ha : isB a) : xorB a a = 0 := by
  obtain ⟨m, rfl, hm⟩ := isB_nat ha
  rw [xorB_nat m m hm hm, Nat.xor_self]
  rfl
theorem xorB_zero {a : Int} (ha : isB a) : xorB a 0 = a := by
  obtain ⟨m, rfl, hm⟩ := isB_nat ha
  have := xorB_nat m 0 hm (by omega)
  rw [Nat.xor_zero] at this
  exact this
structure GE (x : Nat × List Int) : Prop where
  m : x.1 < 65536
  len : x.2.length = 16
  rng : ∀ b ∈ x.2, isB b
def addE (x y : Nat × List Int) : Nat × List Int := (x.1 ^^^ y.1, xorD x.2 y.2)
def zeroE : Nat × List Int := (0, z16)
theorem zeroE_ge : GE zeroE := ⟨by decide, rfl, by intro b hb; have : b = 0 := List.eq_of_mem_replicate hb; subst this; exact ⟨by omega, by omega⟩⟩
theorem xorD_len {a b : List Int} (ha : a.length = 16) (hb : b.length = 16) : (xorD a b).length = 16 := by simp [xorD, List.length_zipWith, ha, hb]
theorem GE.at_ {x : Nat × List Int} (h : GE x) (i : Nat) (hi : i < x.2.length) : isB x.2[i] := h.rng _ (List.getElem_mem hi)
theorem GE.add {x y : Nat × List Int} (hx : GE x) (hy : GE y) : GE (addE x y) := by
  refine ⟨?_, xorD_len hx.len hy.len, ?_⟩
  · have := Nat.xor_lt_two_pow (n := 16) (x := x.1) (y := y.1) (by have := hx.m; omega) (by have := hy.m; omega)
    simpa [addE] using this
  · intro b hb
    obtain ⟨i, hi, rfl⟩ := List.getElem_of_mem hb
    simp only [addE, xorD, List.getElem_zipWith]
    have h1 := hx.len
    have h2 := hy.len
    have h3 : i < 16 := by simp only [addE] at hi; rw [xorD_len h1 h2] at hi; exact hi
    exact xorB_isB (hx.at_ i (by omega)) (hy.at_ i (by omega))
theorem pair_ext {x y : Nat × List Int} (h1 : x.1 = y.1) (h2 : x.2 = y.2) : x = y := Prod.ext h1 h2
theorem addE_comm {x y : Nat × List Int} (hx : GE x) (hy : GE y) : addE x y = addE y x := by
  refine pair_ext (Nat.xor_comm _ _) ?_
  have h1 := hx.len
  have h2 := hy.len
  refine List.ext_getElem (by simp [addE, xorD, List.length_zipWith, h1, h2]) (fun i hi hj => ?_)
  simp only [addE] at hi
  rw [xorD_len h1 h2] at hi
  simp only [addE, xorD, List.getElem_zipWith]
  exact xorB_comm (hx.at_ i (by omega)) (hy.at_ i (by omega))
theorem addE_assoc {x y z : Nat × List Int} (hx : GE x) (hy : GE y) (hz : GE z) : addE (addE x y) z = addE x (addE y z) := by
  refine pair_ext (Nat.xor_assoc _ _ _) ?_
  have h1 := hx.len
  have h2 := hy.len
  have h3 := hz.len
  refine List.ext_getElem (by simp [addE, xorD, List.length_zipWith, h1, h2, h3]) (fun i hi hj => ?_)
  simp only [addE] at hi
  rw [xorD_len (xorD_len h1 h2) h3] at hi
  simp only [addE, xorD, List.getElem_zipWith]
  exact xorB_assoc (hx.at_ i (by omega)) (hy.at_ i (by omega)) (hz.at_ i (by omega))
theorem addE_self {x : Nat × List Int} (hx : GE x) : addE x x = zeroE := by
  refine pair_ext (Nat.xor_self _) ?_
  have h1 := hx.len
  refine List.ext_getElem (by simp [addE, xorD, List.length_zipWith, h1, zeroE, z16]) (fun i hi hj => ?_)
  simp only [addE] at hi
  rw [xorD_len h1 h1] at hi
  simp only [addE, xorD, List.getElem_zipWith, zeroE, z16, List.getElem_replicate]
  exact xorB_self (hx.at_ i (by omega))
theorem addE_zero {x : Nat × List Int} (hx : GE x) : addE x zeroE = x := by
  refine pair_ext (Nat.xor_zero _) ?_
  have h1 := hx.len
  refine List.ext_getElem (by simp [addE, xorD, List.length_zipWith, h1, zeroE, z16]) (fun i hi hj => ?_)
  simp only [addE] at hi
  rw [xorD_len h1 rfl] at hi
  simp only [addE, xorD, List.getElem_zipWith, zeroE, z16, List.getElem_replicate]
  exact xorB_zero (hx.at_ i (by omega))
theorem zero_addE {x : Nat × List Int} (hx : GE x) : addE zeroE x = x := (addE_comm zeroE_ge hx).trans (addE_zero hx)
/-- (a+b)+(c+d) = (a+c)+(b+d) -/
theorem addE_four {a b c d : Nat × List Int} (ha : GE a) (hb : GE b) (hc : GE c) (hd : GE d) : addE (addE a b) (addE c d) = addE (addE a c) (addE b d) := by
  rw [addE_assoc ha hb (hc.add hd), ← addE_assoc hb hc hd, addE_comm hb hc, addE_assoc hc hb hd, ← addE_assoc ha hc (hb.add hd)]
theorem addE_cancel {x y : Nat × List Int} (hx : GE x) (hy : GE y) : addE (addE x y) y = x := by
  rw [addE_assoc hx hy hy, addE_self hy, addE_zero hx]
def rowv (r : S25) : Nat × List Int := (r.f0.toNat, r.f1)
/-- rows whose bytes are bytes -/
structure GR (l : List S25) : Prop where
  fine : ∀ x ∈ l, fineB x.f0 x.f1 = true
  rng : ∀ x ∈ l, ∀ b ∈ x.f1, isB b
theorem GR.row {l : List S25} (h : GR l) {r : S25} (hr : r ∈ l) : GE (rowv r) := by
  have := fine_spec (h.fine r hr)
  exact ⟨by show r.f0.toNat < 65536; omega, this.2.2, h.rng r hr⟩
theorem GR.lead {l : List S25} (h : GR l) {r : S25} (hr : r ∈ l) : ∃ j, j < 16 ∧ H.lead r.f0.toNat = 2 ^ j ∧ r.f0.toNat.testBit j = true := by
  have := fine_spec (h.fine r hr)
  obtain ⟨j, h1, h2, h3, h4⟩ := lead_spec r.f0.toNat (by omega) (by omega)
  exact ⟨j, h1, h2, top_bit h3 h4⟩
theorem GR.tail {l : List S25} {r : S25} (h : GR (r :: l)) : GR l := ⟨fun x hx => h.fine x (by simp [hx]), fun x hx => h.rng x (by simp [hx])⟩
theorem stepS_eq (x : Nat × List Int) (r : S25) {j : Nat} (hj : H.lead r.f0.toNat = 2 ^ j) : stepS x r = if x.1.testBit j = true then addE x (rowv r) else x := by
  unfold stepS
  rw [hj, and_two_pow]
  by_cases h : x.1.testBit j = true
  · rw [if_pos h, if_pos h, if_pos (by have := Nat.two_pow_pos j; omega)]
    rfl
  · rw [if_neg h, if_neg h, if_neg (by simp)]
theorem stepS_ge {x : Nat × List Int} {r : S25} (hx : GE x) (hr : GE (rowv r)) {j : Nat} (hj : H.lead r.f0.toNat = 2 ^ j) : GE (stepS x r) := by
  rw [stepS_eq x r hj]
  split
  · exact hx.add hr
  · exact hx
theorem stepS_lin {x y : Nat × List Int} {r : S25} (hx : GE x) (hy : GE y) (hr : GE (rowv r)) {j : Nat} (hj : H.lead r.f0.toNat = 2 ^ j) : stepS (addE x y) r = addE (stepS x r) (stepS y r) := by
  rw [stepS_eq _ r hj, stepS_eq x r hj, stepS_eq y r hj]
  have hb : (addE x y).1.testBit j = (x.1.testBit j ^^ y.1.testBit j) := Nat.testBit_xor _ _ _
  cases h1 : x.1.testBit j <;> cases h2 : y.1.testBit j
  · rw [if_neg (by rw [hb, h1, h2]; simp), if_neg (by simp), if_neg (by simp)]
  · rw [if_pos (by rw [hb, h1, h2]; simp), if_neg (by simp), if_pos (by simp)]
    exact addE_assoc hx hy hr
  · rw [if_pos (by rw [hb, h1, h2]; simp), if_pos (by simp), if_neg (by simp)]
    rw [addE_assoc hx hy hr, addE_comm hy hr, ← addE_assoc hx hr hy]
  · rw [if_neg (by rw [hb, h1, h2]; simp), if_pos (by simp), if_pos (by simp)]
    rw [addE_four hx hr hy hr, addE_self hr, addE_zero (hx.add hy)]
theorem redS_ge {l : List S25} (hl : GR l) : ∀ {x : Nat × List Int}, GE x → GE (redS l x) := by
  induction l with
  | nil => intro x hx; exact hx
  | cons r l ih =>
    intro x hx
    obtain ⟨j, _, hj, _⟩ := hl.lead (List.mem_cons_self)
    exact ih hl.tail (stepS_ge hx (hl.row List.mem_cons_self) hj)
theorem redS_lin {l : List S25} (hl : GR l) : ∀ {x y : Nat × List Int}, GE x → GE y → redS l (addE x y) = addE (redS l x) (redS l y) := by
  induction l with
  | nil => intro x y hx hy; rfl
  | cons r l ih =>
    intro x y hx hy
    obtain ⟨j, _, hj, _⟩ := hl.lead (List.mem_cons_self)
    have hr := hl.row (r := r) List.mem_cons_self
    show redS l (stepS (addE x y) r) = addE (redS l (stepS x r)) (redS l (stepS y r))
    rw [stepS_lin hx hy hr hj]
    exact ih hl.tail (stepS_ge hx hr hj) (stepS_ge hy hr hj)
theorem sumS_eq {l : List S25} (hv : validS l = true) (m : Nat) (hm : m < 65536) : sumS l (m : Int) = if (redS l (m, z16)).1 ≠ 0 then ([], false) else ((redS l (m, z16)).2, true) := by
  unfold sumS; rw [if_neg (by rw [hv]; simp; omega)]; rfl
theorem mask_ge (m : Nat) (hm : m < 65536) : GE (m, z16) := ⟨hm, zeroE_ge.len, zeroE_ge.rng⟩
theorem GR.of_valid {l : List S25} (hv : validS l = true) (hr : ∀ x ∈ l, ∀ b ∈ x.f1, isB b) : GR l := ⟨((validS_iff l).1 hv).fine, hr⟩
/-- rows by pairs -/
theorem VP.pair {l : List S25} (h : VP l) : l.Pairwise (fun a b => b.f0.toNat &&& H.lead a.f0.toNat = 0 ∧ a.f0.toNat &&& H.lead b.f0.toNat = 0 ∧ H.lead a.f0.toNat > H.lead b.f0.toNat) := by
  rw [List.pairwise_iff_getElem]
  intro i j hi hj hij
  have hg : ∀ k (hk : k < l.length), at_ l k = l[k] := fun k hk => by
    unfold at_; rw [List.getD_eq_getElem?_getD, List.getElem?_eq_getElem hk]; rfl
  have h1 := h.red i j hi hj (by omega)
  have h2 := h.red j i hj hi (by omega)
  have h3 := List.pairwise_iff_getElem.1 h.desc i j (by simpa using hi) (by simpa using hj) hij
  simp only [L.mk, hg i hi, hg j hj] at h1 h2
  simp only [List.getElem_map] at h3
  exact ⟨h1, h2, h3⟩
theorem redS_id {l : List S25} (hl : GR l) : ∀ {x : Nat × List Int}, (∀ r ∈ l, x.1 &&& H.lead r.f0.toNat = 0) → redS l x = x := by
  induction l with
  | nil => intro x _; rfl
  | cons r l ih =>
    intro x h
    have h0 := h r List.mem_cons_self
    show redS l (stepS x r) = x
    have : stepS x r = x := by unfold stepS; rw [if_neg (by simpa using h0)]
    rw [this]
    exact ih hl.tail (fun s hs => h s (List.mem_cons_of_mem _ hs))
theorem and_xor_zero {a b c : Nat} (h1 : a &&& c = 0) (h2 : b &&& c = 0) : (a ^^^ b) &&& c = 0 := by
  rw [Nat.and_xor_distrib_right, h1, h2]
  rfl
theorem lead_two_pow (i : Nat) (hi : i < 16) : H.lead (2 ^ i) = 2 ^ i := by
  have h1 : 2 ^ i < 2 ^ 16 := Nat.pow_lt_pow_right (by omega) hi
  obtain ⟨j, hj, e, h2, h3⟩ := lead_spec (2 ^ i) (Nat.two_pow_pos i) (by omega)
  have a1 : j ≤ i := (Nat.pow_le_pow_iff_right (by omega)).1 h2
  have a2 : i < j + 1 := (Nat.pow_lt_pow_iff_right (by omega)).1 h3
  rw [e, show i = j by omega]
theorem desc_len : ∀ (L : List Nat) (n : Nat), L.Pairwise (· > ·) → (∀ x ∈ L, x < n) → L.length ≤ n
  | [], _, _, _ => by simp
  | a :: L, n, hp, h => by
    rw [List.pairwise_cons] at hp
    have h1 := desc_len L a hp.2 (fun x hx => hp.1 x hx)
    have h2 := h a List.mem_cons_self
    simp only [List.length_cons]
    omega
theorem desc_full : ∀ (L : List Nat) (n : Nat), L.Pairwise (· > ·) → (∀ x ∈ L, x < n) → L.length = n → ∀ i, i < n → i ∈ L
  | [], n, _, _, hl, i, hi => by simp at hl; omega
  | a :: L, n, hp, h, hl, i, hi => by
    rw [List.pairwise_cons] at hp
    have h1 := desc_len L a hp.2 (fun x hx => hp.1 x hx)
    have h2 := h a List.mem_cons_self
    simp only [List.length_cons] at hl
    by_cases e : i = a
    · rw [e]; exact List.mem_cons_self
    · exact List.mem_cons_of_mem _ (desc_full L a hp.2 (fun x hx => hp.1 x hx) (by omega) i (by omega))
def expo (r : S25) : Nat := Nat.log2 (H.lead r.f0.toNat)
theorem expo_spec {l : List S25} (hl : GR l) {r : S25} (hr : r ∈ l) : expo r < 16 ∧ H.lead r.f0.toNat = 2 ^ expo r := by
  obtain ⟨j, hj, e, _⟩ := hl.lead hr
  unfold expo
  rw [e, Nat.log2_two_pow]
  exact ⟨hj, rfl⟩
theorem expo_desc {l : List S25} (hl : GR l) (hv : VP l) : (l.map expo).Pairwise (· > ·) := by
  have h := hv.pair
  rw [List.pairwise_map]
  refine List.Pairwise.imp_of_mem ?_ h
  intro a b ha hb hab
  have h1 := (expo_spec hl ha).2
  have h2 := (expo_spec hl hb).2
  have h3 := hab.2.2
  rw [h1, h2] at h3
  exact (Nat.pow_lt_pow_iff_right (by omega)).1 h3
theorem len16 {l : List S25} (hl : GR l) (hv : VP l) : l.length ≤ 16 := by
  have := desc_len (l.map expo) 16 (expo_desc hl hv) (fun x hx => by
    obtain ⟨r, hr, rfl⟩ := List.mem_map.1 hx
    exact (expo_spec hl hr).1)
  simpa using this
theorem all16 {l : List S25} (hl : GR l) (hv : VP l) (h16 : l.length = 16) (i : Nat) (hi : i < 16) : ∃ r ∈ l, r.f0.toNat = 2 ^ i := by
  have hfull : ∀ j, j < 16 → ∃ r ∈ l, H.lead r.f0.toNat = 2 ^ j := by
    intro j hj
    have := desc_full (l.map expo) 16 (expo_desc hl hv) (fun x hx => by
      obtain ⟨r, hr, rfl⟩ := List.mem_map.1 hx
      exact (expo_spec hl hr).1) (by simpa using h16) j hj
    obtain ⟨r, hr, e⟩ := List.mem_map.1 this
    exact ⟨r, hr, by rw [(expo_spec hl hr).2, e]⟩
  obtain ⟨r, hr, e⟩ := hfull i hi
  refine ⟨r, hr, ?_⟩
  obtain ⟨a, ha, rfl⟩ := at_mem hr
  have hfin := fine_spec (hl.fine _ hr)
  apply Nat.eq_of_testBit_eq
  intro j
  rw [Nat.testBit_two_pow]
  by_cases hij : i = j
  · subst hij
    obtain ⟨j2, _, e2, hb⟩ := hl.lead hr
    rw [e] at e2
    rw [(Nat.pow_right_inj (show 1 < 2 by omega)).1 e2]
    simpa using hb
  · simp only [hij, decide_false]
    by_cases hj : j < 16
    · obtain ⟨s, hs, e2⟩ := hfull j hj
      obtain ⟨b, hb, rfl⟩ := at_mem hs
      have hab : b ≠ a := by
        rintro rfl
        rw [e] at e2
        exact hij ((Nat.pow_right_inj (show 1 < 2 by omega)).1 e2)
      have h := hv.red b a hb ha hab
      have h2 : (at_ l a).f0.toNat &&& H.lead (at_ l b).f0.toNat = 0 := h
      rw [e2, and_two_pow] at h2
      by_cases ht : (at_ l a).f0.toNat.testBit j = true
      · rw [if_pos ht] at h2
        have := Nat.two_pow_pos j
        omega
      · simpa using ht
    · refine Nat.testBit_lt_two_pow (Nat.lt_of_lt_of_le (show (at_ l a).f0.toNat < 2 ^ 16 by omega) (Nat.pow_le_pow_right (by omega) (by omega)))
/-- what is reduced has no lead bit of the rows -/
theorem redS_clear {l : List S25} (hl : GR l) (hv : VP l) : ∀ {x : Nat × List Int}, GE x → ∀ r ∈ l, (redS l x).1 &&& H.lead r.f0.toNat = 0 := by
  have key : ∀ (p q : List S25), l = p ++ q → ∀ {x : Nat × List Int}, GE x → (∀ r ∈ p, x.1 &&& H.lead r.f0.toNat = 0) → ∀ r ∈ l, (redS q x).1 &&& H.lead r.f0.toNat = 0 := by
    intro p q
    induction q generalizing p with
    | nil =>
      intro e x hx hp r hr
      rw [e, List.append_nil] at hr
      exact hp r hr
    | cons s q ih =>
      intro e x hx hp
      have hs : s ∈ l := by rw [e]; simp
      obtain ⟨j, _, hj, hb⟩ := hl.lead hs
      have hpair := hv.pair
      rw [e, List.pairwise_append, List.pairwise_cons] at hpair
      obtain ⟨_, _, hpq⟩ := hpair
      refine ih (p ++ [s]) (by rw [e]; simp) (stepS_ge hx (hl.row hs) hj) (fun r hr => ?_)
      rw [stepS_eq x s hj]
      rcases List.mem_append.1 hr with hr | hr
      · have h1 := hp r hr
        have h2 := (hpq r hr s List.mem_cons_self).1
        split
        · exact and_xor_zero h1 h2
        · exact h1
      · rw [List.mem_singleton.1 hr, hj]
        split
        · rename_i hbit
          show (x.1 ^^^ s.f0.toNat) &&& 2 ^ j = 0
          rw [and_two_pow, if_neg]
          rw [Nat.testBit_xor, hbit, hb]
          simp
        · rename_i hbit
          rw [and_two_pow, if_neg hbit]
  intro x hx r hr
  exact key [] l rfl hx (by simp) r hr
/-- sums of rows -/
inductive Sp (l : List S25) : Nat × List Int → Prop
  | zero : Sp l zeroE
  | add {y : Nat × List Int} {r : S25} : Sp l y → r ∈ l → Sp l (addE y (rowv r))
theorem Sp.ge {l : List S25} (hl : GR l) {y : Nat × List Int} (h : Sp l y) : GE y := by
  induction h with
  | zero => exact zeroE_ge
  | add _ hr ih => exact ih.add (hl.row hr)
theorem Sp.sum {l : List S25} (hl : GR l) {y z : Nat × List Int} (hy : Sp l y) (hz : Sp l z) : Sp l (addE y z) := by
  induction hz with
  | zero => rw [addE_zero (hy.ge hl)]; exact hy
  | add hz hr ih => rw [← addE_assoc (hy.ge hl) (hz.ge hl) (hl.row hr)]; exact Sp.add ih hr
theorem Sp.row {l : List S25} (hl : GR l) {r : S25} (hr : r ∈ l) : Sp l (rowv r) := by
  have := Sp.add (Sp.zero (l := l)) hr
  rwa [zero_addE (hl.row hr)] at this
theorem Sp.of {l l' : List S25} (hl : GR l) (hl' : GR l') (h : ∀ r ∈ l, Sp l' (rowv r)) {y : Nat × List Int} (hy : Sp l y) : Sp l' y := by
  induction hy with
  | zero => exact Sp.zero
  | add _ hr ih => exact ih.sum hl' (h _ hr)
theorem ins_true (e : Nat × List Int) : ∀ (l acc : List S25), l.foldl (insStep e) (acc, true) = (acc ++ l.map (mixE e), true)
  | [], acc => by simp
  | r :: l, acc => by
    have : insStep e (acc, true) r = (acc ++ [mixE e r], true) := by unfold insStep; rw [if_neg (fun h => by cases h.1)]
    rw [List.foldl_cons, this, ins_true e l]
    simp
theorem ins_split (e : Nat × List Int) : ∀ (l acc : List S25), (l.map (fun x => H.lead x.f0.toNat)).Pairwise (· > ·) →
    ∃ p q, l = p ++ q ∧ (∀ r ∈ p, ¬ H.lead r.f0.toNat < H.lead e.1) ∧ (∀ r ∈ q, H.lead r.f0.toNat < H.lead e.1) ∧
      (if (l.foldl (insStep e) (acc, false)).2 = true then (l.foldl (insStep e) (acc, false)).1 else (l.foldl (insStep e) (acc, false)).1 ++ [rowE e]) = acc ++ (p.map (mixE e) ++ rowE e :: q.map (mixE e))
  | [], acc, _ => ⟨[], [], rfl, by simp, by simp, by simp⟩
  | r :: l, acc, hd => by
    simp only [List.map_cons, List.pairwise_cons] at hd
    by_cases hlt : H.lead r.f0.toNat < H.lead e.1
    · refine ⟨[], r :: l, rfl, by simp, fun s hs => ?_, ?_⟩
      · rcases List.mem_cons.1 hs with rfl | hs
        · exact hlt
        · exact Nat.lt_trans (hd.1 _ (List.mem_map.2 ⟨s, hs, rfl⟩)) hlt
      · have : insStep e (acc, false) r = (acc ++ [rowE e, mixE e r], true) := by unfold insStep; rw [if_pos ⟨rfl, hlt⟩]
        rw [List.foldl_cons, this, ins_true]
        simp
    · obtain ⟨p, q, h1, h2, h3, h4⟩ := ins_split e l (acc ++ [mixE e r]) hd.2
      have : insStep e (acc, false) r = (acc ++ [mixE e r], false) := by unfold insStep; rw [if_neg (fun h => hlt h.2)]
      refine ⟨r :: p, q, by rw [h1]; rfl, fun s hs => ?_, h3, ?_⟩
      · rcases List.mem_cons.1 hs with rfl | hs
        · exact hlt
        · exact h2 s hs
      · rw [List.foldl_cons, this, h4]
        simp
theorem insS_split (e : Nat × List Int) {l : List S25} (hv : VP l) : ∃ p q, l = p ++ q ∧ (∀ r ∈ p, ¬ H.lead r.f0.toNat < H.lead e.1) ∧ (∀ r ∈ q, H.lead r.f0.toNat < H.lead e.1) ∧ insS e l = p.map (mixE e) ++ rowE e :: q.map (mixE e) := by
  obtain ⟨p, q, h1, h2, h3, h4⟩ := ins_split e l [] hv.desc
  rw [List.nil_append] at h4
  exact ⟨p, q, h1, h2, h3, h4⟩
def Pr (a b : S25) : Prop := b.f0.toNat &&& H.lead a.f0.toNat = 0 ∧ a.f0.toNat &&& H.lead b.f0.toNat = 0 ∧ H.lead a.f0.toNat > H.lead b.f0.toNat
theorem VP.of_pair {l : List S25} (hf : ∀ x ∈ l, fineB x.f0 x.f1 = true) (hp : l.Pairwise Pr) : VP l := by
  have hg : ∀ k (hk : k < l.length), at_ l k = l[k] := fun k hk => by
    unfold at_; rw [List.getD_eq_getElem?_getD, List.getElem?_eq_getElem hk]; rfl
  refine ⟨hf, ?_, fun i k hi hk hne => ?_⟩
  · rw [List.pairwise_map]
    exact hp.imp (fun h => h.2.2)
  · simp only [L.mk, hg i hi, hg k hk]
    rcases Nat.lt_or_gt_of_ne hne with h | h
    · exact (List.pairwise_iff_getElem.1 hp i k hi hk h).1
    · exact (List.pairwise_iff_getElem.1 hp k i hk hi h).2.1
theorem lead_unique {m j : Nat} (h1 : 2 ^ j ≤ m) (h2 : m < 2 ^ (j + 1)) (hm : m < 65536) : H.lead m = 2 ^ j := by
  obtain ⟨i, _, e, h3, h4⟩ := lead_spec m (by have := Nat.two_pow_pos j; omega) hm
  have a1 : i < j + 1 := (Nat.pow_lt_pow_iff_right (show 1 < 2 by omega)).1 (Nat.lt_of_le_of_lt h3 h2)
  have a2 : j < i + 1 := (Nat.pow_lt_pow_iff_right (show 1 < 2 by omega)).1 (Nat.lt_of_le_of_lt h1 h4)
  rw [e, show i = j by omega]
/-- what a new equation must be -/
structure NE (l : List S25) (e : Nat × List Int) : Prop where
  ge : GE e
  ne : e.1 ≠ 0
  clear : ∀ r ∈ l, e.1 &&& H.lead r.f0.toNat = 0
theorem mixE_v (e : Nat × List Int) (r : S25) {j : Nat} (hj : H.lead e.1 = 2 ^ j) (hr : 0 ≤ r.f0) : rowv (mixE e r) = if r.f0.toNat.testBit j = true then (r.f0.toNat ^^^ e.1, xorD r.f1 e.2) else rowv r := by
  unfold mixE
  rw [hj, and_two_pow]
  by_cases h : r.f0.toNat.testBit j = true
  · rw [if_pos h, if_pos h, if_pos (by have := Nat.two_pow_pos j; omega)]
    rfl
  · rw [if_neg h, if_neg h, if_neg (by simp)]
theorem mix_lead {l : List S25} (hl : GR l) {e : Nat × List Int} (he : NE l e) {r : S25} (hr : r ∈ l) : H.lead (mixE e r).f0.toNat = H.lead r.f0.toNat ∧ GE (rowv (mixE e r)) ∧ 1 ≤ (mixE e r).f0 ∧ (mixE e r).f0 < 65536 := by
  have hf := fine_spec (hl.fine r hr)
  obtain ⟨j, hj16, hj, h2, h3⟩ := lead_spec e.1 (by have := he.ne; omega) he.ge.m
  obtain ⟨i, hi16, hi, h4, h5⟩ := lead_spec r.f0.toNat (by omega) (by omega)
  have hv := mixE_v e r hj (by omega)
  by_cases hb : r.f0.toNat.testBit j = true
  · rw [if_pos hb] at hv
    have hm : (mixE e r).f0 = ((r.f0.toNat ^^^ e.1 : Nat) : Int) := by
      unfold mixE
      rw [hj, and_two_pow, if_pos hb, if_pos (by have := Nat.two_pow_pos j; omega)]
    have hji : j ≠ i := by
      rintro rfl
      have hc := he.clear r hr
      rw [hi, and_two_pow, if_pos (top_bit h2 h3)] at hc
      have := Nat.two_pow_pos j
      omega
    have hlt : j < i := by
      rcases Nat.lt_or_gt_of_ne hji with h | h
      · exact h
      · have := Nat.testBit_lt_two_pow (x := r.f0.toNat) (i := j) (Nat.lt_of_lt_of_le h5 (Nat.pow_le_pow_right (by omega) (by omega)))
        rw [this] at hb
        cases hb
    have hei : e.1 < 2 ^ i := Nat.lt_of_lt_of_le h3 (Nat.pow_le_pow_right (by omega) (by omega))
    have hx1 : (r.f0.toNat ^^^ e.1) < 2 ^ (i + 1) := Nat.xor_lt_two_pow h5 (Nat.lt_of_lt_of_le hei (Nat.pow_le_pow_right (by omega) (by omega)))
    have hx2 : 2 ^ i ≤ (r.f0.toNat ^^^ e.1) := by
      refine Nat.ge_two_pow_of_testBit ?_
      rw [Nat.testBit_xor, top_bit h4 h5, Nat.testBit_lt_two_pow hei]
      rfl
    have hx3 : (r.f0.toNat ^^^ e.1) < 65536 := by
      have := Nat.xor_lt_two_pow (n := 16) (x := r.f0.toNat) (y := e.1) (by omega) (by have := he.ge.m; omega)
      omega
    have hp := Nat.two_pow_pos i
    refine ⟨?_, ?_, by omega, by omega⟩
    · rw [hm, Int.toNat_natCast, hi]
      exact lead_unique hx2 hx1 hx3
    · rw [hv]
      exact (hl.row hr).add he.ge
  · rw [if_neg hb] at hv
    have hm : mixE e r = r := by
      unfold mixE
      rw [hj, and_two_pow, if_neg hb, if_neg (by simp)]
    rw [hm]
    exact ⟨rfl, hl.row hr, hf.1, hf.2.1⟩
theorem NE.lead {l : List S25} {e : Nat × List Int} (he : NE l e) : ∃ j, j < 16 ∧ H.lead e.1 = 2 ^ j ∧ e.1.testBit j = true := by
  obtain ⟨j, hj16, hj, h2, h3⟩ := lead_spec e.1 (by have := he.ne; omega) he.ge.m
  exact ⟨j, hj16, hj, top_bit h2 h3⟩
theorem mix_mask {l : List S25} (hl : GR l) {e : Nat × List Int} (he : NE l e) {r : S25} (hr : r ∈ l) : (mixE e r).f0.toNat = if r.f0.toNat &&& H.lead e.1 ≠ 0 then r.f0.toNat ^^^ e.1 else r.f0.toNat := by
  unfold mixE
  split
  · rw [Int.toNat_natCast]
  · rfl
theorem mix_and {l : List S25} (hl : GR l) {e : Nat × List Int} (he : NE l e) {r : S25} (hr : r ∈ l) {c : Nat} (h1 : r.f0.toNat &&& c = 0) (h2 : e.1 &&& c = 0) : (mixE e r).f0.toNat &&& c = 0 := by
  rw [mix_mask hl he hr]
  split
  · exact and_xor_zero h1 h2
  · exact h1
theorem mix_clear {l : List S25} (hl : GR l) {e : Nat × List Int} (he : NE l e) {r : S25} (hr : r ∈ l) : (mixE e r).f0.toNat &&& H.lead e.1 = 0 := by
  obtain ⟨j, _, hj, hb⟩ := he.lead
  rw [mix_mask hl he hr]
  by_cases h : r.f0.toNat &&& H.lead e.1 = 0
  · rw [if_neg (fun h2 => h2 h)]; exact h
  · rw [if_pos h]
    rw [hj, and_two_pow] at h ⊢
    have hrb : r.f0.toNat.testBit j = true := by
      by_cases h3 : r.f0.toNat.testBit j = true
      · exact h3
      · rw [if_neg h3] at h; exact absurd rfl h
    rw [if_neg]
    rw [Nat.testBit_xor, hrb, hb]
    simp
theorem ne_lead {l : List S25} {e : Nat × List Int} (he : NE l e) {r : S25} (hr : r ∈ l) : H.lead r.f0.toNat ≠ H.lead e.1 := by
  intro h
  obtain ⟨j, _, hj, hb⟩ := he.lead
  have hc := he.clear r hr
  rw [h, hj, and_two_pow, if_pos hb] at hc
  have := Nat.two_pow_pos j
  omega
theorem fineB_of {x : S25} (h1 : 1 ≤ x.f0) (h2 : x.f0 < 65536) (h3 : x.f1.length = 16) : fineB x.f0 x.f1 = true := by
  unfold fineB
  simp [h1, h2, h3]
theorem insS_ok {l : List S25} (hl : GR l) (hv : VP l) {e : Nat × List Int} (he : NE l e) : VP (insS e l) ∧ GR (insS e l) ∧ (insS e l).length = l.length + 1 := by
  obtain ⟨p, q, hpq, hp, hq, hins⟩ := insS_split e hv
  have hsubp : ∀ r ∈ p, r ∈ l := fun r hr => by rw [hpq]; simp [hr]
  have hsubq : ∀ r ∈ q, r ∈ l := fun r hr => by rw [hpq]; simp [hr]
  have hmem : ∀ x ∈ insS e l, x = rowE e ∨ ∃ r ∈ l, x = mixE e r := by
    intro x hx
    rw [hins] at hx
    rcases List.mem_append.1 hx with h | h
    · obtain ⟨r, hr, rfl⟩ := List.mem_map.1 h
      exact .inr ⟨r, hsubp r hr, rfl⟩
    · rcases List.mem_cons.1 h with h | h
      · exact .inl h
      · obtain ⟨r, hr, rfl⟩ := List.mem_map.1 h
        exact .inr ⟨r, hsubq r hr, rfl⟩
  have hfine : ∀ x ∈ insS e l, fineB x.f0 x.f1 = true := by
    intro x hx
    rcases hmem x hx with rfl | ⟨r, hr, rfl⟩
    · have := he.ne
      have := he.ge.m
      exact fineB_of (by show (1 : Int) ≤ (e.1 : Int); omega) (by show (e.1 : Int) < 65536; omega) he.ge.len
    · obtain ⟨_, hg, h1, h2⟩ := mix_lead hl he hr
      exact fineB_of h1 h2 hg.len
  have hpair := hv.pair
  rw [hpq, List.pairwise_append] at hpair
  obtain ⟨hpp, hqq, hcross⟩ := hpair
  have hmm : ∀ a ∈ l, ∀ b ∈ l, (b.f0.toNat &&& H.lead a.f0.toNat = 0 ∧ a.f0.toNat &&& H.lead b.f0.toNat = 0 ∧ H.lead a.f0.toNat > H.lead b.f0.toNat) → Pr (mixE e a) (mixE e b) := by
    intro a ha b hb ⟨h1, h2, h3⟩
    have la := (mix_lead hl he ha).1
    have lb := (mix_lead hl he hb).1
    refine ⟨?_, ?_, by rw [la, lb]; exact h3⟩
    · rw [la]; exact mix_and hl he hb h1 (he.clear a ha)
    · rw [lb]; exact mix_and hl he ha h2 (he.clear b hb)
  have hrow : (rowE e).f0.toNat = e.1 := Int.toNat_natCast _
  have hP : (insS e l).Pairwise Pr := by
    rw [hins, List.pairwise_append, List.pairwise_cons, List.pairwise_map, List.pairwise_map]
    refine ⟨?_, ⟨fun b hb => ?_, ?_⟩, fun a ha b hb => ?_⟩
    · exact hpp.imp_of_mem (fun ha hb h => hmm _ (hsubp _ ha) _ (hsubp _ hb) h)
    · obtain ⟨r, hr, rfl⟩ := List.mem_map.1 hb
      have lr := (mix_lead hl he (hsubq r hr)).1
      refine ⟨?_, ?_, ?_⟩
      · rw [hrow]; exact mix_clear hl he (hsubq r hr)
      · rw [hrow, lr]; exact he.clear r (hsubq r hr)
      · rw [hrow, lr]; exact hq r hr
    · exact hqq.imp_of_mem (fun ha hb h => hmm _ (hsubq _ ha) _ (hsubq _ hb) h)
    · obtain ⟨r, hr, rfl⟩ := List.mem_map.1 ha
      have lr := (mix_lead hl he (hsubp r hr)).1
      rcases List.mem_cons.1 hb with rfl | hb
      · refine ⟨?_, ?_, ?_⟩
        · rw [hrow, lr]; exact he.clear r (hsubp r hr)
        · rw [hrow]; exact mix_clear hl he (hsubp r hr)
        · rw [hrow, lr]
          have h1 := hp r hr
          have h2 := ne_lead he (hsubp r hr)
          omega
      · obtain ⟨s, hs, rfl⟩ := List.mem_map.1 hb
        exact hmm _ (hsubp r hr) _ (hsubq s hs) (hcross r hr s hs)
  refine ⟨VP.of_pair hfine hP, ⟨hfine, fun x hx => ?_⟩, ?_⟩
  · rcases hmem x hx with rfl | ⟨r, hr, rfl⟩
    · exact he.ge.rng
    · exact (mix_lead hl he hr).2.1.rng
  · rw [hins, hpq]
    simp
    omega
/-- the rows behind an insertion: which they are -/
theorem insS_mem {l : List S25} (hv : VP l) (e : Nat × List Int) : rowE e ∈ insS e l ∧ (∀ r ∈ l, mixE e r ∈ insS e l) ∧ (∀ x ∈ insS e l, x = rowE e ∨ ∃ r ∈ l, x = mixE e r) := by
  obtain ⟨p, q, hpq, _, _, hins⟩ := insS_split e hv
  rw [hins]
  refine ⟨by simp, fun r hr => ?_, fun x hx => ?_⟩
  · rw [hpq] at hr
    rcases List.mem_append.1 hr with h | h
    · exact List.mem_append.2 (.inl (List.mem_map.2 ⟨r, h, rfl⟩))
    · exact List.mem_append.2 (.inr (List.mem_cons_of_mem _ (List.mem_map.2 ⟨r, h, rfl⟩)))
  · rcases List.mem_append.1 hx with h | h
    · obtain ⟨r, hr, rfl⟩ := List.mem_map.1 h
      exact .inr ⟨r, by rw [hpq]; simp [hr], rfl⟩
    · rcases List.mem_cons.1 h with h | h
      · exact .inl h
      · obtain ⟨r, hr, rfl⟩ := List.mem_map.1 h
        exact .inr ⟨r, by rw [hpq]; simp [hr], rfl⟩
theorem rowE_v (e : Nat × List Int) : rowv (rowE e) = e := pair_ext (Int.toNat_natCast _) rfl
theorem mixE_or {l : List S25} (hl : GR l) {e : Nat × List Int} (he : NE l e) {r : S25} (hr : r ∈ l) : rowv (mixE e r) = addE (rowv r) e ∨ rowv (mixE e r) = rowv r := by
  obtain ⟨j, _, hj, _⟩ := he.lead
  have hf := fine_spec (hl.fine r hr)
  rw [mixE_v e r hj (by omega)]
  split
  · exact .inl rfl
  · exact .inr rfl
theorem data_ge {d : List Int} (h1 : d.length = 16) (h2 : ∀ b ∈ d, isB b) : GE (0, d) := ⟨by show (0 : Nat) < 65536; omega, h1, h2⟩
theorem redS_data {l : List S25} (hl : GR l) (d : List Int) : redS l (0, d) = (0, d) := redS_id hl (fun r _ => Nat.zero_and _)
theorem split_eq (m : Nat) (hm : m < 65536) {d : List Int} (h1 : d.length = 16) (h2 : ∀ b ∈ d, isB b) : (m, d) = addE (m, z16) (0, d) := by
  refine pair_ext (Nat.xor_zero _).symm ?_
  exact (congrArg Prod.snd (zero_addE (data_ge h1 h2))).symm
theorem redS_split {l : List S25} (hl : GR l) (m : Nat) (hm : m < 65536) {d : List Int} (h1 : d.length = 16) (h2 : ∀ b ∈ d, isB b) : redS l (m, d) = addE (redS l (m, z16)) (0, d) := by
  have := redS_lin hl (x := (m, z16)) (y := (0, d)) ⟨hm, zeroE_ge.len, zeroE_ge.rng⟩ (data_ge h1 h2)
  rw [← split_eq m hm h1 h2, redS_data hl] at this
  exact this
theorem addE_eq_zero {x y : Nat × List Int} (hx : GE x) (hy : GE y) (h : addE x y = zeroE) : x = y := by
  have := addE_cancel hx hy
  rw [h, zero_addE hy] at this
  exact this.symm
end Go.Proofs.YtknlbeojdmeljaaDoor.L
namespace Go.Proofs.YtknlbeojdmeljaaDoor.H
open Go.RowKit Go.Proofs.YtknlbeojdmeljaaDoorW.PrintWords Go.Proofs.YtknlbeojdmeljaaDoorW.PrintLast Go.Proofs.YtknlbeojdmeljaaDoorW.PrintMore Go.Proofs.YtknlbeojdmeljaaDoor.P
set_option linter.unusedVariables false
set_option linter.unusedSimpArgs false
theorem below_put {B l : Nat} {A : World} {o : Obj} (o' : Obj) (hB : B ≤ l) (h : A.heap[l]? = some o) : Below B A (A.putObj l o') :=
  (Below.refl B A).grown (grownBy_putObj' A l o') (by have := (Array.getElem?_eq_some_iff.1 h).1; omega) (fun k e => by cases e; omega)
def onceP (B : Nat) (Ix : World → Prop) (W : World) : Exit → Act → World → Prop
  | .ret, _, W' => KeepsFrom B W W' ∧ Ix W'
  | _, _, _ => False
section
variable {F : Fence} {n : Nat} {P : Program}
/-- A range over a function whose body returns in its first round: the iterator's contract speaks of that round alone. -/
theorem range_once {g : Operand} {ps : Array Tmp} {assign body : Code} {Q : Exit → Act → World → Prop} {a : Act} {w : World}
    (hro : F.round = none) (h1 : 1 ≤ n) {gf : Nat} {lb : Array Value} (hg : a.eval g = .func (.func gf) #[] lb) (hFg : F.fn gf) (eg : ∀ args w, (callFunc gf args).run P w = .ok (.enter gf args) w)
    {args : Array Value} (hps : args.size = ps.size) (Bs : Nat) (hBs : Bs < w.heap.size) (I Ix : World → Prop)
    (hI : ∀ A B : World, I A → Below Bs A B → I B) (hIx : ∀ A B : World, Ix A → Below Bs A B → Ix B) (h0 : I w)
    (hseq : ∀ (l : Nat) (J Jx : World → Prop) (W : World), Below w.heap.size w W → (∀ A B : World, J A → Below Bs A B → (∀ (k : Nat) (o : Obj), A.heap[k]? = some o → o.isCells = false → B.heap[k]? = some o) → J B) →
      (∀ W', J W' → YieldAt F (n - 1 - 1) P l args W' fun e W'' => e = .returned (.bool false) ∧ Jx W'') → J W → CallsIn F (n - 1) P gf (#[.func (.yield l) #[] #[]] ++ lb) W fun e W' => (∃ v, e = .returned v) ∧ Jx W')
    (a₁ : Act) (hassign : ∀ (l : Nat) (W : World) (K : Act → World → Prop), K a₁ W → assign.wpIn (F.inRound l) (n - 1 - 1) P (Exit.then K (fun _ _ _ => False)) { tmps := (ps.zip args).foldl (fun t (p, v) => t.setIfInBounds p v) a.tmps, defers := [] } W)
    (hbody : ∀ (l : Nat) (W : World), w.heap.size ≤ l → I W → body.wpIn (F.inRound l) (n - 1 - 1) P (onceP w.heap.size Ix W) a₁ W)
    (hstop : ∀ (D : Nat) (W : World), w.heap.size ≤ D → Ix W → W.heap[D]? = some (.deferred (some [])) → Code.ret.wpIn F n P Q { a with defers := { target := .collected D, args := #[] } :: a.defers } W) :
    (Code.rangeFunc g ps assign body).wpIn F n P Q a w := by
  refine wpIn_rangeFunc ?_
  intro fn hfn
  rw [hro]
  obtain ⟨rec, hrec⟩ : ∃ rec : LoopState → Option Code → Loop, rec = fun st pe => { state := st, pending := pe, fn, tmps := a.tmps, params := ps, assign, body, defers := w.heap.size } := ⟨_, rfl⟩
  obtain ⟨W1, hW1⟩ : ∃ W1, (w.alloc (.deferred (some []))).alloc (.loop (rec .ready none)) = W1 := ⟨_, rfl⟩
  have hL1 : W1.heap[w.heap.size + 1]? = some (.loop (rec .ready none)) := by
    rw [← hW1]; exact blk_new (by simp)
  have hK1 : W1.heap[w.heap.size]? = some (.deferred (some [])) := by
    rw [← hW1, Below.heap_alloc _ _ _ (by simp)]; exact blk_new rfl
  have hb1 : Below w.heap.size w W1 := by
    rw [← hW1]; exact ((Below.refl _ w).alloc (Nat.le_refl _) _).alloc (by simp) _
  refine ⟨w.heap.size + 1, [{ target := .collected w.heap.size, args := #[] }], W1, { target := .fn (.func gf) lb, args := #[.func (.yield (w.heap.size + 1)) #[] #[]] }, W1, gf,
    #[.func (.yield (w.heap.size + 1)) #[] #[]] ++ lb, W1, ?_, ?_, ?_, ?_, fun _ => h1, ?_⟩
  · rw [← hW1, hrec]; exact run_enterLoop_outer _ _ _ _ _
  · simp only [resolve, hg]
    simp [go_sem]
  · intro f' hf'; simp [Target.leads] at hf'; subst hf'; exact hFg
  · simp [invoke, go_sem, eg]
  refine (hseq (w.heap.size + 1) (fun W => I W ∧ W.heap[w.heap.size + 1]? = some (.loop (rec .ready none)) ∧ W.heap[w.heap.size]? = some (.deferred (some [])))
    (fun W => Ix W ∧ W.heap[w.heap.size + 1]? = some (.loop (rec .done (some .ret))) ∧ W.heap[w.heap.size]? = some (.deferred (some []))) W1 hb1
    (fun A B hA hb hk => ⟨hI A B hA.1 hb, hk _ _ hA.2.1 rfl, hk _ _ hA.2.2 rfl⟩) ?_ ⟨hI _ _ h0 (hb1.mono (by omega)), hL1, hK1⟩).mono ?_
  · rintro W ⟨hi, hl, hk⟩
    have hy := run_yield (P := P) (args := args) hl (by rw [hrec]; exact hps)
    rw [hrec] at hy
    refine ⟨fn, _, assign, body, hy, roundIn_of_wpIn hfn (hassign _ W _ ?_)⟩
    clear hy
    refine ⟨_, run_beginRound hl (by rw [hrec]), ?_⟩
    have hlt := (Array.getElem?_eq_some_iff.1 hl).1
    have hl2 : (W.putObj (w.heap.size + 1) (.loop { rec .ready none with state := .busy })).heap[w.heap.size + 1]? = some (.loop { rec .ready none with state := .busy }) := World.putObj_heap_same hlt
    have hk2 : (W.putObj (w.heap.size + 1) (.loop { rec .ready none with state := .busy })).heap[w.heap.size]? = some (.deferred (some [])) := (World.putObj_heap_other (by omega)).trans hk
    refine wpIn_mono (hbody _ _ (by omega) (hI _ _ hi (below_put _ (by omega) hl))) ?_
    rintro e a3 W3 hp
    cases e <;> first | exact hp.elim | skip
    obtain ⟨hk3, hi3⟩ := hp
    have hl3 := hk3.same _ _ (by omega) hl2 rfl
    have hd3 := hk3.same _ _ (Nat.le_refl _) hk2 rfl
    have hr := run_endRound (P := P) (some Code.ret) hl3
    have hlt3 := (Array.getElem?_eq_some_iff.1 hl3).1
    exact ⟨_, _, hr, rfl, hIx _ _ hi3 (below_put _ (by omega) hl3), by rw [World.putObj_heap_same hlt3, hrec]; rfl, (World.putObj_heap_other (by omega)).trans hd3⟩
  · rintro e W2 ⟨⟨v, rfl⟩, hi, hl, hk⟩
    exact ⟨some .ret, _, by have := run_endLoop (P := P) hl (by rw [hrec]; simp); rw [hrec] at this; exact this, hstop _ _ (Nat.le_refl _) (hIx _ _ hi (below_put _ (by omega) hl)) ((World.putObj_heap_other (by omega)).trans hk)⟩
end
end Go.Proofs.YtknlbeojdmeljaaDoor.H
namespace Go.Proofs.YtknlbeojdmeljaaDoor.H
open Go.RowKit Go.Proofs.YtknlbeojdmeljaaDoorW.PrintWords Go.Proofs.YtknlbeojdmeljaaDoorW.PrintLast Go.Proofs.YtknlbeojdmeljaaDoorW.PrintMore Go.Proofs.YtknlbeojdmeljaaDoor.P
set_option linter.unusedVariables false
set_option linter.unusedSimpArgs false
def KeepsJ (Bs : Nat) (J : World → Prop) : Prop := ∀ A B : World, J A → Below Bs A B → (∀ (k : Nat) (o : Obj), A.heap[k]? = some o → o.isCells = false → B.heap[k]? = some o) → J B
theorem KeepsJ.below {Bs : Nat} {J : World → Prop} (h : KeepsJ Bs J) {A B : World} (hA : J A) (hBs : Bs ≤ A.heap.size) (hb : Below A.heap.size A B) : J B :=
  h A B hA (hb.mono hBs) (fun k o hk _ => (hb.block k (Array.getElem?_eq_some_iff.1 hk).1).trans hk)
theorem KeepsJ.set {Bs : Nat} {J : World → Prop} (h : KeepsJ Bs J) {A : World} (hA : J A) {t : TypeId} {u : Value} (hb : Boxed A Bs t u) (z : Value) : J (A.setCell ⟨Bs, 0, none⟩ z) := by
  refine h A _ hA ((Below.refl Bs A).setCell (Nat.le_refl _) z) (fun k o hk ho => ?_)
  rw [Below.heap_setCell A ⟨Bs, 0, none⟩ z k ?_]
  · exact hk
  · rintro rfl
    have := hb
    unfold Boxed at this
    rw [hk] at this
    cases this
    cases ho
set_option maxRecDepth 100000 in
set_option maxHeartbeats 1000000 in
theorem halves_in (n l Bs : Nat) (s : Int) (J Jx : World → Prop) (W : World) (hb : Boxed W Bs 69 (.int .u64 s)) (ht : Tabs W) (h3 : 3 ≤ Bs) (hJ : KeepsJ Bs J)
    (hY : ∀ W', J W' → YieldAt Fence.wide (n - 1) Tryd.prog l #[.int .i64 (firstS s)] W' fun e W'' => e = .returned (.bool false) ∧ Jx W'') (h0 : J W) :
    CallsIn Fence.wide n Tryd.prog 66 #[.func (.yield l) #[] #[], .pointer (some ⟨Bs, 0, none⟩)] W fun e W' => (∃ v, e = .returned v) ∧ Jx W' := by
  have hro : Fence.wide.round = none := rfl
  have hcell := hb.cell
  have hfro := hb.frozen
  have hlt : Bs < W.heap.size := World.block_lt_of_cell? (a := ⟨Bs, 0, none⟩) _ hcell
  have HY := Lib.hid hY
  have HJ := Lib.hid hJ
  have HT := Lib.hid ht
  have HB := Lib.hid hb
  have H0 := Lib.hid h0
  have HX := Lib.hid (nextS_range s)
  clear hY hJ ht hb h0
  refine callsIn_of_wp Tryd.func66 rfl trivial ?_ hro
  simp only [Tryd.ntmps66, List.size_toArray, List.length_cons, List.length_nil, Nat.reduceAdd, Nat.reduceSub, Array.replicate_succ, Array.replicate_zero, List.push_toArray, List.append_toArray, List.nil_append, List.cons_append]
  gi_wp2_with (refine ⟨trivial, wide_depth, ?_⟩; refine (callsIn_wide.2 (next_calls s _ HT.out)).mono ?_; rintro e w2 ⟨rfl, hb2⟩; have HB2 := Lib.hid (boxed_block HB.out hb2); have HJ2 := Lib.hid (HJ.out.below H0.out (by omega) hb2); have c2 := HB2.out.cell; have f2 := HB2.out.frozen; clear hb2 hcell hfro)
  have HB3 := Lib.hid (HB2.out.set (.int .u64 (nextS s)))
  have HJ3 := Lib.hid (HJ.out.set HJ2.out HB2.out (.int .u64 (nextS s)))
  have c3 := HB3.out.cell
  have f3 := HB3.out.frozen
  obtain ⟨x, hx⟩ : ∃ x, x = nextS s := ⟨_, rfl⟩
  rw [← hx] at c3 f3 HB3 HJ3 HX
  have hf : firstS s = x / 4294967296 := by rw [hx]; rfl
  rw [hf] at HY
  have hx0 : 0 ≤ x / 4294967296 := by have := HX.out; omega
  have hx1 : x / 4294967296 < 4294967296 := by have := HX.out; omega
  rw [← hx]
  obtain ⟨W3, hW3⟩ : ∃ W3, W3 = w2.setCell ⟨Bs, 0, none⟩ (.int .u64 x) := ⟨_, rfl⟩
  rw [← hW3] at c3 f3 HB3 HJ3
  rw [← hW3]
  obtain ⟨fn, tmps, assign, body, hy, hR⟩ := HY.out W3 HJ3.out
  have HRR := Lib.hid hR
  clear hx hf hR hW3 c2 f2
  gi_loopw [6] (fun _ wr => wr = W3) (fun _ _ => 0)
  case atStart => rfl
  case round =>
    subst hrel
    gi_wp2
    refine ⟨wide_depth, HRR.out.mono ?_⟩
    rintro e W4 ⟨rfl, hJx⟩
    gi_wp2
    go_end0
    exact ⟨⟨_, rfl⟩, hJx⟩
theorem halves_calls (s : Int) (w : World) : Calls Tryd.prog 63 #[.int .u64 s] w fun e w' => e = .returned (.func (.func 66) #[] #[.pointer (some ⟨w.heap.size, 0, none⟩)]) ∧ w' = w.alloc (.cells #[.int .u64 s] 69) := by
  go_enter Tryd.func63, Tryd.ntmps63
  go_wp2
  go_ret
  exact ⟨rfl, rfl⟩
set_option maxRecDepth 100000 in
set_option maxHeartbeats 1000000 in
theorem first_calls (s : Int) (w : World) (ht : Tabs w) : Calls Tryd.prog 58 #[.int .u64 s] w fun e w' => e = .returned (.int .i64 (firstS s)) ∧ Below w.heap.size w w' := by
  have h3 := ht.lt
  have ht2 : Tabs ((w.alloc (.cells #[.int .i64 0] 3)).alloc (.cells #[.int .u64 s] 69)) := ht.keep (((Below.refl _ _).alloc (Nat.le_refl _) _).alloc (by simp) _)
  have HT := Lib.hid ht2
  clear ht ht2
  refine (callsIn_wide (n := 3)).1 (callsIn_of_wp_marks Tryd.func58 rfl trivial (wpIn_wide.2 ?_) rfl)
  simp only [Tryd.ntmps58, List.size_toArray, List.length_cons, List.length_nil, Nat.reduceAdd, Nat.reduceSub, Array.replicate_succ, Array.replicate_zero, List.push_toArray, List.append_toArray, List.nil_append, List.cons_append]
  go_wp2_with (go_at_call 63; refine (halves_calls _ _).mono ?_; rintro e w' ⟨rfl, rfl⟩)
  generalize hW0 : (w.alloc (.cells #[.int .i64 0] 3)).alloc (.cells #[.int .u64 s] 69) = W0
  have b2 : Boxed W0 w.heap.size 3 (.int .i64 0) := by rw [← hW0]; exact (Boxed.new w 3 (.int .i64 0)).alloc _
  have bs : Boxed W0 (w.heap.size + 1) 69 (.int .u64 s) := by rw [← hW0]; have h_ := Boxed.new (w.alloc (.cells #[.int .i64 0] 3)) 69 (.int .u64 s); rw [World.size_alloc] at h_; exact h_
  have hB0 : Below w.heap.size w W0 := by rw [← hW0]; exact ((Below.refl _ _).alloc (Nat.le_refl _) _).alloc (by simp) _
  have hsz : W0.heap.size = w.heap.size + 1 + 1 := by rw [← hW0]; simp
  rw [hW0] at HT
  clear hW0
  obtain ⟨fs, hfs⟩ : ∃ fs, fs = firstS s := ⟨_, rfl⟩
  have HFS := Lib.hid hfs
  clear hfs
  refine (wpIn_wide (n := 3)).1 (range_once (F := Fence.wide) (n := 3) rfl (by omega) (gf := 66) (lb := #[.pointer (some ⟨w.heap.size + 1, 0, none⟩)]) rfl trivial (enters_of Tryd.func66 (by kernel_rfl) rfl) (args := #[.int .i64 fs]) rfl (w.heap.size + 1) (by omega)
    (fun W => Below w.heap.size w W ∧ Boxed W w.heap.size 3 (.int .i64 0)) (fun W => Below w.heap.size w W ∧ Boxed W w.heap.size 3 (.int .i64 fs))
    (fun A B hA hb => ⟨hA.1.trans (hb.mono (by omega)), (hb.block _ (by omega)).trans hA.2⟩) (fun A B hA hb => ⟨hA.1.trans (hb.mono (by omega)), (hb.block _ (by omega)).trans hA.2⟩) ⟨hB0, b2⟩
    (fun l J Jx W hW hJ hY hJW => halves_in 2 l (w.heap.size + 1) s J Jx W ((hW.block _ (by omega)).trans bs) (HT.out.keep hW) (by omega) hJ (by rw [← HFS.out]; exact hY) hJW)
    { tmps := #[.int .u64 s, undef, .pointer (some ⟨w.heap.size, 0, none⟩), .int .i64 fs, .int .u64 s, .func (.func 66) #[] #[.pointer (some ⟨w.heap.size + 1, 0, none⟩)], .int .i64 fs, undef], defers := [] } ?assign ?body ?stop)
  case assign =>
    intro l W K hK
    have hout : ¬ LetsOut (Exit.then K (fun _ _ _ => False)) := fun ⟨_, _, h⟩ => h
    refine plain_in (by rfl) hout ?_
    simp only [List.zip_toArray, List.zip_cons_cons, List.zip_nil_right, List.foldl_toArray, List.foldl_cons, List.foldl_nil, List.setIfInBounds_toArray, List.set_cons_zero, List.set_cons_succ]
    go_wp2
    exact hK
  case body =>
    intro l W hl hI
    obtain ⟨hB, hb⟩ := hI
    have hc := hb.cell
    have hf := hb.frozen
    have HB := Lib.hid hb
    clear hb
    refine wpIn_block ?_
    refine wpIn_seq_k (fun K1 hK1 => ?_)
    refine plain_in (by rfl) (fun ⟨_, _, h⟩ => h) ?_
    go_wp2
    refine wpIn_ret ?_
    exact ⟨keeps_set HB.out _ _, hB.setCell (p := ⟨w.heap.size, 0, none⟩) (Nat.le_refl _) _, HB.out.set _⟩
  case stop =>
    rintro D W hD ⟨hB, hb⟩ hK
    refine wpIn_ret ?_
    refine ⟨by simp, .inl ⟨_, _, rfl, run_takeDeferred hK, ?_⟩⟩
    have b1 : Boxed (W.putObj D (.deferred none)) w.heap.size 3 (.int .i64 fs) := (World.putObj_heap_other (by omega)).trans hb
    have c1 := b1.cell
    refine ⟨.int .i64 fs, by simp [results, Tryd.results58, go_sem, c1], by rw [HFS.out], ?_⟩
    exact hB.trans (below_put _ (by omega) hK)
end Go.Proofs.YtknlbeojdmeljaaDoor.H
