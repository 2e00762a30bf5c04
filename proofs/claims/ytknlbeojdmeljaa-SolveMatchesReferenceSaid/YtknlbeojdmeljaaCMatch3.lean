-- cut by shake.py (own program) out of this session's texts
import Derived.Test.YtknlbeojdmeljaaCMatch2
namespace Go.Proofs.Ytknlbeojdmeljaa.P
open Go.RowKit Go.Proofs.YtknlbeojdmeljaaW.PrintWords Go.Proofs.YtknlbeojdmeljaaW.PrintLast Go.Proofs.YtknlbeojdmeljaaW.PrintMore
attribute [local go_sem] max2_int min2_int max_two min_two max_three min_three max_four min_four   -- for this text's walks alone
set_option linter.unusedVariables false
set_option linter.unusedSimpArgs false
mutual
def slotmeshref33_Add.j0 : Nat → List (S25) → Bool → Int → List Int → Option ((List (S25)) × Bool × Int)
  | 0, _, _, _, _ => none
  | k + 1, x0, x20, x205000, x205001 => if x20 = true then (some (([] : List (S25)), false, 1)) else ((slotmeshref33_reduce.f k x0 x205000 x205001).bind fun bt207 => (if bt207.1 = 0 then ((slotmeshref33_Zero.f k bt207.2).bind fun t212 => (if t212 = true then ((slotmeshref33_Copy.f k x0).bind fun t213 => (some (t213, false, 0))) else (some (([] : List (S25)), false, 12)))) else ((slotmeshref33_Leading.f k bt207.1).bind fun t216 => ((slotmeshref33_Copy.f k x0).bind fun t217 => (slotmeshref33_Add.l0 k t216 ([] : List (S25)) false t217 0 bt207.1 bt207.2)))))
def slotmeshref33_Add.l0 : Nat → Int → List (S25) → Bool → List (S25) → Int → Int → List Int → Option ((List (S25)) × Bool × Int)
  | 0, _, _, _, _, _, _, _ => none
  | k + 1, x8, x9, x10, x11, x12, x212000, x212001 => if x12 < (x11.length : Int) then (if x10 = true then (slotmeshref33_Add.j2 k x8 x9 x10 x11 x12 false x212000 x212001) else (if 0 ≤ x12 then ((slotmeshref33_Leading.f k ((rd_T25 x11 x12).f0)).bind fun t224 => (slotmeshref33_Add.j2 k x8 x9 x10 x11 x12 (decide (t224 < x8)) x212000 x212001)) else (none))) else (if x10 = true then (some (x9, true, 0)) else (if x9.length < 4398046511104 then (some ((x9 ++ [(⟨x212000, x212001⟩ : S25)]), true, 0)) else (none)))
def slotmeshref33_Add.j2 : Nat → Int → List (S25) → Bool → List (S25) → Int → Bool → Int → List Int → Option ((List (S25)) × Bool × Int)
  | 0, _, _, _, _, _, _, _, _ => none
  | k + 1, x8, x9, x10, x11, x12, x55, x212000, x212001 => if x55 = true then (if x9.length < 4398046511104 then (slotmeshref33_Add.j3 k x8 (x9 ++ [(⟨x212000, x212001⟩ : S25)]) true x11 x12 x212000 x212001) else (none)) else (slotmeshref33_Add.j3 k x8 x9 x10 x11 x12 x212000 x212001)
def slotmeshref33_Add.j3 : Nat → Int → List (S25) → Bool → List (S25) → Int → Int → List Int → Option ((List (S25)) × Bool × Int)
  | 0, _, _, _, _, _, _, _ => none
  | k + 1, x8, x9, x10, x11, x12, x212000, x212001 => if 0 ≤ x12 then (if x12 < (x11.length : Int) then (if (Go.bits .and .i64 ((rd_T25 x11 x12).f0) x8) = 0 then (if x9.length < 4398046511104 then (slotmeshref33_Add.l0 k x8 (x9 ++ [(⟨(rd_T25 x11 x12).f0, (rd_T25 x11 x12).f1⟩ : S25)]) x10 x11 (wrap64 (x12 + 1)) x212000 x212001) else (none)) else ((slotmeshref33_Xor.f k ((rd_T25 x11 x12).f1) x212001).bind fun t235 => ((some (x11.set (x12 : Int).toNat (⟨Go.bits .xor .i64 ((rd_T25 x11 x12).f0) x212000, t235⟩ : S25) : List (S25))).bind fun y238 => (if x9.length < 4398046511104 then (slotmeshref33_Add.l0 k x8 (x9 ++ [(⟨(rd_T25 y238 x12).f0, (rd_T25 y238 x12).f1⟩ : S25)]) x10 y238 (wrap64 (x12 + 1)) x212000 x212001) else (none))))) else (none)) else (none)
end
def slotmeshref33_Add.f (k : Nat) (l0 : List (S25)) (a1_0 : Int) (l1_1 : List Int) : Option ((List (S25)) × Bool × Int) := (slotmeshref33_Valid.f k l0).bind fun t205 => (if t205 = true then ((slotmeshref33_Formed.f a1_0 l1_1).bind fun t206 => (slotmeshref33_Add.j0 k l0 (!t206) a1_0 l1_1)) else (slotmeshref33_Add.j0 k l0 true a1_0 l1_1))
def slotmeshref33_Add.T19 : Bool × List (List Nat × List Nat) := (true, [([], []), ([], []), ([], []), ([], []), ([2, 3], [2, 3]), ([4], [4]), ([5], [5]), ([], []), ([7], [7]), ([6, 8], [6, 8]), ([], []), ([], []), ([10, 11], [10, 11]), ([12], [12]), ([13], [13]), ([], []), ([15], [15]), ([14, 16], [14, 16]), ([9, 17], [9, 17]), ([0, 1, 0, 1, 2, 3, 4, 5, 6, 7, 8, 9, 10, 11, 12, 13, 14, 15, 16, 17, 18], [0, 1]), ([19, 18, 17, 0, 1, 2, 3, 4, 5, 6, 7, 8, 9, 10, 11, 12, 13, 14, 15, 16, 17, 18], [18, 19])])
def slotmeshref33_Add.B19 : List Nat := [0, 0, 0, 0, 12, 28, 60, 0, 128, 508, 0, 0, 3072, 7168, 15360, 0, 32768, 130048, 262140, 524287, 1048575]
theorem slotmeshref33_Add.tab19 : rtab .any (opsOf Try.f13 19) = slotmeshref33_Add.T19 := by kernel_rfl
theorem slotmeshref33_Add.bits19 : waitsOk slotmeshref33_Add.T19.2 slotmeshref33_Add.B19 = true := by kernel_rfl
set_option maxHeartbeats 8000000 in
set_option maxRecDepth 100000 in
theorem slotmeshref33_Add.calls (k : Nat) (A0 : Option Addr) (c0 : Nat) (l0 : List (S25)) (a1_0 : Int) (P1_1_ : Nat → Prop) (A1_1 : Option Addr) (c1_1 : Nat) (l1_1 : List Int) (r1 : List (S25)) (r2 : Bool) (r3 : Int) (w : World) (hr0 : Kd.C k25 w A0 l0.length l0) (hc0 : l0.length ≤ c0) (hs1_1 : Kd.V (Kd.int .u8) 5 w w.heap.size (fun k_ => P1_1_ k_) (.slice A1_1 l1_1.length c1_1) l1_1) (h : slotmeshref33_Add.f k l0 a1_0 l1_1 = some (r1, r2, r3)) :
    Calls Try.prog 13 #[.slice A0 l0.length c0, .agg #[.int .i64 a1_0, .slice A1_1 l1_1.length c1_1]] w fun e w' => ∃ v0_ : Value, e = .returned (.tuple #[v0_, .bool r2, .int .i64 r3]) ∧ Kd.N k25 25 w' w.heap.size (fun k_ => (P1_1_ k_ ∨ w.heap.size ≤ k_)) v0_ r1 ∧ Below w.heap.size w w' := by
  have hu25 := Try.underlying25
  have HR0 := Aside0.mk hr0
  have HC0 := Aside0.mk hc0
  clear hr0 hc0
  have HO1_1 := Aside0.mk (show Kd.V (Kd.int .u8) 5 w w.heap.size (fun k_ => (P1_1_ k_ ∨ w.heap.size ≤ k_)) (.slice A1_1 l1_1.length c1_1) l1_1 from Kd.V_mono hs1_1 (fun k_ hk => .inl hk))
  have HB := Aside0.mk (Below.refl w.heap.size w)
  have H : ((slotmeshref33_Valid.f k l0).bind fun t205 => (if t205 = true then ((slotmeshref33_Formed.f a1_0 l1_1).bind fun t206 => (slotmeshref33_Add.j0 k l0 (!t206) a1_0 l1_1)) else (slotmeshref33_Add.j0 k l0 true a1_0 l1_1))) = some (r1, r2, r3) := h
  clear h
  have HC3 := Aside0.mk H
  clear H
  go_enter Try.func13, Try.ntmps13
  go_upto_region 1 with (first | ((with_reducible refine gate_dst (N := 3) rfl ?_); refine box_event ?hg (N := 3) ?hd (cs := #[.int .i64 a1_0, .slice A1_1 l1_1.length c1_1]) (t := 25) ?hr ?_; (case hd => rfl); (case hg => rfl); (case hr => first | (go_simp; done) | (go_simp; rfl)); intro gb204 hg w4 hbox hb; have n0_ := Aside0.mk (Kd.V_below (Kd.V_elderB (by (with_reducible repeat (first | apply Kd.V_alloc | apply Kd.V_drewN | apply Kd.V_drew)); exact HO1_1.out) gb204 (Nat.le_of_eq hg.symm)) hb); have n1_ := Aside0.mk (below_step (by repeat (first | (with_reducible first | exact HB.out | apply below_alloc | apply pw_below_drewN | apply below_drew1) | exact HB.out)) hb); have n2_ := Aside0.mk (hbox); have n3_ := Aside0.mk ((by rw [hg]; exact (below_size (by repeat (first | (with_reducible first | exact HB.out | apply below_alloc | apply pw_below_drewN | apply below_drew1) | exact HB.out))) : w.heap.size ≤ gb204)); have n4_ := Aside0.mk ((by rw [hg]; exact (below_size (by repeat (first | (with_reducible first | exact HB.out | apply below_alloc | apply pw_below_drewN | apply below_drew1) | exact HB.out))) : w.heap.size ≤ gb204)); clear HO1_1; clear HB; have HO1_1 := n0_; have HB := n1_; have BK204 := n2_; have GW204 := n3_; have GE204 := n4_; clear n0_ n1_ n2_ n3_ n4_; clear hb hbox hg))
  (try simp only [Act.put, List.setIfInBounds_toArray, List.set_cons_zero, List.set_cons_succ])
  go_cut [20] (fun v20 wc => ∃ (kq : Nat) (x20_2 : Bool), v20 = .bool x20_2 ∧ Aside0 (slotmeshref33_Add.j0 kq l0 x20_2 a1_0 l1_1 = some (r1, r2, r3)) ∧ Aside0 (kq ≤ k) ∧ Aside0 (Kd.V (Kd.int .u8) 5 wc w.heap.size (fun k_ => (P1_1_ k_ ∨ w.heap.size ≤ k_) ∧ k_ ≠ gb204) (.slice A1_1 l1_1.length c1_1) l1_1) ∧ Aside0 (wc.heap[gb204]? = some (.cells #[.int .i64 a1_0, (.slice A1_1 l1_1.length c1_1)] 25 (0, 0))) ∧ Aside0 (Below w.heap.size w wc))
  case first =>
    have H := HC3.out
    clear HC3
    replace H := Option.bind_eq_some_iff.mp H
    obtain ⟨t205, A50, H⟩ := H
    replace H : (if t205 = true then ((slotmeshref33_Formed.f a1_0 l1_1).bind fun t206 => (slotmeshref33_Add.j0 k l0 (!t206) a1_0 l1_1)) else (slotmeshref33_Add.j0 k l0 true a1_0 l1_1)) = some (r1, r2, r3) := H
    have A5 := Aside0.mk A50
    clear A50
    by_cases c6 : t205 = true
    · subst c6
      have H1 : ((slotmeshref33_Formed.f a1_0 l1_1).bind fun t206 => (slotmeshref33_Add.j0 k l0 (!t206) a1_0 l1_1)) = some (r1, r2, r3) := by rw [if_pos rfl] at H; exact H
      clear H
      have H := H1
      clear H1
      replace H := Option.bind_eq_some_iff.mp H
      obtain ⟨t206, A70, H⟩ := H
      replace H : (slotmeshref33_Add.j0 k l0 (!t206) a1_0 l1_1) = some (r1, r2, r3) := H
      have A7 := Aside0.mk A70
      clear A70
      have H' := Aside0.mk H
      clear H
      go_wp2_with (first | ((with_reducible refine gate_callee (f := 21) rfl ?_); refine goesL_ (some 14) rfl rfl Try.func21 (by kernel_rfl) rfl #[.slice A0 l0.length c0] rfl (by (try simp only [List.map_toArray, List.map_cons, List.map_nil]); first | done | rfl | (simp only [List.length_drop, List.length_take]; rfl)) ?_; (with_reducible refine (slotmeshref33_Valid.calls k _ _ l0 true _ ?side1 ?side2 A5.out).mono ?_); (case side1 => repeat (first | exact (Kd.C_below HR0.out HB.out) | (with_reducible refine Kd.C_alloc ?_ _) | (with_reducible refine Kd.C_drewN ?_ _) | (with_reducible refine Kd.C_drew ?_))); (case side2 => exact HC0.out); rintro e w8 ⟨rfl, hb⟩; refine ⟨_, rfl, ?_⟩; have n0_ := Aside0.mk (Kd.V_below (by (with_reducible repeat (first | apply Kd.V_alloc | apply Kd.V_drewN | apply Kd.V_drew)); exact HO1_1.out) hb); have n1_ := Aside0.mk (blk_below (g := gb204) (o := .cells #[.int .i64 a1_0, .slice A1_1 l1_1.length c1_1] 25 (0, 0)) (by (with_reducible repeat (first | refine blk_drewN ?_ _ | refine blk_drew ?_ | refine blk_alloc ?_ _)); exact BK204.out) hb); have n2_ := Aside0.mk (below_step (by repeat (first | (with_reducible first | exact HB.out | apply below_alloc | apply pw_below_drewN | apply below_drew1 | refine below_set ?_ GE204.out) | exact HB.out)) hb); clear HO1_1; clear BK204; clear HB; have HO1_1 := n0_; have BK204 := n1_; have HB := n2_; clear n0_ n1_ n2_; (try clear hb); (try clear hb2); (try clear hk); (try clear hi); have hcz9_0 : w8.cell? ⟨gb204, 0, none⟩ = some (.int .i64 a1_0) := (blk_cell BK204.out 0).trans rfl; have hcz9_1 : w8.cell? ⟨gb204, 1, none⟩ = some (.slice A1_1 l1_1.length c1_1) := (blk_cell BK204.out 1).trans rfl; have hfz9_0 := blk_frozen BK204.out 0; have hfz9_1 := blk_frozen BK204.out 1) | (go_at_call 24; (with_reducible refine (slotmeshref33_Formed.calls a1_0 _ _ l1_1 t206 _ ?side1 ?side2 A7.out).mono ?_); (case side1 => repeat (first | exact (Kd.V_reads' HO1_1.out).2.2 | (with_reducible refine Kd.C_alloc ?_ _) | (with_reducible refine Kd.C_drewN ?_ _) | (with_reducible refine Kd.C_drew ?_))); (case side2 => exact (Kd.V_reads' HO1_1.out).2.1); rintro e w10 ⟨rfl, hb⟩; have n0_ := Aside0.mk (Kd.V_below (by (with_reducible repeat (first | apply Kd.V_alloc | apply Kd.V_drewN | apply Kd.V_drew)); exact HO1_1.out) hb); have n1_ := Aside0.mk (blk_below (g := gb204) (o := .cells #[.int .i64 a1_0, .slice A1_1 l1_1.length c1_1] 25 (0, 0)) (by (with_reducible repeat (first | refine blk_drewN ?_ _ | refine blk_drew ?_ | refine blk_alloc ?_ _)); exact BK204.out) hb); have n2_ := Aside0.mk (below_step (by repeat (first | (with_reducible first | exact HB.out | apply below_alloc | apply pw_below_drewN | apply below_drew1 | refine below_set ?_ GE204.out) | exact HB.out)) hb); clear HO1_1; clear BK204; clear HB; have HO1_1 := n0_; have BK204 := n1_; have HB := n2_; clear n0_ n1_ n2_; (try clear hb); (try clear hb2); (try clear hk); (try clear hi)))
      go_meet
      case rel => exact ⟨_, (!t206), (by first | rfl | (simp; done) | (simp [*]; done)), H', ⟨by first | omega | exact Nat.le_refl _⟩, ⟨by (with_reducible repeat (first | apply Kd.V_alloc | apply Kd.V_drewN | apply Kd.V_drew)); exact HO1_1.out⟩, ⟨by (with_reducible repeat (first | refine blk_drewN ?_ _ | refine blk_drew ?_ | refine blk_alloc ?_ _)); exact BK204.out⟩, ⟨by repeat (first | (with_reducible first | exact HB.out | apply below_alloc | apply pw_below_drewN | apply below_drew1 | refine below_set ?_ GE204.out) | exact HB.out)⟩⟩
    · replace c6 := Bool.eq_false_iff.mpr c6
      subst c6
      have H1 : (slotmeshref33_Add.j0 k l0 true a1_0 l1_1) = some (r1, r2, r3) := by rw [if_neg (show ¬ (false = true) by decide)] at H; exact H
      clear H
      have H := H1
      clear H1
      have H' := Aside0.mk H
      clear H
      go_wp2_with (first | ((with_reducible refine gate_callee (f := 21) rfl ?_); refine goesL_ (some 14) rfl rfl Try.func21 (by kernel_rfl) rfl #[.slice A0 l0.length c0] rfl (by (try simp only [List.map_toArray, List.map_cons, List.map_nil]); first | done | rfl | (simp only [List.length_drop, List.length_take]; rfl)) ?_; (with_reducible refine (slotmeshref33_Valid.calls k _ _ l0 false _ ?side1 ?side2 A5.out).mono ?_); (case side1 => repeat (first | exact (Kd.C_below HR0.out HB.out) | (with_reducible refine Kd.C_alloc ?_ _) | (with_reducible refine Kd.C_drewN ?_ _) | (with_reducible refine Kd.C_drew ?_))); (case side2 => exact HC0.out); rintro e w11 ⟨rfl, hb⟩; refine ⟨_, rfl, ?_⟩; have n0_ := Aside0.mk (Kd.V_below (by (with_reducible repeat (first | apply Kd.V_alloc | apply Kd.V_drewN | apply Kd.V_drew)); exact HO1_1.out) hb); have n1_ := Aside0.mk (blk_below (g := gb204) (o := .cells #[.int .i64 a1_0, .slice A1_1 l1_1.length c1_1] 25 (0, 0)) (by (with_reducible repeat (first | refine blk_drewN ?_ _ | refine blk_drew ?_ | refine blk_alloc ?_ _)); exact BK204.out) hb); have n2_ := Aside0.mk (below_step (by repeat (first | (with_reducible first | exact HB.out | apply below_alloc | apply pw_below_drewN | apply below_drew1 | refine below_set ?_ GE204.out) | exact HB.out)) hb); clear HO1_1; clear BK204; clear HB; have HO1_1 := n0_; have BK204 := n1_; have HB := n2_; clear n0_ n1_ n2_; (try clear hb); (try clear hb2); (try clear hk); (try clear hi)))
      go_meet
      case rel => exact ⟨_, (true), (by first | rfl | (simp; done) | (simp [*]; done)), H', ⟨by first | omega | exact Nat.le_refl _⟩, ⟨by (with_reducible repeat (first | apply Kd.V_alloc | apply Kd.V_drewN | apply Kd.V_drew)); exact HO1_1.out⟩, ⟨by (with_reducible repeat (first | refine blk_drewN ?_ _ | refine blk_drew ?_ | refine blk_alloc ?_ _)); exact BK204.out⟩, ⟨by repeat (first | (with_reducible first | exact HB.out | apply below_alloc | apply pw_below_drewN | apply below_drew1 | refine below_set ?_ GE204.out) | exact HB.out)⟩⟩
  case rest =>
    clear HC3
    try clear c1
    try clear c2
    try clear p2
    try clear c6
    try clear hcz9_0
    try clear hcz9_1
    try clear hfz9_0
    try clear hfz9_1
    obtain ⟨kq, x20_2, rfl, HA, HJ2, HO_205001, BK204, HB⟩ := hcut
    cases kq with
    | zero => exact absurd HA.out (by simp [slotmeshref33_Add.j0])
    | succ kj2 =>
      have H := HA.out
      clear HA
      simp only [slotmeshref33_Add.j0] at H
      by_cases c12 : x20_2 = true
      · subst c12
        have H1 : (some (([] : List (S25)), false, 1)) = some (r1, r2, r3) := by rw [if_pos rfl] at H; exact H
        clear H
        have H := H1
        clear H1
        simp only [Option.some.injEq, Prod.mk.injEq] at H
        obtain ⟨rfl, rfl, rfl⟩ := H
        go_wp2
        go_ret3
        exact ⟨_, by first | rfl | (simp [errW_none, errW_some] <;> rfl) | (simp [*, errW_none, errW_some] <;> rfl), by first | exact Kd.S_nil _ _ _ _ _ | exact Kd.N_nil _ _ _ _ _ | exact Kd.V_nil _ _ _ _ _ | exact Kd.Q_nil _ _ _ _ _ | exact Kd.R_nil _ _ _ _ _, by repeat (first | (with_reducible first | exact HB.out | apply below_alloc | apply pw_below_drewN | apply below_drew1 | refine below_set ?_ GE204.out) | exact HB.out)⟩
      · replace c12 := Bool.eq_false_iff.mpr c12
        subst c12
        have H1 : ((slotmeshref33_reduce.f kj2 l0 a1_0 l1_1).bind fun bt207 => (if bt207.1 = 0 then ((slotmeshref33_Zero.f kj2 bt207.2).bind fun t212 => (if t212 = true then ((slotmeshref33_Copy.f kj2 l0).bind fun t213 => (some (t213, false, 0))) else (some (([] : List (S25)), false, 12)))) else ((slotmeshref33_Leading.f kj2 bt207.1).bind fun t216 => ((slotmeshref33_Copy.f kj2 l0).bind fun t217 => (slotmeshref33_Add.l0 kj2 t216 ([] : List (S25)) false t217 0 bt207.1 bt207.2))))) = some (r1, r2, r3) := by rw [if_neg (show ¬ (false = true) by decide)] at H; exact H
        clear H
        have H := H1
        clear H1
        replace H := Option.bind_eq_some_iff.mp H
        obtain ⟨⟨t207, t208⟩, A130, H⟩ := H
        replace H : (if t207 = 0 then ((slotmeshref33_Zero.f kj2 t208).bind fun t212 => (if t212 = true then ((slotmeshref33_Copy.f kj2 l0).bind fun t213 => (some (t213, false, 0))) else (some (([] : List (S25)), false, 12)))) else ((slotmeshref33_Leading.f kj2 t207).bind fun t216 => ((slotmeshref33_Copy.f kj2 l0).bind fun t217 => (slotmeshref33_Add.l0 kj2 t216 ([] : List (S25)) false t217 0 t207 t208)))) = some (r1, r2, r3) := H
        have A13 := Aside0.mk A130
        clear A130
        by_cases c14 : t207 = 0
        · rw [if_pos c14] at H
          have c14b0 : (t207 == 0) = true := beq_iff_eq.mpr c14
          have c14b1 : (t207 != 0) = false := bne_eq_false_iff_eq.mpr c14
          clear c14
          replace H := Option.bind_eq_some_iff.mp H
          obtain ⟨t212, A150, H⟩ := H
          replace H : (if t212 = true then ((slotmeshref33_Copy.f kj2 l0).bind fun t213 => (some (t213, false, 0))) else (some (([] : List (S25)), false, 12))) = some (r1, r2, r3) := H
          have A15 := Aside0.mk A150
          clear A150
          by_cases c16 : t212 = true
          · subst c16
            have H1 : ((slotmeshref33_Copy.f kj2 l0).bind fun t213 => (some (t213, false, 0))) = some (r1, r2, r3) := by rw [if_pos rfl] at H; exact H
            clear H
            have H := H1
            clear H1
            replace H := Option.bind_eq_some_iff.mp H
            obtain ⟨t213, A170, H⟩ := H
            replace H : (some (t213, false, 0)) = some (r1, r2, r3) := H
            have A17 := Aside0.mk A170
            clear A170
            simp only [Option.some.injEq, Prod.mk.injEq] at H
            obtain ⟨rfl, rfl, rfl⟩ := H
            have hcz18_0 : wc.cell? ⟨gb204, 0, none⟩ = some (.int .i64 a1_0) := (blk_cell BK204.out 0).trans rfl
            have hcz18_1 : wc.cell? ⟨gb204, 1, none⟩ = some (.slice A1_1 l1_1.length c1_1) := (blk_cell BK204.out 1).trans rfl
            have hfz18_0 := blk_frozen BK204.out 0
            have hfz18_1 := blk_frozen BK204.out 1
            go_wp2_with (first | ((with_reducible refine gate_callee (f := 34) rfl ?_); refine goesL_ (some 23) rfl rfl Try.func34 (by kernel_rfl) rfl #[.slice A0 l0.length c0, .agg #[.int .i64 a1_0, .slice A1_1 l1_1.length c1_1]] rfl (by (try simp only [List.map_toArray, List.map_cons, List.map_nil]); first | done | rfl | (simp only [List.length_drop, List.length_take]; rfl)) ?_; (with_reducible refine (slotmeshref33_reduce.calls kj2 _ _ l0 a1_0 (fun k_ => ((P1_1_ k_ ∨ w.heap.size ≤ k_) ∧ k_ ≠ gb204)) _ _ l1_1 t207 t208 _ ?side1 ?side2 ?side3 A13.out).mono ?_); (case side1 => repeat (first | exact (Kd.C_below HR0.out HB.out) | (with_reducible refine Kd.C_alloc ?_ _) | (with_reducible refine Kd.C_drewN ?_ _) | (with_reducible refine Kd.C_drew ?_))); (case side2 => exact HC0.out); (case side3 => exact HO_205001.out); rintro e w19 ⟨v209, rfl, ho0, hb⟩; refine ⟨_, rfl, ?_⟩; have n0_ := Aside0.mk (Kd.V_below (by (with_reducible repeat (first | apply Kd.V_alloc | apply Kd.V_drewN | apply Kd.V_drew)); exact HO_205001.out) hb); have n1_ := Aside0.mk (Kd.V_lower (Kd.V_mono (ok' := fun k_ => (P1_1_ k_ ∨ w.heap.size ≤ k_) ∧ k_ ≠ gb204) ho0 (fun k_ hk_ => ⟨Or.elim hk_ (fun hs_ => hs_.1) (fun hn_ => (.inr (Nat.le_trans (below_size (by repeat (first | (with_reducible first | exact HB.out | apply below_alloc | apply pw_below_drewN | apply below_drew1 | refine below_set ?_ GE204.out) | exact HB.out))) hn_))), Or.elim hk_ (fun hs_ => hs_.2) (fun hn_ => (Kd.freshB (g := gb204) (o := .cells #[.int .i64 a1_0, .slice A1_1 l1_1.length c1_1] 25 (0, 0)) (by (with_reducible repeat (first | refine blk_drewN ?_ _ | refine blk_drew ?_ | refine blk_alloc ?_ _)); exact BK204.out) k_ hn_))⟩)) (below_size (by repeat (first | (with_reducible first | exact HB.out | apply below_alloc | apply pw_below_drewN | apply below_drew1 | refine below_set ?_ GE204.out) | exact HB.out)))); have n2_ := Aside0.mk (blk_below (g := gb204) (o := .cells #[.int .i64 a1_0, .slice A1_1 l1_1.length c1_1] 25 (0, 0)) (by (with_reducible repeat (first | refine blk_drewN ?_ _ | refine blk_drew ?_ | refine blk_alloc ?_ _)); exact BK204.out) hb); have n3_ := Aside0.mk (below_step (by repeat (first | (with_reducible first | exact HB.out | apply below_alloc | apply pw_below_drewN | apply below_drew1 | refine below_set ?_ GE204.out) | exact HB.out)) hb); clear HO_205001; clear BK204; clear HB; have HO_205001 := n0_; have HO210 := n1_; have BK204 := n2_; have HB := n3_; clear n0_ n1_ n2_ n3_; (try clear hb); (try clear hb2); (try clear hk); (try clear hi); (try clear ho0)) | ((with_reducible refine gate_dst (N := 7) rfl ?_); refine box_event ?hg (N := 7) ?hd (cs := #[.int .i64 0, .slice none 0 0]) (t := 25) ?hr ?_; (case hd => rfl); (case hg => rfl); (case hr => first | (go_simp; done) | (go_simp; rfl)); intro gb211 hg w20 hbox hb; have n0_ := Aside0.mk (Kd.V_below (Kd.V_elderB (by (with_reducible repeat (first | apply Kd.V_alloc | apply Kd.V_drewN | apply Kd.V_drew)); exact HO_205001.out) gb211 (Nat.le_of_eq hg.symm)) hb); have n1_ := Aside0.mk (Kd.V_below (Kd.V_elderB (by (with_reducible repeat (first | apply Kd.V_alloc | apply Kd.V_drewN | apply Kd.V_drew)); exact HO210.out) gb211 (Nat.le_of_eq hg.symm)) hb); have n2_ := Aside0.mk (blk_below (g := gb204) (o := .cells #[.int .i64 a1_0, .slice A1_1 l1_1.length c1_1] 25 (0, 0)) (by (with_reducible repeat (first | refine blk_drewN ?_ _ | refine blk_drew ?_ | refine blk_alloc ?_ _)); exact BK204.out) hb); have n3_ := Aside0.mk (below_step (by repeat (first | (with_reducible first | exact HB.out | apply below_alloc | apply pw_below_drewN | apply below_drew1 | refine below_set ?_ GE204.out) | exact HB.out)) hb); have n4_ := Aside0.mk (hbox); have n5_ := Aside0.mk ((by rw [hg]; exact (below_size (by repeat (first | (with_reducible first | exact HB.out | apply below_alloc | apply pw_below_drewN | apply below_drew1 | refine below_set ?_ GE204.out) | exact HB.out))) : w.heap.size ≤ gb211)); have n6_ := Aside0.mk ((by rw [hg]; exact (below_size (by repeat (first | (with_reducible first | exact HB.out | apply below_alloc | apply pw_below_drewN | apply below_drew1 | refine below_set ?_ GE204.out) | exact HB.out))) : w.heap.size ≤ gb211)); have n7_ := Aside0.mk ((by rw [hg]; exact Nat.ne_of_lt (blk_lt (g := gb204) (o := .cells #[.int .i64 a1_0, .slice A1_1 l1_1.length c1_1] 25 (0, 0)) (by (with_reducible repeat (first | refine blk_drewN ?_ _ | refine blk_drew ?_ | refine blk_alloc ?_ _)); exact BK204.out)) : gb204 ≠ gb211)); have n8_ := Aside0.mk ((by rw [hg]; exact Nat.ne_of_gt (blk_lt (g := gb204) (o := .cells #[.int .i64 a1_0, .slice A1_1 l1_1.length c1_1] 25 (0, 0)) (by (with_reducible repeat (first | refine blk_drewN ?_ _ | refine blk_drew ?_ | refine blk_alloc ?_ _)); exact BK204.out)) : gb211 ≠ gb204)); clear HO_205001; clear HO210; clear BK204; clear HB; have HO_205001 := n0_; have HO210 := n1_; have BK204 := n2_; have HB := n3_; have BK211 := n4_; have GW211 := n5_; have GE211 := n6_; have NB204_211 := n7_; have NB211_204 := n8_; clear n0_ n1_ n2_ n3_ n4_ n5_ n6_ n7_ n8_; clear hb hbox hg; have hnb21 := NB211_204.out; have hnc21 := NB204_211.out; have hcz22_0 : w20.cell? ⟨gb211, 0, none⟩ = some (.int .i64 0) := (blk_cell BK211.out 0).trans rfl; have hcz22_1 : w20.cell? ⟨gb211, 1, none⟩ = some (.slice none 0 0) := (blk_cell BK211.out 1).trans rfl; have hfz22_0 := blk_frozen BK211.out 0; have hfz22_1 := blk_frozen BK211.out 1; obtain ⟨Ao23, co23, eo23⟩ := Kd.V_slice HO210.out; subst eo23) | ((with_reducible refine gate_callee (f := 35) rfl ?_); refine goesL_ (some 29) rfl rfl Try.func35 (by kernel_rfl) rfl #[.slice Ao23 t208.length co23] rfl (by (try simp only [List.map_toArray, List.map_cons, List.map_nil]); first | done | rfl | (simp only [List.length_drop, List.length_take]; rfl)) ?_; (with_reducible refine (slotmeshref33_Zero.calls kj2 _ _ t208 true _ ?side1 ?side2 A15.out).mono ?_); (case side1 => refine (Kd.V_reads' (e := 5) (base := w.heap.size) (ok := fun k_ => (((P1_1_ k_ ∨ w.heap.size ≤ k_) ∧ k_ ≠ gb204) ∧ k_ ≠ gb211)) (n := t208.length) (c := co23) ?_).2.2; exact (by (with_reducible repeat (first | apply Kd.V_alloc | apply Kd.V_drewN | apply Kd.V_drew)); exact (Kd.V_mono (Kd.V_far (p := ⟨gb211, 1, none⟩) (Kd.V_far (p := ⟨gb211, 0, none⟩) (Kd.V_mono HO210.out (fun k_ hk => (⟨hk, hk.2⟩ : _ ∧ k_ ≠ gb211))) (fun _ hk => hk.2) (.int .i64 t207)) (fun _ hk => hk.2) (.slice Ao23 t208.length co23)) (fun _ h_ => h_.1)))); (case side2 => exact (Kd.V_reads' HO210.out).2.1); rintro e w' ⟨rfl, ⟨nd, rfl⟩⟩; refine ⟨_, rfl, ?_⟩) | ((with_reducible refine gate_callee (f := 36) rfl ?_); refine goesL_ (some 32) rfl rfl Try.func36 (by kernel_rfl) rfl #[.slice A0 l0.length c0] rfl (by (try simp only [List.map_toArray, List.map_cons, List.map_nil]); first | done | rfl | (simp only [List.length_drop, List.length_take]; rfl)) ?_; (with_reducible refine (slotmeshref33_Copy.calls kj2 _ _ l0 t213 _ ?side1 ?side2 A17.out).mono ?_); (case side1 => exact Kd.C_below HR0.out (by repeat (first | (with_reducible first | exact HB.out | apply below_alloc | apply pw_below_drewN | apply below_drew1 | refine below_set ?_ GE204.out | refine below_set ?_ GE211.out) | exact HB.out))); (case side2 => exact HC0.out); rintro e w24 ⟨v214, rfl, ho0, hb⟩; refine ⟨_, rfl, ?_⟩; have n0_ := Aside0.mk (Kd.V_elder' (by (with_reducible repeat (first | apply Kd.V_alloc | apply Kd.V_drewN | apply Kd.V_drew)); exact (Kd.V_mono (Kd.V_far (p := ⟨gb211, 1, none⟩) (Kd.V_far (p := ⟨gb211, 0, none⟩) (Kd.V_mono HO_205001.out (fun k_ hk => (⟨hk, hk.2⟩ : _ ∧ k_ ≠ gb211))) (fun _ hk => hk.2) (.int .i64 t207)) (fun _ hk => hk.2) (.slice Ao23 t208.length co23)) (fun _ h_ => h_.1))) (Kd.S_base ho0) hb); have n1_ := Aside0.mk (Kd.V_elder' (by (with_reducible repeat (first | apply Kd.V_alloc | apply Kd.V_drewN | apply Kd.V_drew)); exact (Kd.V_mono (Kd.V_far (p := ⟨gb211, 1, none⟩) (Kd.V_far (p := ⟨gb211, 0, none⟩) (Kd.V_mono HO210.out (fun k_ hk => (⟨hk, hk.2⟩ : _ ∧ k_ ≠ gb211))) (fun _ hk => hk.2) (.int .i64 t207)) (fun _ hk => hk.2) (.slice Ao23 t208.length co23)) (fun _ h_ => h_.1))) (Kd.S_base ho0) hb); have n2_ := Aside0.mk (Kd.N_lower (Kd.N_mono (ok' := fun k_ => (P1_1_ k_ ∨ w.heap.size ≤ k_) ∧ k_ ≠ gb204 ∧ k_ ≠ gb211) (Kd.S_N (Kd.S_bound ho0)) (fun k_ hk_ => ⟨(.inr (Nat.le_trans (below_size (by repeat (first | (with_reducible first | exact HB.out | apply below_alloc | apply pw_below_drewN | apply below_drew1 | refine below_set ?_ GE204.out | refine below_set ?_ GE211.out) | exact HB.out))) hk_.2.1)), (Kd.freshB (g := gb204) (o := .cells #[.int .i64 a1_0, .slice A1_1 l1_1.length c1_1] 25 (0, 0)) (by (with_reducible repeat (first | refine blk_drewN ?_ _ | refine blk_drew ?_ | refine blk_alloc ?_ _)); refine blk_far ?_ NB204_211.out _; (with_reducible repeat (first | refine blk_drewN ?_ _ | refine blk_drew ?_ | refine blk_alloc ?_ _)); refine blk_far ?_ NB204_211.out _; (with_reducible repeat (first | refine blk_drewN ?_ _ | refine blk_drew ?_ | refine blk_alloc ?_ _)); exact BK204.out) k_ hk_.2.1), (Kd.freshB (g := gb211) (o := .cells #[.int .i64 t207, .slice Ao23 t208.length co23] 25 (0, 0)) (by (with_reducible repeat (first | refine blk_drewN ?_ _ | refine blk_drew ?_ | refine blk_alloc ?_ _)); refine blk_put (cs := #[.int .i64 t207, .slice none 0 0]) ?_ 1 _ rfl; (with_reducible repeat (first | refine blk_drewN ?_ _ | refine blk_drew ?_ | refine blk_alloc ?_ _)); refine blk_put (cs := #[.int .i64 0, .slice none 0 0]) ?_ 0 _ rfl; (with_reducible repeat (first | refine blk_drewN ?_ _ | refine blk_drew ?_ | refine blk_alloc ?_ _)); exact BK211.out) k_ hk_.2.1)⟩)) (below_size (by repeat (first | (with_reducible first | exact HB.out | apply below_alloc | apply pw_below_drewN | apply below_drew1 | refine below_set ?_ GE204.out | refine below_set ?_ GE211.out) | exact HB.out)))); have n3_ := Aside0.mk (blk_below (g := gb204) (o := .cells #[.int .i64 a1_0, .slice A1_1 l1_1.length c1_1] 25 (0, 0)) (by (with_reducible repeat (first | refine blk_drewN ?_ _ | refine blk_drew ?_ | refine blk_alloc ?_ _)); refine blk_far ?_ NB204_211.out _; (with_reducible repeat (first | refine blk_drewN ?_ _ | refine blk_drew ?_ | refine blk_alloc ?_ _)); refine blk_far ?_ NB204_211.out _; (with_reducible repeat (first | refine blk_drewN ?_ _ | refine blk_drew ?_ | refine blk_alloc ?_ _)); exact BK204.out) hb); have n4_ := Aside0.mk (blk_below (g := gb211) (o := .cells #[.int .i64 t207, .slice Ao23 t208.length co23] 25 (0, 0)) (by (with_reducible repeat (first | refine blk_drewN ?_ _ | refine blk_drew ?_ | refine blk_alloc ?_ _)); refine blk_put (cs := #[.int .i64 t207, .slice none 0 0]) ?_ 1 _ rfl; (with_reducible repeat (first | refine blk_drewN ?_ _ | refine blk_drew ?_ | refine blk_alloc ?_ _)); refine blk_put (cs := #[.int .i64 0, .slice none 0 0]) ?_ 0 _ rfl; (with_reducible repeat (first | refine blk_drewN ?_ _ | refine blk_drew ?_ | refine blk_alloc ?_ _)); exact BK211.out) hb); have n5_ := Aside0.mk (below_step (by repeat (first | (with_reducible first | exact HB.out | apply below_alloc | apply pw_below_drewN | apply below_drew1 | refine below_set ?_ GE204.out | refine below_set ?_ GE211.out) | exact HB.out)) hb); clear HO_205001; clear HO210; clear BK204; clear BK211; clear HB; have HO_205001 := n0_; have HO210 := n1_; have HO215 := n2_; have BK204 := n3_; have BK211 := n4_; have HB := n5_; clear n0_ n1_ n2_ n3_ n4_ n5_; (try clear hb); (try clear hb2); (try clear hk); (try clear hi); (try clear ho0)))
            go_ret3
            exact ⟨_, by first | rfl | (simp [errW_none, errW_some] <;> rfl) | (simp [*, errW_none, errW_some] <;> rfl), by (with_reducible repeat (first | apply Kd.N_alloc | apply Kd.N_drewN | apply Kd.N_drew)); exact Kd.N_mono HO215.out (fun _ hk => hk.1), by repeat (first | (with_reducible first | exact HB.out | apply below_alloc | apply pw_below_drewN | apply below_drew1 | refine below_set ?_ GE204.out | refine below_set ?_ GE211.out) | exact HB.out)⟩
          · replace c16 := Bool.eq_false_iff.mpr c16
            subst c16
            have H1 : (some (([] : List (S25)), false, 12)) = some (r1, r2, r3) := by rw [if_neg (show ¬ (false = true) by decide)] at H; exact H
            clear H
            have H := H1
            clear H1
            simp only [Option.some.injEq, Prod.mk.injEq] at H
            obtain ⟨rfl, rfl, rfl⟩ := H
            have hcz25_0 : wc.cell? ⟨gb204, 0, none⟩ = some (.int .i64 a1_0) := (blk_cell BK204.out 0).trans rfl
            have hcz25_1 : wc.cell? ⟨gb204, 1, none⟩ = some (.slice A1_1 l1_1.length c1_1) := (blk_cell BK204.out 1).trans rfl
            have hfz25_0 := blk_frozen BK204.out 0
            have hfz25_1 := blk_frozen BK204.out 1
            go_wp2_with (first | ((with_reducible refine gate_callee (f := 34) rfl ?_); refine goesL_ (some 23) rfl rfl Try.func34 (by kernel_rfl) rfl #[.slice A0 l0.length c0, .agg #[.int .i64 a1_0, .slice A1_1 l1_1.length c1_1]] rfl (by (try simp only [List.map_toArray, List.map_cons, List.map_nil]); first | done | rfl | (simp only [List.length_drop, List.length_take]; rfl)) ?_; (with_reducible refine (slotmeshref33_reduce.calls kj2 _ _ l0 a1_0 (fun k_ => ((P1_1_ k_ ∨ w.heap.size ≤ k_) ∧ k_ ≠ gb204)) _ _ l1_1 t207 t208 _ ?side1 ?side2 ?side3 A13.out).mono ?_); (case side1 => repeat (first | exact (Kd.C_below HR0.out HB.out) | (with_reducible refine Kd.C_alloc ?_ _) | (with_reducible refine Kd.C_drewN ?_ _) | (with_reducible refine Kd.C_drew ?_))); (case side2 => exact HC0.out); (case side3 => exact HO_205001.out); rintro e w26 ⟨v209, rfl, ho0, hb⟩; refine ⟨_, rfl, ?_⟩; have n0_ := Aside0.mk (Kd.V_below (by (with_reducible repeat (first | apply Kd.V_alloc | apply Kd.V_drewN | apply Kd.V_drew)); exact HO_205001.out) hb); have n1_ := Aside0.mk (Kd.V_lower (Kd.V_mono (ok' := fun k_ => (P1_1_ k_ ∨ w.heap.size ≤ k_) ∧ k_ ≠ gb204) ho0 (fun k_ hk_ => ⟨Or.elim hk_ (fun hs_ => hs_.1) (fun hn_ => (.inr (Nat.le_trans (below_size (by repeat (first | (with_reducible first | exact HB.out | apply below_alloc | apply pw_below_drewN | apply below_drew1 | refine below_set ?_ GE204.out) | exact HB.out))) hn_))), Or.elim hk_ (fun hs_ => hs_.2) (fun hn_ => (Kd.freshB (g := gb204) (o := .cells #[.int .i64 a1_0, .slice A1_1 l1_1.length c1_1] 25 (0, 0)) (by (with_reducible repeat (first | refine blk_drewN ?_ _ | refine blk_drew ?_ | refine blk_alloc ?_ _)); exact BK204.out) k_ hn_))⟩)) (below_size (by repeat (first | (with_reducible first | exact HB.out | apply below_alloc | apply pw_below_drewN | apply below_drew1 | refine below_set ?_ GE204.out) | exact HB.out)))); have n2_ := Aside0.mk (blk_below (g := gb204) (o := .cells #[.int .i64 a1_0, .slice A1_1 l1_1.length c1_1] 25 (0, 0)) (by (with_reducible repeat (first | refine blk_drewN ?_ _ | refine blk_drew ?_ | refine blk_alloc ?_ _)); exact BK204.out) hb); have n3_ := Aside0.mk (below_step (by repeat (first | (with_reducible first | exact HB.out | apply below_alloc | apply pw_below_drewN | apply below_drew1 | refine below_set ?_ GE204.out) | exact HB.out)) hb); clear HO_205001; clear BK204; clear HB; have HO_205001 := n0_; have HO210 := n1_; have BK204 := n2_; have HB := n3_; clear n0_ n1_ n2_ n3_; (try clear hb); (try clear hb2); (try clear hk); (try clear hi); (try clear ho0)) | ((with_reducible refine gate_dst (N := 7) rfl ?_); refine box_event ?hg (N := 7) ?hd (cs := #[.int .i64 0, .slice none 0 0]) (t := 25) ?hr ?_; (case hd => rfl); (case hg => rfl); (case hr => first | (go_simp; done) | (go_simp; rfl)); intro gb211 hg w27 hbox hb; have n0_ := Aside0.mk (Kd.V_below (Kd.V_elderB (by (with_reducible repeat (first | apply Kd.V_alloc | apply Kd.V_drewN | apply Kd.V_drew)); exact HO_205001.out) gb211 (Nat.le_of_eq hg.symm)) hb); have n1_ := Aside0.mk (Kd.V_below (Kd.V_elderB (by (with_reducible repeat (first | apply Kd.V_alloc | apply Kd.V_drewN | apply Kd.V_drew)); exact HO210.out) gb211 (Nat.le_of_eq hg.symm)) hb); have n2_ := Aside0.mk (blk_below (g := gb204) (o := .cells #[.int .i64 a1_0, .slice A1_1 l1_1.length c1_1] 25 (0, 0)) (by (with_reducible repeat (first | refine blk_drewN ?_ _ | refine blk_drew ?_ | refine blk_alloc ?_ _)); exact BK204.out) hb); have n3_ := Aside0.mk (below_step (by repeat (first | (with_reducible first | exact HB.out | apply below_alloc | apply pw_below_drewN | apply below_drew1 | refine below_set ?_ GE204.out) | exact HB.out)) hb); have n4_ := Aside0.mk (hbox); have n5_ := Aside0.mk ((by rw [hg]; exact (below_size (by repeat (first | (with_reducible first | exact HB.out | apply below_alloc | apply pw_below_drewN | apply below_drew1 | refine below_set ?_ GE204.out) | exact HB.out))) : w.heap.size ≤ gb211)); have n6_ := Aside0.mk ((by rw [hg]; exact (below_size (by repeat (first | (with_reducible first | exact HB.out | apply below_alloc | apply pw_below_drewN | apply below_drew1 | refine below_set ?_ GE204.out) | exact HB.out))) : w.heap.size ≤ gb211)); have n7_ := Aside0.mk ((by rw [hg]; exact Nat.ne_of_lt (blk_lt (g := gb204) (o := .cells #[.int .i64 a1_0, .slice A1_1 l1_1.length c1_1] 25 (0, 0)) (by (with_reducible repeat (first | refine blk_drewN ?_ _ | refine blk_drew ?_ | refine blk_alloc ?_ _)); exact BK204.out)) : gb204 ≠ gb211)); have n8_ := Aside0.mk ((by rw [hg]; exact Nat.ne_of_gt (blk_lt (g := gb204) (o := .cells #[.int .i64 a1_0, .slice A1_1 l1_1.length c1_1] 25 (0, 0)) (by (with_reducible repeat (first | refine blk_drewN ?_ _ | refine blk_drew ?_ | refine blk_alloc ?_ _)); exact BK204.out)) : gb211 ≠ gb204)); clear HO_205001; clear HO210; clear BK204; clear HB; have HO_205001 := n0_; have HO210 := n1_; have BK204 := n2_; have HB := n3_; have BK211 := n4_; have GW211 := n5_; have GE211 := n6_; have NB204_211 := n7_; have NB211_204 := n8_; clear n0_ n1_ n2_ n3_ n4_ n5_ n6_ n7_ n8_; clear hb hbox hg; have hnb28 := NB211_204.out; have hnc28 := NB204_211.out; have hcz29_0 : w27.cell? ⟨gb211, 0, none⟩ = some (.int .i64 0) := (blk_cell BK211.out 0).trans rfl; have hcz29_1 : w27.cell? ⟨gb211, 1, none⟩ = some (.slice none 0 0) := (blk_cell BK211.out 1).trans rfl; have hfz29_0 := blk_frozen BK211.out 0; have hfz29_1 := blk_frozen BK211.out 1; obtain ⟨Ao30, co30, eo30⟩ := Kd.V_slice HO210.out; subst eo30) | ((with_reducible refine gate_callee (f := 35) rfl ?_); refine goesL_ (some 29) rfl rfl Try.func35 (by kernel_rfl) rfl #[.slice Ao30 t208.length co30] rfl (by (try simp only [List.map_toArray, List.map_cons, List.map_nil]); first | done | rfl | (simp only [List.length_drop, List.length_take]; rfl)) ?_; (with_reducible refine (slotmeshref33_Zero.calls kj2 _ _ t208 false _ ?side1 ?side2 A15.out).mono ?_); (case side1 => refine (Kd.V_reads' (e := 5) (base := w.heap.size) (ok := fun k_ => (((P1_1_ k_ ∨ w.heap.size ≤ k_) ∧ k_ ≠ gb204) ∧ k_ ≠ gb211)) (n := t208.length) (c := co30) ?_).2.2; exact (by (with_reducible repeat (first | apply Kd.V_alloc | apply Kd.V_drewN | apply Kd.V_drew)); exact (Kd.V_mono (Kd.V_far (p := ⟨gb211, 1, none⟩) (Kd.V_far (p := ⟨gb211, 0, none⟩) (Kd.V_mono HO210.out (fun k_ hk => (⟨hk, hk.2⟩ : _ ∧ k_ ≠ gb211))) (fun _ hk => hk.2) (.int .i64 t207)) (fun _ hk => hk.2) (.slice Ao30 t208.length co30)) (fun _ h_ => h_.1)))); (case side2 => exact (Kd.V_reads' HO210.out).2.1); rintro e w' ⟨rfl, ⟨nd, rfl⟩⟩; refine ⟨_, rfl, ?_⟩))
            go_ret3
            exact ⟨_, by first | rfl | (simp [errW_none, errW_some] <;> rfl) | (simp [*, errW_none, errW_some] <;> rfl), by first | exact Kd.S_nil _ _ _ _ _ | exact Kd.N_nil _ _ _ _ _ | exact Kd.V_nil _ _ _ _ _ | exact Kd.Q_nil _ _ _ _ _ | exact Kd.R_nil _ _ _ _ _, by repeat (first | (with_reducible first | exact HB.out | apply below_alloc | apply pw_below_drewN | apply below_drew1 | refine below_set ?_ GE204.out | refine below_set ?_ GE211.out) | exact HB.out)⟩
        · rw [if_neg c14] at H
          have c14b0 : (t207 == 0) = false := beq_eq_false_iff_ne.mpr c14
          have c14b1 : (t207 != 0) = true := bne_iff_ne.mpr c14
          replace H := Option.bind_eq_some_iff.mp H
          obtain ⟨t216, A310, H⟩ := H
          replace H : ((slotmeshref33_Copy.f kj2 l0).bind fun t217 => (slotmeshref33_Add.l0 kj2 t216 ([] : List (S25)) false t217 0 t207 t208)) = some (r1, r2, r3) := H
          have A31 := Aside0.mk A310
          clear A310
          replace H := Option.bind_eq_some_iff.mp H
          obtain ⟨t217, A320, H⟩ := H
          replace H : (slotmeshref33_Add.l0 kj2 t216 ([] : List (S25)) false t217 0 t207 t208) = some (r1, r2, r3) := H
          have A32 := Aside0.mk A320
          clear A320
          have H' := Aside0.mk H
          clear H
          have hcz33_0 : wc.cell? ⟨gb204, 0, none⟩ = some (.int .i64 a1_0) := (blk_cell BK204.out 0).trans rfl
          have hcz33_1 : wc.cell? ⟨gb204, 1, none⟩ = some (.slice A1_1 l1_1.length c1_1) := (blk_cell BK204.out 1).trans rfl
          have hfz33_0 := blk_frozen BK204.out 0
          have hfz33_1 := blk_frozen BK204.out 1
          go_wp2_with (first | ((with_reducible refine gate_callee (f := 34) rfl ?_); refine goesL_ (some 23) rfl rfl Try.func34 (by kernel_rfl) rfl #[.slice A0 l0.length c0, .agg #[.int .i64 a1_0, .slice A1_1 l1_1.length c1_1]] rfl (by (try simp only [List.map_toArray, List.map_cons, List.map_nil]); first | done | rfl | (simp only [List.length_drop, List.length_take]; rfl)) ?_; (with_reducible refine (slotmeshref33_reduce.calls kj2 _ _ l0 a1_0 (fun k_ => ((P1_1_ k_ ∨ w.heap.size ≤ k_) ∧ k_ ≠ gb204)) _ _ l1_1 t207 t208 _ ?side1 ?side2 ?side3 A13.out).mono ?_); (case side1 => repeat (first | exact (Kd.C_below HR0.out HB.out) | (with_reducible refine Kd.C_alloc ?_ _) | (with_reducible refine Kd.C_drewN ?_ _) | (with_reducible refine Kd.C_drew ?_))); (case side2 => exact HC0.out); (case side3 => exact HO_205001.out); rintro e w34 ⟨v209, rfl, ho0, hb⟩; refine ⟨_, rfl, ?_⟩; have n0_ := Aside0.mk (Kd.V_below (by (with_reducible repeat (first | apply Kd.V_alloc | apply Kd.V_drewN | apply Kd.V_drew)); exact HO_205001.out) hb); have n1_ := Aside0.mk (Kd.V_lower (Kd.V_mono (ok' := fun k_ => (P1_1_ k_ ∨ w.heap.size ≤ k_) ∧ k_ ≠ gb204) ho0 (fun k_ hk_ => ⟨Or.elim hk_ (fun hs_ => hs_.1) (fun hn_ => (.inr (Nat.le_trans (below_size (by repeat (first | (with_reducible first | exact HB.out | apply below_alloc | apply pw_below_drewN | apply below_drew1 | refine below_set ?_ GE204.out) | exact HB.out))) hn_))), Or.elim hk_ (fun hs_ => hs_.2) (fun hn_ => (Kd.freshB (g := gb204) (o := .cells #[.int .i64 a1_0, .slice A1_1 l1_1.length c1_1] 25 (0, 0)) (by (with_reducible repeat (first | refine blk_drewN ?_ _ | refine blk_drew ?_ | refine blk_alloc ?_ _)); exact BK204.out) k_ hn_))⟩)) (below_size (by repeat (first | (with_reducible first | exact HB.out | apply below_alloc | apply pw_below_drewN | apply below_drew1 | refine below_set ?_ GE204.out) | exact HB.out)))); have n2_ := Aside0.mk (blk_below (g := gb204) (o := .cells #[.int .i64 a1_0, .slice A1_1 l1_1.length c1_1] 25 (0, 0)) (by (with_reducible repeat (first | refine blk_drewN ?_ _ | refine blk_drew ?_ | refine blk_alloc ?_ _)); exact BK204.out) hb); have n3_ := Aside0.mk (below_step (by repeat (first | (with_reducible first | exact HB.out | apply below_alloc | apply pw_below_drewN | apply below_drew1 | refine below_set ?_ GE204.out) | exact HB.out)) hb); clear HO_205001; clear BK204; clear HB; have HO_205001 := n0_; have HO210 := n1_; have BK204 := n2_; have HB := n3_; clear n0_ n1_ n2_ n3_; (try clear hb); (try clear hb2); (try clear hk); (try clear hi); (try clear ho0)) | ((with_reducible refine gate_dst (N := 7) rfl ?_); refine box_event ?hg (N := 7) ?hd (cs := #[.int .i64 0, .slice none 0 0]) (t := 25) ?hr ?_; (case hd => rfl); (case hg => rfl); (case hr => first | (go_simp; done) | (go_simp; rfl)); intro gb211 hg w35 hbox hb; have n0_ := Aside0.mk (Kd.V_below (Kd.V_elderB (by (with_reducible repeat (first | apply Kd.V_alloc | apply Kd.V_drewN | apply Kd.V_drew)); exact HO_205001.out) gb211 (Nat.le_of_eq hg.symm)) hb); have n1_ := Aside0.mk (Kd.V_below (Kd.V_elderB (by (with_reducible repeat (first | apply Kd.V_alloc | apply Kd.V_drewN | apply Kd.V_drew)); exact HO210.out) gb211 (Nat.le_of_eq hg.symm)) hb); have n2_ := Aside0.mk (blk_below (g := gb204) (o := .cells #[.int .i64 a1_0, .slice A1_1 l1_1.length c1_1] 25 (0, 0)) (by (with_reducible repeat (first | refine blk_drewN ?_ _ | refine blk_drew ?_ | refine blk_alloc ?_ _)); exact BK204.out) hb); have n3_ := Aside0.mk (below_step (by repeat (first | (with_reducible first | exact HB.out | apply below_alloc | apply pw_below_drewN | apply below_drew1 | refine below_set ?_ GE204.out) | exact HB.out)) hb); have n4_ := Aside0.mk (hbox); have n5_ := Aside0.mk ((by rw [hg]; exact (below_size (by repeat (first | (with_reducible first | exact HB.out | apply below_alloc | apply pw_below_drewN | apply below_drew1 | refine below_set ?_ GE204.out) | exact HB.out))) : w.heap.size ≤ gb211)); have n6_ := Aside0.mk ((by rw [hg]; exact (below_size (by repeat (first | (with_reducible first | exact HB.out | apply below_alloc | apply pw_below_drewN | apply below_drew1 | refine below_set ?_ GE204.out) | exact HB.out))) : w.heap.size ≤ gb211)); have n7_ := Aside0.mk ((by rw [hg]; exact Nat.ne_of_lt (blk_lt (g := gb204) (o := .cells #[.int .i64 a1_0, .slice A1_1 l1_1.length c1_1] 25 (0, 0)) (by (with_reducible repeat (first | refine blk_drewN ?_ _ | refine blk_drew ?_ | refine blk_alloc ?_ _)); exact BK204.out)) : gb204 ≠ gb211)); have n8_ := Aside0.mk ((by rw [hg]; exact Nat.ne_of_gt (blk_lt (g := gb204) (o := .cells #[.int .i64 a1_0, .slice A1_1 l1_1.length c1_1] 25 (0, 0)) (by (with_reducible repeat (first | refine blk_drewN ?_ _ | refine blk_drew ?_ | refine blk_alloc ?_ _)); exact BK204.out)) : gb211 ≠ gb204)); clear HO_205001; clear HO210; clear BK204; clear HB; have HO_205001 := n0_; have HO210 := n1_; have BK204 := n2_; have HB := n3_; have BK211 := n4_; have GW211 := n5_; have GE211 := n6_; have NB204_211 := n7_; have NB211_204 := n8_; clear n0_ n1_ n2_ n3_ n4_ n5_ n6_ n7_ n8_; clear hb hbox hg; have hnb36 := NB211_204.out; have hnc36 := NB204_211.out; have hcz37_0 : w35.cell? ⟨gb211, 0, none⟩ = some (.int .i64 0) := (blk_cell BK211.out 0).trans rfl; have hcz37_1 : w35.cell? ⟨gb211, 1, none⟩ = some (.slice none 0 0) := (blk_cell BK211.out 1).trans rfl; have hfz37_0 := blk_frozen BK211.out 0; have hfz37_1 := blk_frozen BK211.out 1; obtain ⟨Ao38, co38, eo38⟩ := Kd.V_slice HO210.out; subst eo38) | ((with_reducible refine gate_callee (f := 37) rfl ?_); refine goesL_ (some 35) rfl rfl Try.func37 (by kernel_rfl) rfl #[.int .i64 t207] rfl (by (try simp only [List.map_toArray, List.map_cons, List.map_nil]); first | done | rfl | (simp only [List.length_drop, List.length_take]; rfl)) ?_; (with_reducible refine (slotmeshref33_Leading.calls kj2 t207 t216 _ A31.out).mono ?_); rintro e w' ⟨rfl, ⟨nd, rfl⟩⟩; refine ⟨_, rfl, ?_⟩) | ((with_reducible refine gate_callee (f := 36) rfl ?_); refine goesL_ (some 37) rfl rfl Try.func36 (by kernel_rfl) rfl #[.slice A0 l0.length c0] rfl (by (try simp only [List.map_toArray, List.map_cons, List.map_nil]); first | done | rfl | (simp only [List.length_drop, List.length_take]; rfl)) ?_; (with_reducible refine (slotmeshref33_Copy.calls kj2 _ _ l0 t217 _ ?side1 ?side2 A32.out).mono ?_); (case side1 => exact Kd.C_below HR0.out (by repeat (first | (with_reducible first | exact HB.out | apply below_alloc | apply pw_below_drewN | apply below_drew1 | refine below_set ?_ GE204.out | refine below_set ?_ GE211.out) | exact HB.out))); (case side2 => exact HC0.out); rintro e w39 ⟨v218, rfl, ho0, hb⟩; refine ⟨_, rfl, ?_⟩; have n0_ := Aside0.mk (Kd.V_elder' (by (with_reducible repeat (first | apply Kd.V_alloc | apply Kd.V_drewN | apply Kd.V_drew)); exact (Kd.V_mono (Kd.V_far (p := ⟨gb211, 1, none⟩) (Kd.V_far (p := ⟨gb211, 0, none⟩) (Kd.V_mono HO_205001.out (fun k_ hk => (⟨hk, hk.2⟩ : _ ∧ k_ ≠ gb211))) (fun _ hk => hk.2) (.int .i64 t207)) (fun _ hk => hk.2) (.slice Ao38 t208.length co38)) (fun _ h_ => h_.1))) (Kd.S_base ho0) hb); have n1_ := Aside0.mk (Kd.V_elder' (by (with_reducible repeat (first | apply Kd.V_alloc | apply Kd.V_drewN | apply Kd.V_drew)); exact (Kd.V_mono (Kd.V_far (p := ⟨gb211, 1, none⟩) (Kd.V_far (p := ⟨gb211, 0, none⟩) (Kd.V_mono HO210.out (fun k_ hk => (⟨hk, hk.2⟩ : _ ∧ k_ ≠ gb211))) (fun _ hk => hk.2) (.int .i64 t207)) (fun _ hk => hk.2) (.slice Ao38 t208.length co38)) (fun _ h_ => h_.1))) (Kd.S_base ho0) hb); have n2_ := Aside0.mk (Kd.N_lower (Kd.N_mono (ok' := fun k_ => (P1_1_ k_ ∨ w.heap.size ≤ k_) ∧ k_ ≠ gb204 ∧ k_ ≠ gb211) (Kd.S_N (Kd.S_bound ho0)) (fun k_ hk_ => ⟨(.inr (Nat.le_trans (below_size (by repeat (first | (with_reducible first | exact HB.out | apply below_alloc | apply pw_below_drewN | apply below_drew1 | refine below_set ?_ GE204.out | refine below_set ?_ GE211.out) | exact HB.out))) hk_.2.1)), (Kd.freshB (g := gb204) (o := .cells #[.int .i64 a1_0, .slice A1_1 l1_1.length c1_1] 25 (0, 0)) (by (with_reducible repeat (first | refine blk_drewN ?_ _ | refine blk_drew ?_ | refine blk_alloc ?_ _)); refine blk_far ?_ NB204_211.out _; (with_reducible repeat (first | refine blk_drewN ?_ _ | refine blk_drew ?_ | refine blk_alloc ?_ _)); refine blk_far ?_ NB204_211.out _; (with_reducible repeat (first | refine blk_drewN ?_ _ | refine blk_drew ?_ | refine blk_alloc ?_ _)); exact BK204.out) k_ hk_.2.1), (Kd.freshB (g := gb211) (o := .cells #[.int .i64 t207, .slice Ao38 t208.length co38] 25 (0, 0)) (by (with_reducible repeat (first | refine blk_drewN ?_ _ | refine blk_drew ?_ | refine blk_alloc ?_ _)); refine blk_put (cs := #[.int .i64 t207, .slice none 0 0]) ?_ 1 _ rfl; (with_reducible repeat (first | refine blk_drewN ?_ _ | refine blk_drew ?_ | refine blk_alloc ?_ _)); refine blk_put (cs := #[.int .i64 0, .slice none 0 0]) ?_ 0 _ rfl; (with_reducible repeat (first | refine blk_drewN ?_ _ | refine blk_drew ?_ | refine blk_alloc ?_ _)); exact BK211.out) k_ hk_.2.1)⟩)) (below_size (by repeat (first | (with_reducible first | exact HB.out | apply below_alloc | apply pw_below_drewN | apply below_drew1 | refine below_set ?_ GE204.out | refine below_set ?_ GE211.out) | exact HB.out)))); have n3_ := Aside0.mk (blk_below (g := gb204) (o := .cells #[.int .i64 a1_0, .slice A1_1 l1_1.length c1_1] 25 (0, 0)) (by (with_reducible repeat (first | refine blk_drewN ?_ _ | refine blk_drew ?_ | refine blk_alloc ?_ _)); refine blk_far ?_ NB204_211.out _; (with_reducible repeat (first | refine blk_drewN ?_ _ | refine blk_drew ?_ | refine blk_alloc ?_ _)); refine blk_far ?_ NB204_211.out _; (with_reducible repeat (first | refine blk_drewN ?_ _ | refine blk_drew ?_ | refine blk_alloc ?_ _)); exact BK204.out) hb); have n4_ := Aside0.mk (blk_below (g := gb211) (o := .cells #[.int .i64 t207, .slice Ao38 t208.length co38] 25 (0, 0)) (by (with_reducible repeat (first | refine blk_drewN ?_ _ | refine blk_drew ?_ | refine blk_alloc ?_ _)); refine blk_put (cs := #[.int .i64 t207, .slice none 0 0]) ?_ 1 _ rfl; (with_reducible repeat (first | refine blk_drewN ?_ _ | refine blk_drew ?_ | refine blk_alloc ?_ _)); refine blk_put (cs := #[.int .i64 0, .slice none 0 0]) ?_ 0 _ rfl; (with_reducible repeat (first | refine blk_drewN ?_ _ | refine blk_drew ?_ | refine blk_alloc ?_ _)); exact BK211.out) hb); have n5_ := Aside0.mk (below_step (by repeat (first | (with_reducible first | exact HB.out | apply below_alloc | apply pw_below_drewN | apply below_drew1 | refine below_set ?_ GE204.out | refine below_set ?_ GE211.out) | exact HB.out)) hb); clear HO_205001; clear HO210; clear BK204; clear BK211; clear HB; have HO_205001 := n0_; have HO210 := n1_; have HO219 := n2_; have BK204 := n3_; have BK211 := n4_; have HB := n5_; clear n0_ n1_ n2_ n3_ n4_ n5_; (try clear hb); (try clear hb2); (try clear hk); (try clear hi); (try clear ho0)))
          go_loopg [9, 10, 12] kj2 (fun kq v9 v10 v12 w' => ∃ (x9_2 : List (S25)) (x10_2 : Bool) (x11_2 : List (S25)) (x12_2 : Int) (x205000_2 : Int) (x205001_2 : List Int) (x212000_2 : Int) (x212001_2 : List Int) (u205001 : Value) (u212001 : Value), v10 = .bool x10_2 ∧ v12 = .int .i64 x12_2 ∧ Aside0 (slotmeshref33_Add.l0 kq t216 x9_2 x10_2 x11_2 x12_2 x212000_2 x212001_2 = some (r1, r2, r3)) ∧ Aside0 (kq ≤ kj2) ∧ Aside0 (Kd.N k25 25 w' w.heap.size (fun k_ => (P1_1_ k_ ∨ w.heap.size ≤ k_) ∧ some k_ ≠ (v218 : Value).ownBlock ∧ k_ ≠ gb204 ∧ k_ ≠ gb211) v9 x9_2) ∧ Aside0 (Kd.N k25 25 w' w.heap.size (fun k_ => (P1_1_ k_ ∨ w.heap.size ≤ k_) ∧ some k_ ≠ (v9 : Value).ownBlock ∧ k_ ≠ gb204 ∧ k_ ≠ gb211) v218 x11_2) ∧ Aside0 (Kd.V (Kd.int .u8) 5 w' w.heap.size (fun k_ => (P1_1_ k_ ∨ w.heap.size ≤ k_) ∧ some k_ ≠ (v9 : Value).ownBlock ∧ some k_ ≠ (v218 : Value).ownBlock ∧ k_ ≠ gb204 ∧ k_ ≠ gb211) u205001 x205001_2) ∧ Aside0 (Kd.V (Kd.int .u8) 5 w' w.heap.size (fun k_ => (P1_1_ k_ ∨ w.heap.size ≤ k_) ∧ some k_ ≠ (v9 : Value).ownBlock ∧ some k_ ≠ (v218 : Value).ownBlock ∧ k_ ≠ gb204 ∧ k_ ≠ gb211) u212001 x212001_2) ∧ Aside0 (w'.heap[gb204]? = some (.cells #[.int .i64 x205000_2, u205001] 25 (0, 0))) ∧ Aside0 (w'.heap[gb211]? = some (.cells #[.int .i64 x212000_2, u212001] 25 (0, 0))) ∧ Aside0 (Below w.heap.size w w'))
          case atStart => exact ⟨(([] : List (S25))), (false), (t217), (0), (a1_0), (l1_1), (t207), (t208), (.slice A1_1 l1_1.length c1_1), (.slice Ao38 t208.length co38), (by first | rfl | (simp; done) | (simp [*]; done)), (by first | rfl | (simp; done) | (simp [*]; done)), H', ⟨Nat.le_refl _⟩, ⟨by first | exact Kd.S_nil _ _ _ _ _ | exact Kd.N_nil _ _ _ _ _ | exact Kd.V_nil _ _ _ _ _ | exact Kd.Q_nil _ _ _ _ _ | exact Kd.R_nil _ _ _ _ _⟩, ⟨by (with_reducible repeat (first | apply Kd.N_alloc | apply Kd.N_drewN | apply Kd.N_drew)); exact Kd.N_mono HO219.out (fun _ hk => ⟨hk.1, ⟨(by simp [Value.ownBlock]), ⟨hk.2.1, hk.2.2⟩⟩⟩)⟩, ⟨by (with_reducible repeat (first | apply Kd.V_alloc | apply Kd.V_drewN | apply Kd.V_drew)); exact Kd.V_mono HO_205001.out (fun _ hk => ⟨hk.1.1.1, ⟨(by simp [Value.ownBlock]), ⟨hk.2, ⟨hk.1.1.2, hk.1.2⟩⟩⟩⟩)⟩, ⟨by (with_reducible repeat (first | apply Kd.V_alloc | apply Kd.V_drewN | apply Kd.V_drew)); exact Kd.V_mono HO210.out (fun _ hk => ⟨hk.1.1.1, ⟨(by simp [Value.ownBlock]), ⟨hk.2, ⟨hk.1.1.2, hk.1.2⟩⟩⟩⟩)⟩, ⟨by (with_reducible repeat (first | refine blk_drewN ?_ _ | refine blk_drew ?_ | refine blk_alloc ?_ _)); exact BK204.out⟩, ⟨by (with_reducible repeat (first | refine blk_drewN ?_ _ | refine blk_drew ?_ | refine blk_alloc ?_ _)); exact BK211.out⟩, ⟨by repeat (first | (with_reducible first | exact HB.out | apply below_alloc | apply pw_below_drewN | apply below_drew1 | refine below_set ?_ GE204.out | refine below_set ?_ GE211.out) | exact HB.out)⟩⟩
          case round =>
            clear H'
            try clear c1
            try clear c2
            try clear p2
            try clear c3
            try clear c6
            try clear c12
            try clear c13
            try clear c14
            try clear c14b0
            try clear c14b1
            try clear c16
            try clear c21
            try clear c28
            try clear c34
            try clear c35
            try clear c36
            try clear c37
            try clear hcz18_0
            try clear hcz18_1
            try clear hcz22_0
            try clear hcz22_1
            try clear hcz25_0
            try clear hcz25_1
            try clear hcz29_0
            try clear hcz29_1
            try clear hcz33_0
            try clear hcz33_1
            try clear hcz37_0
            try clear hcz37_1
            try clear hcz9_0
            try clear hcz9_1
            try clear hfz18_0
            try clear hfz18_1
            try clear hfz22_0
            try clear hfz22_1
            try clear hfz25_0
            try clear hfz25_1
            try clear hfz29_0
            try clear hfz29_1
            try clear hfz33_0
            try clear hfz33_1
            try clear hfz37_0
            try clear hfz37_1
            try clear hfz9_0
            try clear hfz9_1
            try clear p2
            obtain ⟨x9_2, x10_2, x11_2, x12_2, x205000_2, x205001_2, x212000_2, x212001_2, u205001, u212001, rfl, rfl, HA, HK2, HO_9, HO_11, HO_205001, HO_212001, BK204, BK211, HB⟩ := hrel
            cases gk with
            | zero => exact absurd HA.out (by simp [slotmeshref33_Add.l0])
            | succ k2 =>
              have H := HA.out
              clear HA
              simp only [slotmeshref33_Add.l0] at H
              by_cases c40 : x12_2 < (x11_2.length : Int)
              · rw [if_pos c40] at H
                have c40b0 : decide (x12_2 < (x11_2.length : Int)) = true := decide_eq_true c40
                clear c40
                have HC41 := Aside0.mk H
                clear H
                obtain ⟨Ao42, co42, eo42⟩ := Kd.N_slice HO_11.out
                subst eo42
                go_upto_region 15 with (fail)
                go_cut [55] (fun v55 wc => ∃ (kq : Nat) (x55_40 : Bool), v55 = .bool x55_40 ∧ Aside0 (slotmeshref33_Add.j2 kq t216 x9_2 x10_2 x11_2 x12_2 x55_40 x212000_2 x212001_2 = some (r1, r2, r3)) ∧ Aside0 (kq ≤ k2) ∧ Aside0 (Kd.N k25 25 wc w.heap.size (fun k_ => (P1_1_ k_ ∨ w.heap.size ≤ k_) ∧ some k_ ≠ ((.slice Ao42 x11_2.length co42) : Value).ownBlock ∧ k_ ≠ gb204 ∧ k_ ≠ gb211) u9 x9_2) ∧ Aside0 (Kd.N k25 25 wc w.heap.size (fun k_ => (P1_1_ k_ ∨ w.heap.size ≤ k_) ∧ some k_ ≠ (u9 : Value).ownBlock ∧ k_ ≠ gb204 ∧ k_ ≠ gb211) (.slice Ao42 x11_2.length co42) x11_2) ∧ Aside0 (Kd.V (Kd.int .u8) 5 wc w.heap.size (fun k_ => (P1_1_ k_ ∨ w.heap.size ≤ k_) ∧ some k_ ≠ (u9 : Value).ownBlock ∧ some k_ ≠ ((.slice Ao42 x11_2.length co42) : Value).ownBlock ∧ k_ ≠ gb204 ∧ k_ ≠ gb211) u205001 x205001_2) ∧ Aside0 (Kd.V (Kd.int .u8) 5 wc w.heap.size (fun k_ => (P1_1_ k_ ∨ w.heap.size ≤ k_) ∧ some k_ ≠ (u9 : Value).ownBlock ∧ some k_ ≠ ((.slice Ao42 x11_2.length co42) : Value).ownBlock ∧ k_ ≠ gb204 ∧ k_ ≠ gb211) u212001 x212001_2) ∧ Aside0 (wc.heap[gb204]? = some (.cells #[.int .i64 x205000_2, u205001] 25 (0, 0))) ∧ Aside0 (wc.heap[gb211]? = some (.cells #[.int .i64 x212000_2, u212001] 25 (0, 0))) ∧ Aside0 (Below w.heap.size w wc))
                case first =>
                  have H := HC41.out
                  clear HC41
                  by_cases c43 : x10_2 = true
                  · subst c43
                    have H1 : (slotmeshref33_Add.j2 k2 t216 x9_2 true x11_2 x12_2 false x212000_2 x212001_2) = some (r1, r2, r3) := by rw [if_pos rfl] at H; exact H
                    clear H
                    have H := H1
                    clear H1
                    have H' := Aside0.mk H
                    clear H
                    go_wp2
                    go_meet
                    case rel => exact ⟨_, (false), (by first | rfl | (simp; done) | (simp [*]; done)), H', ⟨by have := HJ2.out; have := HK2.out; first | omega | exact Nat.le_refl _⟩, ⟨by (with_reducible repeat (first | apply Kd.N_alloc | apply Kd.N_drewN | apply Kd.N_drew)); exact HO_9.out⟩, ⟨by (with_reducible repeat (first | apply Kd.N_alloc | apply Kd.N_drewN | apply Kd.N_drew)); exact HO_11.out⟩, ⟨by (with_reducible repeat (first | apply Kd.V_alloc | apply Kd.V_drewN | apply Kd.V_drew)); exact HO_205001.out⟩, ⟨by (with_reducible repeat (first | apply Kd.V_alloc | apply Kd.V_drewN | apply Kd.V_drew)); exact HO_212001.out⟩, ⟨by (with_reducible repeat (first | refine blk_drewN ?_ _ | refine blk_drew ?_ | refine blk_alloc ?_ _)); exact BK204.out⟩, ⟨by (with_reducible repeat (first | refine blk_drewN ?_ _ | refine blk_drew ?_ | refine blk_alloc ?_ _)); exact BK211.out⟩, ⟨by repeat (first | (with_reducible first | exact HB.out | apply below_alloc | apply pw_below_drewN | apply below_drew1 | refine below_set ?_ GE204.out | refine below_set ?_ GE211.out) | exact HB.out)⟩⟩
                  · replace c43 := Bool.eq_false_iff.mpr c43
                    subst c43
                    have H1 : (if 0 ≤ x12_2 then ((slotmeshref33_Leading.f k2 ((rd_T25 x11_2 x12_2).f0)).bind fun t224 => (slotmeshref33_Add.j2 k2 t216 x9_2 false x11_2 x12_2 (decide (t224 < t216)) x212000_2 x212001_2)) else (none)) = some (r1, r2, r3) := by rw [if_neg (show ¬ (false = true) by decide)] at H; exact H
                    clear H
                    have H := H1
                    clear H1
                    by_cases c44 : 0 ≤ x12_2
                    · rw [if_pos c44] at H
                      have c44b0 : decide (0 ≤ x12_2) = true := decide_eq_true c44
                      clear c44
                      (first | rw [c44b0] | (simp only [i64_w, i32_w]; rw [c44b0]) | skip)
                      replace H := Option.bind_eq_some_iff.mp H
                      obtain ⟨t224, A450, H⟩ := H
                      replace H : (slotmeshref33_Add.j2 k2 t216 x9_2 false x11_2 x12_2 (decide (t224 < t216)) x212000_2 x212001_2) = some (r1, r2, r3) := H
                      have A45 := Aside0.mk A450
                      clear A450
                      have H' := Aside0.mk H
                      clear H
                      have p223 : 0 ≤ (x12_2 : Int) := of_decide_eq_true (by first | (with_reducible assumption) | assumption)
                      have q223 : x12_2 < (x11_2.length : Int) := of_decide_eq_true (by first | (with_reducible assumption) | assumption)
                      obtain ⟨ad223, A223_1, c223_1, e223, hx223_0, hx223_1, hl223_1, hi223_1⟩ := at_T25 (Kd.N_reads' HO_11.out).2.2 x12_2 p223 q223
                      cases e223
                      obtain ⟨ce223, hce223, hMe223, hcc223⟩ := Kd.N_get HO_11.out z25 x12_2 p223 (by first | exact q223 | exact of_decide_eq_true (by first | (with_reducible assumption) | assumption) | (have e_ := (Kd.N_reads' HO_11.out).1; omega))
                      obtain ⟨ua223_1, uc223_1, rfl, ul223_1, ge223_1⟩ := k25_openF hMe223
                      have hv223_1 := hcc223 1 _ rfl
                      rw [add_field _ _ 1 (by omega)] at hv223_1
                      replace hv223_1 := Option.some.inj (hv223_1.symm.trans hx223_1)
                      injection hv223_1 with hva_ hvn_ hvc_
                      rw [hva_] at ge223_1
                      rw [hvc_] at ul223_1
                      have HL223_1 := Aside0.mk (show Kd.V (Kd.int .u8) 5 _ w.heap.size _ _ ((rd_T25 x11_2 x12_2).f1) from Kd.V_mk ul223_1 ge223_1)
                      clear hva_ hvn_ hvc_ ge223_1 ul223_1
                      clear hcc223 hce223
                      have HR223_1 := Aside0.mk hi223_1
                      have HC223_1 := Aside0.mk hl223_1
                      clear hi223_1 hl223_1
                      replace p223 := eq_true p223
                      replace q223 := eq_true q223
                      go_wp2_with (first | (go_at_call 37; (with_reducible refine (slotmeshref33_Leading.calls k2 ((rd_T25 x11_2 x12_2).f0) t224 _ A45.out).mono ?_); rintro e w' ⟨rfl, ⟨nd, rfl⟩⟩))
                      go_meet
                      case rel => exact ⟨_, (decide (t224 < t216)), (by first | rfl | (simp; done) | (simp [*]; done)), H', ⟨by have := HJ2.out; have := HK2.out; first | omega | exact Nat.le_refl _⟩, ⟨by (with_reducible repeat (first | apply Kd.N_alloc | apply Kd.N_drewN | apply Kd.N_drew)); exact HO_9.out⟩, ⟨by (with_reducible repeat (first | apply Kd.N_alloc | apply Kd.N_drewN | apply Kd.N_drew)); exact HO_11.out⟩, ⟨by (with_reducible repeat (first | apply Kd.V_alloc | apply Kd.V_drewN | apply Kd.V_drew)); exact HO_205001.out⟩, ⟨by (with_reducible repeat (first | apply Kd.V_alloc | apply Kd.V_drewN | apply Kd.V_drew)); exact HO_212001.out⟩, ⟨by (with_reducible repeat (first | refine blk_drewN ?_ _ | refine blk_drew ?_ | refine blk_alloc ?_ _)); exact BK204.out⟩, ⟨by (with_reducible repeat (first | refine blk_drewN ?_ _ | refine blk_drew ?_ | refine blk_alloc ?_ _)); exact BK211.out⟩, ⟨by repeat (first | (with_reducible first | exact HB.out | apply below_alloc | apply pw_below_drewN | apply below_drew1 | refine below_set ?_ GE204.out | refine below_set ?_ GE211.out) | exact HB.out)⟩⟩
                    · rw [if_neg c44] at H
                      exact absurd H (by simp)
                case rest =>
                  clear HC41
                  try clear c1
                  try clear c2
                  try clear p2
                  try clear q2
                  try clear hx2
                  try clear c3
                  try clear c4
                  try clear c6
                  try clear c12
                  try clear c13
                  try clear c14
                  try clear c14b0
                  try clear c14b1
                  try clear c16
                  try clear c21
                  try clear c22
                  try clear p22
                  try clear q22
                  try clear hx22
                  try clear c28
                  try clear c34
                  try clear c35
                  try clear c36
                  try clear c37
                  try clear c40
                  try clear c40b0
                  try clear c43
                  try clear c44
                  try clear c44b0
                  try clear hcz18_0
                  try clear hcz18_1
                  try clear hcz22_0
                  try clear hcz22_1
                  try clear hcz25_0
                  try clear hcz25_1
                  try clear hcz29_0
                  try clear hcz29_1
                  try clear hcz33_0
                  try clear hcz33_1
                  try clear hcz37_0
                  try clear hcz37_1
                  try clear hcz9_0
                  try clear hcz9_1
                  try clear hfz18_0
                  try clear hfz18_1
                  try clear hfz22_0
                  try clear hfz22_1
                  try clear hfz25_0
                  try clear hfz25_1
                  try clear hfz29_0
                  try clear hfz29_1
                  try clear hfz33_0
                  try clear hfz33_1
                  try clear hfz37_0
                  try clear hfz37_1
                  try clear hfz9_0
                  try clear hfz9_1
                  try clear hx223_0
                  try clear hx223_1
                  try clear p2
                  try clear p223
                  try clear q223
                  obtain ⟨kq, x55_40, rfl, HA, HJ40, HO_9, HO_11, HO_205001, HO_212001, BK204, BK211, HB⟩ := hcut
                  cases kq with
                  | zero => exact absurd HA.out (by simp [slotmeshref33_Add.j2])
                  | succ kj40 =>
                    have H := HA.out
                    clear HA
                    simp only [slotmeshref33_Add.j2] at H
                    have HC46 := Aside0.mk H
                    clear H
                    go_upto_if 55 with (fail)
                    go_cut [9, 10] (fun v9 v10 wc => ∃ (kq : Nat) (x9_45 : List (S25)) (x10_45 : Bool), v10 = .bool x10_45 ∧ Aside0 (slotmeshref33_Add.j3 kq t216 x9_45 x10_45 x11_2 x12_2 x212000_2 x212001_2 = some (r1, r2, r3)) ∧ Aside0 (kq ≤ kj40) ∧ Aside0 (Kd.N k25 25 wc w.heap.size (fun k_ => (P1_1_ k_ ∨ w.heap.size ≤ k_) ∧ some k_ ≠ ((.slice Ao42 x11_2.length co42) : Value).ownBlock ∧ k_ ≠ gb204 ∧ k_ ≠ gb211) v9 x9_45) ∧ Aside0 (Kd.N k25 25 wc w.heap.size (fun k_ => (P1_1_ k_ ∨ w.heap.size ≤ k_) ∧ some k_ ≠ (v9 : Value).ownBlock ∧ k_ ≠ gb204 ∧ k_ ≠ gb211) (.slice Ao42 x11_2.length co42) x11_2) ∧ Aside0 (Kd.V (Kd.int .u8) 5 wc w.heap.size (fun k_ => (P1_1_ k_ ∨ w.heap.size ≤ k_) ∧ some k_ ≠ (v9 : Value).ownBlock ∧ some k_ ≠ ((.slice Ao42 x11_2.length co42) : Value).ownBlock ∧ k_ ≠ gb204 ∧ k_ ≠ gb211) u205001 x205001_2) ∧ Aside0 (Kd.V (Kd.int .u8) 5 wc w.heap.size (fun k_ => (P1_1_ k_ ∨ w.heap.size ≤ k_) ∧ some k_ ≠ (v9 : Value).ownBlock ∧ some k_ ≠ ((.slice Ao42 x11_2.length co42) : Value).ownBlock ∧ k_ ≠ gb204 ∧ k_ ≠ gb211) u212001 x212001_2) ∧ Aside0 (wc.heap[gb204]? = some (.cells #[.int .i64 x205000_2, u205001] 25 (0, 0))) ∧ Aside0 (wc.heap[gb211]? = some (.cells #[.int .i64 x212000_2, u212001] 25 (0, 0))) ∧ Aside0 (Below w.heap.size w wc))
                    case first =>
                      have H := HC46.out
                      clear HC46
                      by_cases c47 : x55_40 = true
                      · subst c47
                        have H1 : (if x9_2.length < 4398046511104 then (slotmeshref33_Add.j3 kj40 t216 (x9_2 ++ [(⟨x212000_2, x212001_2⟩ : S25)]) true x11_2 x12_2 x212000_2 x212001_2) else (none)) = some (r1, r2, r3) := by rw [if_pos rfl] at H; exact H
                        clear H
                        have H := H1
                        clear H1
                        by_cases c48 : x9_2.length < 4398046511104
                        · rw [if_pos c48] at H
                          have LMc48 := Aside0.mk c48
                          clear c48
                          obtain ⟨y225, hy225⟩ : ∃ y_ : List (S25), y_ = (x9_2 ++ [(⟨x212000_2, x212001_2⟩ : S25)]) := ⟨_, rfl⟩
                          replace H : (slotmeshref33_Add.j3 kj40 t216 y225 true x11_2 x12_2 x212000_2 x212001_2) = some (r1, r2, r3) := by first | (rw [hy225]; with_reducible exact H) | (have H2_ := (Option.bind_some _ _).symm.trans H; rw [hy225]; with_reducible exact H2_) | (have H2_ := (Option.bind_some _ _).symm.trans H; with_reducible exact H2_) | with_reducible exact H | (rw [hy225]; exact H) | exact H
                          have Ny225 := Aside0.mk hy225
                          clear hy225
                          have H' := Aside0.mk H
                          clear H
                          have hnb49 := NB211_204.out
                          have hnc49 := NB204_211.out
                          have hcz50_0 : wc.cell? ⟨gb211, 0, none⟩ = some (.int .i64 x212000_2) := (blk_cell BK211.out 0).trans rfl
                          have hcz50_1 : wc.cell? ⟨gb211, 1, none⟩ = some (u212001) := (blk_cell BK211.out 1).trans rfl
                          have hfz50_0 := blk_frozen BK211.out 0
                          have hfz50_1 := blk_frozen BK211.out 1
                          obtain ⟨Ao52, co52, eo52⟩ := Kd.V_slice HO_212001.out
                          subst eo52
                          go_wp2_with (first | ((with_reducible refine gate_builtin (b := .append) (xs := #[.tmp 56, .tmp 58]) rfl ?_); at_builtin; refine Kd.N_append k25 (w0 := w) w.heap.size rfl (.tmp 56) (.tmp 58) 22 25 (.agg #[(.int .i64 0), (.slice none 0 0)]) 32 rfl Try.underlying22 info25 rfl (by decide) (by omega) u9 x9_2 (⟨x212000_2, x212001_2⟩ : S25) [.int .i64 x212000_2, .slice Ao52 x212001_2.length co52] (fun k_ => (P1_1_ k_ ∨ w.heap.size ≤ k_) ∧ some k_ ≠ (.slice Ao42 x11_2.length co42 : Value).ownBlock ∧ k_ ≠ gb204 ∧ k_ ≠ gb211) (fun k_ => ((fun k_ => (P1_1_ k_ ∨ w.heap.size ≤ k_) ∧ some k_ ≠ (.slice Ao42 x11_2.length co42 : Value).ownBlock ∧ k_ ≠ gb204 ∧ k_ ≠ gb211)) k_ ∧ some k_ ≠ (u9 : Value).ownBlock) rfl rfl ?aP (fun _ hk => hk) ?aF ?aO ?aB ?aS ?aL ?_; (case aP => exact (k25_mkF _ _ (⟨x212000_2, x212001_2⟩ : S25) (Kd.V_reads' (Kd.V_mono (ok' := (fun k_ => ((fun k_ => (P1_1_ k_ ∨ w.heap.size ≤ k_) ∧ some k_ ≠ (.slice Ao42 x11_2.length co42 : Value).ownBlock ∧ k_ ≠ gb204 ∧ k_ ≠ gb211)) k_ ∧ some k_ ≠ (u9 : Value).ownBlock)) (HO_212001.out) (fun k_ hk => ⟨⟨hk.1, ⟨hk.2.2.1, ⟨hk.2.2.2.1, hk.2.2.2.2⟩⟩⟩, hk.2.1⟩))).2.1 (Kd.V_F (Kd.V_mono (ok' := (fun k_ => ((fun k_ => (P1_1_ k_ ∨ w.heap.size ≤ k_) ∧ some k_ ≠ (.slice Ao42 x11_2.length co42 : Value).ownBlock ∧ k_ ≠ gb204 ∧ k_ ≠ gb211)) k_ ∧ some k_ ≠ (u9 : Value).ownBlock)) (HO_212001.out) (fun k_ hk => ⟨⟨hk.1, ⟨hk.2.2.1, ⟨hk.2.2.2.1, hk.2.2.2.2⟩⟩⟩, hk.2.1⟩))))); (case aB => exact (by repeat (first | (with_reducible first | exact HB.out | apply below_alloc | apply pw_below_drewN | apply below_drew1 | refine below_set ?_ GE204.out | refine below_set ?_ GE211.out) | exact HB.out))); (case aF => exact (fun k_ hk => ⟨(.inr (Nat.le_trans (below_size (by repeat (first | (with_reducible first | exact HB.out | apply below_alloc | apply pw_below_drewN | apply below_drew1 | refine below_set ?_ GE204.out | refine below_set ?_ GE211.out) | exact HB.out))) hk)), Kd.fresh' (Kd.N_lt (by (with_reducible repeat (first | apply Kd.N_alloc | apply Kd.N_drewN | apply Kd.N_drew)); exact HO_11.out)) k_ hk, Kd.freshB (g := gb204) (o := .cells #[.int .i64 x205000_2, u205001] 25 (0, 0)) (by (with_reducible repeat (first | refine blk_drewN ?_ _ | refine blk_drew ?_ | refine blk_alloc ?_ _)); exact BK204.out) k_ hk, Kd.freshB (g := gb211) (o := .cells #[.int .i64 x212000_2, .slice Ao52 x212001_2.length co52] 25 (0, 0)) (by (with_reducible repeat (first | refine blk_drewN ?_ _ | refine blk_drew ?_ | refine blk_alloc ?_ _)); exact BK211.out) k_ hk⟩)); (case aO => exact (by (with_reducible repeat (first | apply Kd.N_alloc | apply Kd.N_drewN | apply Kd.N_drew)); exact HO_9.out)); (case aS => exact (below_size (by repeat (first | (with_reducible first | exact HB.out | apply below_alloc | apply pw_below_drewN | apply below_drew1 | refine below_set ?_ GE204.out | refine below_set ?_ GE211.out) | exact HB.out)))); (case aL => have := LMc48.out; omega); intro v226 w51 ho hb hg hat; rw [← Ny225.out] at ho; have n0_ := Aside0.mk (Kd.N_afterv (ok := (fun k_ => (P1_1_ k_ ∨ w.heap.size ≤ k_) ∧ k_ ≠ gb204 ∧ k_ ≠ gb211)) (by (with_reducible repeat (first | apply Kd.N_alloc | apply Kd.N_drewN | apply Kd.N_drew)); exact Kd.N_mono HO_11.out (fun _ hk => ⟨⟨hk.1, ⟨hk.2.2.1, hk.2.2.2⟩⟩, hk.2.1⟩)) hg hat); have n1_ := Aside0.mk (Kd.V_afterv (ok := (fun k_ => (P1_1_ k_ ∨ w.heap.size ≤ k_) ∧ some k_ ≠ (.slice Ao42 x11_2.length co42 : Value).ownBlock ∧ k_ ≠ gb204 ∧ k_ ≠ gb211)) (by (with_reducible repeat (first | apply Kd.V_alloc | apply Kd.V_drewN | apply Kd.V_drew)); exact Kd.V_mono HO_205001.out (fun _ hk => ⟨⟨hk.1, ⟨hk.2.2.1, ⟨hk.2.2.2.1, hk.2.2.2.2⟩⟩⟩, hk.2.1⟩)) hg hat); have n2_ := Aside0.mk (Kd.V_afterv (ok := (fun k_ => (P1_1_ k_ ∨ w.heap.size ≤ k_) ∧ some k_ ≠ (.slice Ao42 x11_2.length co42 : Value).ownBlock ∧ k_ ≠ gb204 ∧ k_ ≠ gb211)) (by (with_reducible repeat (first | apply Kd.V_alloc | apply Kd.V_drewN | apply Kd.V_drew)); exact Kd.V_mono HO_212001.out (fun _ hk => ⟨⟨hk.1, ⟨hk.2.2.1, ⟨hk.2.2.2.1, hk.2.2.2.2⟩⟩⟩, hk.2.1⟩)) hg hat); have n3_ := Aside0.mk (blk_grown (g := gb204) (o := .cells #[.int .i64 x205000_2, u205001] 25 (0, 0)) (by (with_reducible repeat (first | refine blk_drewN ?_ _ | refine blk_drew ?_ | refine blk_alloc ?_ _)); exact BK204.out) hg (Kd.N_away HO_9.out (fun _ hk => hk.2.2.1))); have n4_ := Aside0.mk (blk_grown (g := gb211) (o := .cells #[.int .i64 x212000_2, .slice Ao52 x212001_2.length co52] 25 (0, 0)) (by (with_reducible repeat (first | refine blk_drewN ?_ _ | refine blk_drew ?_ | refine blk_alloc ?_ _)); exact BK211.out) hg (Kd.N_away HO_9.out (fun _ hk => hk.2.2.2))); have n5_ := Aside0.mk (hb); have n6_ := Aside0.mk (ho); clear HO_11; clear HO_205001; clear HO_212001; clear BK204; clear BK211; clear HB; clear HO_9; have HO_11 := n0_; have HO_205001 := n1_; have HO_212001 := n2_; have BK204 := n3_; have BK211 := n4_; have HB := n5_; have HO227 := n6_; clear n0_ n1_ n2_ n3_ n4_ n5_ n6_; clear ho hb hg hat))
                          go_meet
                          case rel => exact ⟨_, (y225), (true), (by first | rfl | (simp; done) | (simp [*]; done)), H', ⟨by have := HJ2.out; have := HK2.out; have := HJ40.out; first | omega | exact Nat.le_refl _⟩, ⟨by (with_reducible repeat (first | apply Kd.N_alloc | apply Kd.N_drewN | apply Kd.N_drew)); exact HO227.out⟩, ⟨by (with_reducible repeat (first | apply Kd.N_alloc | apply Kd.N_drewN | apply Kd.N_drew)); exact Kd.N_mono HO_11.out (fun _ hk => ⟨hk.1.1, ⟨hk.2, ⟨hk.1.2.1, hk.1.2.2⟩⟩⟩)⟩, ⟨by (with_reducible repeat (first | apply Kd.V_alloc | apply Kd.V_drewN | apply Kd.V_drew)); exact Kd.V_mono HO_205001.out (fun _ hk => ⟨hk.1.1, ⟨hk.2, ⟨hk.1.2.1, ⟨hk.1.2.2.1, hk.1.2.2.2⟩⟩⟩⟩)⟩, ⟨by (with_reducible repeat (first | apply Kd.V_alloc | apply Kd.V_drewN | apply Kd.V_drew)); exact Kd.V_mono HO_212001.out (fun _ hk => ⟨hk.1.1, ⟨hk.2, ⟨hk.1.2.1, ⟨hk.1.2.2.1, hk.1.2.2.2⟩⟩⟩⟩)⟩, ⟨by (with_reducible repeat (first | refine blk_drewN ?_ _ | refine blk_drew ?_ | refine blk_alloc ?_ _)); exact BK204.out⟩, ⟨by (with_reducible repeat (first | refine blk_drewN ?_ _ | refine blk_drew ?_ | refine blk_alloc ?_ _)); exact BK211.out⟩, ⟨by repeat (first | (with_reducible first | exact HB.out | apply below_alloc | apply pw_below_drewN | apply below_drew1 | refine below_set ?_ GE204.out | refine below_set ?_ GE211.out) | exact HB.out)⟩⟩
                        · rw [if_neg c48] at H
                          exact absurd H (by simp)
                      · replace c47 := Bool.eq_false_iff.mpr c47
                        subst c47
                        have H1 : (slotmeshref33_Add.j3 kj40 t216 x9_2 x10_2 x11_2 x12_2 x212000_2 x212001_2) = some (r1, r2, r3) := by rw [if_neg (show ¬ (false = true) by decide)] at H; exact H
                        clear H
                        have H := H1
                        clear H1
                        have H' := Aside0.mk H
                        clear H
                        go_wp2
                        go_meet
                        case rel => exact ⟨_, (x9_2), (x10_2), (by first | rfl | (simp; done) | (simp [*]; done)), H', ⟨by have := HJ2.out; have := HK2.out; have := HJ40.out; first | omega | exact Nat.le_refl _⟩, ⟨by (with_reducible repeat (first | apply Kd.N_alloc | apply Kd.N_drewN | apply Kd.N_drew)); exact HO_9.out⟩, ⟨by (with_reducible repeat (first | apply Kd.N_alloc | apply Kd.N_drewN | apply Kd.N_drew)); exact HO_11.out⟩, ⟨by (with_reducible repeat (first | apply Kd.V_alloc | apply Kd.V_drewN | apply Kd.V_drew)); exact HO_205001.out⟩, ⟨by (with_reducible repeat (first | apply Kd.V_alloc | apply Kd.V_drewN | apply Kd.V_drew)); exact HO_212001.out⟩, ⟨by (with_reducible repeat (first | refine blk_drewN ?_ _ | refine blk_drew ?_ | refine blk_alloc ?_ _)); exact BK204.out⟩, ⟨by (with_reducible repeat (first | refine blk_drewN ?_ _ | refine blk_drew ?_ | refine blk_alloc ?_ _)); exact BK211.out⟩, ⟨by repeat (first | (with_reducible first | exact HB.out | apply below_alloc | apply pw_below_drewN | apply below_drew1 | refine below_set ?_ GE204.out | refine below_set ?_ GE211.out) | exact HB.out)⟩⟩
                    case rest =>
                      clear HC46
                      try clear c1
                      try clear c2
                      try clear p2
                      try clear q2
                      try clear hx2
                      try clear c3
                      try clear c4
                      try clear c6
                      try clear c12
                      try clear c13
                      try clear c14
                      try clear c14b0
                      try clear c14b1
                      try clear c16
                      try clear c21
                      try clear c22
                      try clear p22
                      try clear q22
                      try clear hx22
                      try clear c28
                      try clear c34
                      try clear c35
                      try clear c36
                      try clear c37
                      try clear c40
                      try clear c40b0
                      try clear c43
                      try clear c44
                      try clear c44b0
                      try clear c47
                      try clear c48
                      try clear c49
                      try clear hcz18_0
                      try clear hcz18_1
                      try clear hcz22_0
                      try clear hcz22_1
                      try clear hcz25_0
                      try clear hcz25_1
                      try clear hcz29_0
                      try clear hcz29_1
                      try clear hcz33_0
                      try clear hcz33_1
                      try clear hcz37_0
                      try clear hcz37_1
                      try clear hcz50_0
                      try clear hcz50_1
                      try clear hcz9_0
                      try clear hcz9_1
                      try clear hfz18_0
                      try clear hfz18_1
                      try clear hfz22_0
                      try clear hfz22_1
                      try clear hfz25_0
                      try clear hfz25_1
                      try clear hfz29_0
                      try clear hfz29_1
                      try clear hfz33_0
                      try clear hfz33_1
                      try clear hfz37_0
                      try clear hfz37_1
                      try clear hfz50_0
                      try clear hfz50_1
                      try clear hfz9_0
                      try clear hfz9_1
                      try clear hx223_0
                      try clear hx223_1
                      try clear p2
                      try clear p22
                      try clear p223
                      try clear q2
                      try clear q22
                      try clear q223
                      obtain ⟨kq, x9_45, x10_45, rfl, HA, HJ45, HO_9, HO_11, HO_205001, HO_212001, BK204, BK211, HB⟩ := hcut
                      cases kq with
                      | zero => exact absurd HA.out (by simp [slotmeshref33_Add.j3])
                      | succ kj45 =>
                        have H := HA.out
                        clear HA
                        simp only [slotmeshref33_Add.j3] at H
                        by_cases c53 : 0 ≤ x12_2
                        · rw [if_pos c53] at H
                          have c53b0 : decide (0 ≤ x12_2) = true := decide_eq_true c53
                          clear c53
                          by_cases c54 : x12_2 < (x11_2.length : Int)
                          · rw [if_pos c54] at H
                            have c54b0 : decide (x12_2 < (x11_2.length : Int)) = true := decide_eq_true c54
                            clear c54
                            by_cases c55 : (Go.bits .and .i64 ((rd_T25 x11_2 x12_2).f0) t216) = 0
                            · rw [if_pos c55] at H
                              have c55b0 : ((Go.bits .and .i64 ((rd_T25 x11_2 x12_2).f0) t216) == 0) = true := beq_iff_eq.mpr c55
                              have c55b1 : ((Go.bits .and .i64 ((rd_T25 x11_2 x12_2).f0) t216) != 0) = false := bne_eq_false_iff_eq.mpr c55
                              clear c55
                              by_cases c56 : x9_45.length < 4398046511104
                              · rw [if_pos c56] at H
                                have LMc56 := Aside0.mk c56
                                clear c56
                                obtain ⟨y230, hy230⟩ : ∃ y_ : List (S25), y_ = (x9_45 ++ [(⟨(rd_T25 x11_2 x12_2).f0, (rd_T25 x11_2 x12_2).f1⟩ : S25)]) := ⟨_, rfl⟩
                                replace H : (slotmeshref33_Add.l0 kj45 t216 y230 x10_45 x11_2 (wrap64 (x12_2 + 1)) x212000_2 x212001_2) = some (r1, r2, r3) := by first | (rw [hy230]; with_reducible exact H) | (have H2_ := (Option.bind_some _ _).symm.trans H; rw [hy230]; with_reducible exact H2_) | (have H2_ := (Option.bind_some _ _).symm.trans H; with_reducible exact H2_) | with_reducible exact H | (rw [hy230]; exact H) | exact H
                                have Ny230 := Aside0.mk hy230
                                clear hy230
                                have H' := Aside0.mk H
                                clear H
                                have p228 : 0 ≤ (x12_2 : Int) := of_decide_eq_true (by first | (with_reducible assumption) | assumption)
                                have q228 : x12_2 < (x11_2.length : Int) := of_decide_eq_true (by first | (with_reducible assumption) | assumption)
                                obtain ⟨ad228, A228_1, c228_1, e228, hx228_0, hx228_1, hl228_1, hi228_1⟩ := at_T25 (Kd.N_reads' HO_11.out).2.2 x12_2 p228 q228
                                cases e228
                                obtain ⟨ce228, hce228, hMe228, hcc228⟩ := Kd.N_get HO_11.out z25 x12_2 p228 (by first | exact q228 | exact of_decide_eq_true (by first | (with_reducible assumption) | assumption) | (have e_ := (Kd.N_reads' HO_11.out).1; omega))
                                obtain ⟨ua228_1, uc228_1, rfl, ul228_1, ge228_1⟩ := k25_openF hMe228
                                have hv228_1 := hcc228 1 _ rfl
                                rw [add_field _ _ 1 (by omega)] at hv228_1
                                replace hv228_1 := Option.some.inj (hv228_1.symm.trans hx228_1)
                                injection hv228_1 with hva_ hvn_ hvc_
                                rw [hva_] at ge228_1
                                rw [hvc_] at ul228_1
                                have HL228_1 := Aside0.mk (show Kd.V (Kd.int .u8) 5 _ w.heap.size _ _ ((rd_T25 x11_2 x12_2).f1) from Kd.V_mk ul228_1 ge228_1)
                                clear hva_ hvn_ hvc_ ge228_1 ul228_1
                                clear hcc228 hce228
                                have HR228_1 := Aside0.mk hi228_1
                                have HC228_1 := Aside0.mk hl228_1
                                clear hi228_1 hl228_1
                                replace p228 := eq_true p228
                                replace q228 := eq_true q228
                                have p229 : 0 ≤ (x12_2 : Int) := of_decide_eq_true (by first | (with_reducible assumption) | assumption)
                                have q229 : x12_2 < (x11_2.length : Int) := of_decide_eq_true (by first | (with_reducible assumption) | assumption)
                                obtain ⟨ad229, A229_1, c229_1, e229, hx229_0, hx229_1, hl229_1, hi229_1⟩ := at_T25 (Kd.N_reads' HO_11.out).2.2 x12_2 p229 q229
                                obtain rfl : ad228 = ad229 := (by injection e229)
                                obtain ⟨ce229, hce229, hMe229, hcc229⟩ := Kd.N_get HO_11.out z25 x12_2 p229 (by first | exact q229 | exact of_decide_eq_true (by first | (with_reducible assumption) | assumption) | (have e_ := (Kd.N_reads' HO_11.out).1; omega))
                                obtain ⟨ua229_1, uc229_1, rfl, ul229_1, ge229_1⟩ := k25_openF hMe229
                                have hv229_1 := hcc229 1 _ rfl
                                rw [add_field _ _ 1 (by omega)] at hv229_1
                                replace hv229_1 := Option.some.inj (hv229_1.symm.trans hx229_1)
                                injection hv229_1 with hva_ hvn_ hvc_
                                rw [hva_] at ge229_1
                                rw [hvc_] at ul229_1
                                have HL229_1 := Aside0.mk (show Kd.V (Kd.int .u8) 5 _ w.heap.size _ _ ((rd_T25 x11_2 x12_2).f1) from Kd.V_mk ul229_1 ge229_1)
                                clear hva_ hvn_ hvc_ ge229_1 ul229_1
                                clear hcc229 hce229
                                have HR229_1 := Aside0.mk hi229_1
                                have HC229_1 := Aside0.mk hl229_1
                                clear hi229_1 hl229_1
                                replace p229 := eq_true p229
                                replace q229 := eq_true q229
                                have ea_ := Option.some.inj (hx228_1.symm.trans hx229_1)
                                injection ea_ with ea_ en_ ec_
                                subst ea_
                                subst ec_
                                clear en_
                                go_wp2_with (first | ((with_reducible refine gate_builtin (b := .append) (xs := #[.tmp 88, .tmp 93]) rfl ?_); at_builtin; refine Kd.N_append k25 (w0 := w) w.heap.size rfl (.tmp 88) (.tmp 93) 22 25 (.agg #[(.int .i64 0), (.slice none 0 0)]) 32 rfl Try.underlying22 info25 rfl (by decide) (by omega) u9 x9_45 (⟨(rd_T25 x11_2 x12_2).f0, (rd_T25 x11_2 x12_2).f1⟩ : S25) [.int .i64 ((rd_T25 x11_2 x12_2).f0), .slice A228_1 ((rd_T25 x11_2 x12_2).f1).length c228_1] (fun k_ => (P1_1_ k_ ∨ w.heap.size ≤ k_) ∧ some k_ ≠ (.slice (some ad228) x11_2.length co42 : Value).ownBlock ∧ k_ ≠ gb204 ∧ k_ ≠ gb211) (fun k_ => ((fun k_ => (P1_1_ k_ ∨ w.heap.size ≤ k_) ∧ some k_ ≠ (.slice (some ad228) x11_2.length co42 : Value).ownBlock ∧ k_ ≠ gb204 ∧ k_ ≠ gb211)) k_ ∧ some k_ ≠ (u9 : Value).ownBlock) rfl rfl ?aP (fun _ hk => hk) ?aF ?aO ?aB ?aS ?aL ?_; (case aP => exact (k25_mkF _ _ (⟨(rd_T25 x11_2 x12_2).f0, (rd_T25 x11_2 x12_2).f1⟩ : S25) (Kd.V_reads' (Kd.V_mono (ok' := (fun k_ => ((fun k_ => (P1_1_ k_ ∨ w.heap.size ≤ k_) ∧ some k_ ≠ (.slice (some ad228) x11_2.length co42 : Value).ownBlock ∧ k_ ≠ gb204 ∧ k_ ≠ gb211)) k_ ∧ some k_ ≠ (u9 : Value).ownBlock)) (HL229_1.out) (fun k_ hk => ⟨⟨hk.1.1, ⟨hk.2, ⟨hk.1.2.2.1, hk.1.2.2.2⟩⟩⟩, hk.1.2.1⟩))).2.1 (Kd.V_F (Kd.V_mono (ok' := (fun k_ => ((fun k_ => (P1_1_ k_ ∨ w.heap.size ≤ k_) ∧ some k_ ≠ (.slice (some ad228) x11_2.length co42 : Value).ownBlock ∧ k_ ≠ gb204 ∧ k_ ≠ gb211)) k_ ∧ some k_ ≠ (u9 : Value).ownBlock)) (HL229_1.out) (fun k_ hk => ⟨⟨hk.1.1, ⟨hk.2, ⟨hk.1.2.2.1, hk.1.2.2.2⟩⟩⟩, hk.1.2.1⟩))))); (case aB => exact (by repeat (first | (with_reducible first | exact HB.out | apply below_alloc | apply pw_below_drewN | apply below_drew1 | refine below_set ?_ GE204.out | refine below_set ?_ GE211.out) | exact HB.out))); (case aF => exact (fun k_ hk => ⟨(.inr (Nat.le_trans (below_size (by repeat (first | (with_reducible first | exact HB.out | apply below_alloc | apply pw_below_drewN | apply below_drew1 | refine below_set ?_ GE204.out | refine below_set ?_ GE211.out) | exact HB.out))) hk)), Kd.fresh' (Kd.N_lt (by (with_reducible repeat (first | apply Kd.N_alloc | apply Kd.N_drewN | apply Kd.N_drew)); exact HO_11.out)) k_ hk, Kd.freshB (g := gb204) (o := .cells #[.int .i64 x205000_2, u205001] 25 (0, 0)) (by (with_reducible repeat (first | refine blk_drewN ?_ _ | refine blk_drew ?_ | refine blk_alloc ?_ _)); exact BK204.out) k_ hk, Kd.freshB (g := gb211) (o := .cells #[.int .i64 x212000_2, u212001] 25 (0, 0)) (by (with_reducible repeat (first | refine blk_drewN ?_ _ | refine blk_drew ?_ | refine blk_alloc ?_ _)); exact BK211.out) k_ hk⟩)); (case aO => exact (by (with_reducible repeat (first | apply Kd.N_alloc | apply Kd.N_drewN | apply Kd.N_drew)); exact HO_9.out)); (case aS => exact (below_size (by repeat (first | (with_reducible first | exact HB.out | apply below_alloc | apply pw_below_drewN | apply below_drew1 | refine below_set ?_ GE204.out | refine below_set ?_ GE211.out) | exact HB.out)))); (case aL => have := LMc56.out; omega); intro v231 w57 ho hb hg hat; rw [← Ny230.out] at ho; have n0_ := Aside0.mk (Kd.N_afterv (ok := (fun k_ => (P1_1_ k_ ∨ w.heap.size ≤ k_) ∧ k_ ≠ gb204 ∧ k_ ≠ gb211)) (by (with_reducible repeat (first | apply Kd.N_alloc | apply Kd.N_drewN | apply Kd.N_drew)); exact Kd.N_mono HO_11.out (fun _ hk => ⟨⟨hk.1, ⟨hk.2.2.1, hk.2.2.2⟩⟩, hk.2.1⟩)) hg hat); have n1_ := Aside0.mk (Kd.V_afterv (ok := (fun k_ => (P1_1_ k_ ∨ w.heap.size ≤ k_) ∧ some k_ ≠ (.slice (some ad228) x11_2.length co42 : Value).ownBlock ∧ k_ ≠ gb204 ∧ k_ ≠ gb211)) (by (with_reducible repeat (first | apply Kd.V_alloc | apply Kd.V_drewN | apply Kd.V_drew)); exact Kd.V_mono HO_205001.out (fun _ hk => ⟨⟨hk.1, ⟨hk.2.2.1, ⟨hk.2.2.2.1, hk.2.2.2.2⟩⟩⟩, hk.2.1⟩)) hg hat); have n2_ := Aside0.mk (Kd.V_afterv (ok := (fun k_ => (P1_1_ k_ ∨ w.heap.size ≤ k_) ∧ some k_ ≠ (.slice (some ad228) x11_2.length co42 : Value).ownBlock ∧ k_ ≠ gb204 ∧ k_ ≠ gb211)) (by (with_reducible repeat (first | apply Kd.V_alloc | apply Kd.V_drewN | apply Kd.V_drew)); exact Kd.V_mono HO_212001.out (fun _ hk => ⟨⟨hk.1, ⟨hk.2.2.1, ⟨hk.2.2.2.1, hk.2.2.2.2⟩⟩⟩, hk.2.1⟩)) hg hat); have n3_ := Aside0.mk (blk_grown (g := gb204) (o := .cells #[.int .i64 x205000_2, u205001] 25 (0, 0)) (by (with_reducible repeat (first | refine blk_drewN ?_ _ | refine blk_drew ?_ | refine blk_alloc ?_ _)); exact BK204.out) hg (Kd.N_away HO_9.out (fun _ hk => hk.2.2.1))); have n4_ := Aside0.mk (blk_grown (g := gb211) (o := .cells #[.int .i64 x212000_2, u212001] 25 (0, 0)) (by (with_reducible repeat (first | refine blk_drewN ?_ _ | refine blk_drew ?_ | refine blk_alloc ?_ _)); exact BK211.out) hg (Kd.N_away HO_9.out (fun _ hk => hk.2.2.2))); have n5_ := Aside0.mk (Kd.V_afterv (ok := (fun k_ => (P1_1_ k_ ∨ w.heap.size ≤ k_) ∧ some k_ ≠ (.slice (some ad228) x11_2.length co42 : Value).ownBlock ∧ k_ ≠ gb204 ∧ k_ ≠ gb211)) (by (with_reducible repeat (first | apply Kd.V_alloc | apply Kd.V_drewN | apply Kd.V_drew)); exact Kd.V_mono HL228_1.out (fun _ hk => ⟨⟨hk.1.1, ⟨hk.2, ⟨hk.1.2.2.1, hk.1.2.2.2⟩⟩⟩, hk.1.2.1⟩)) hg hat); have n6_ := Aside0.mk (Kd.V_afterv (ok := (fun k_ => (P1_1_ k_ ∨ w.heap.size ≤ k_) ∧ some k_ ≠ (.slice (some ad228) x11_2.length co42 : Value).ownBlock ∧ k_ ≠ gb204 ∧ k_ ≠ gb211)) (by (with_reducible repeat (first | apply Kd.V_alloc | apply Kd.V_drewN | apply Kd.V_drew)); exact Kd.V_mono HL229_1.out (fun _ hk => ⟨⟨hk.1.1, ⟨hk.2, ⟨hk.1.2.2.1, hk.1.2.2.2⟩⟩⟩, hk.1.2.1⟩)) hg hat); have n7_ := Aside0.mk (hb); have n8_ := Aside0.mk (ho); clear HO_11; clear HO_205001; clear HO_212001; clear BK204; clear BK211; clear HL228_1; clear HL229_1; clear HB; clear HO_9; have HO_11 := n0_; have HO_205001 := n1_; have HO_212001 := n2_; have BK204 := n3_; have BK211 := n4_; have HL228_1 := n5_; have HL229_1 := n6_; have HB := n7_; have HO232 := n8_; clear n0_ n1_ n2_ n3_ n4_ n5_ n6_ n7_ n8_; clear ho hb hg hat))
                                go_roundg kj45
                                case measure => have := HJ2.out; have := HK2.out; have := HJ40.out; have := HJ45.out; omega
                                case rel => exact ⟨(y230), (x10_45), (x11_2), (wrap64 (x12_2 + 1)), (x205000_2), (x205001_2), (x212000_2), (x212001_2), (u205001), (u212001), (by first | rfl | (simp; done) | (simp [*]; done)), (by first | rfl | (simp; done) | (simp [*]; done)), H', ⟨by have := HJ2.out; have := HK2.out; have := HJ40.out; have := HJ45.out; omega⟩, ⟨by (with_reducible repeat (first | apply Kd.N_alloc | apply Kd.N_drewN | apply Kd.N_drew)); exact HO232.out⟩, ⟨by (with_reducible repeat (first | apply Kd.N_alloc | apply Kd.N_drewN | apply Kd.N_drew)); exact Kd.N_mono HO_11.out (fun _ hk => ⟨hk.1.1, ⟨hk.2, ⟨hk.1.2.1, hk.1.2.2⟩⟩⟩)⟩, ⟨by (with_reducible repeat (first | apply Kd.V_alloc | apply Kd.V_drewN | apply Kd.V_drew)); exact Kd.V_mono HO_205001.out (fun _ hk => ⟨hk.1.1, ⟨hk.2, ⟨hk.1.2.1, ⟨hk.1.2.2.1, hk.1.2.2.2⟩⟩⟩⟩)⟩, ⟨by (with_reducible repeat (first | apply Kd.V_alloc | apply Kd.V_drewN | apply Kd.V_drew)); exact Kd.V_mono HO_212001.out (fun _ hk => ⟨hk.1.1, ⟨hk.2, ⟨hk.1.2.1, ⟨hk.1.2.2.1, hk.1.2.2.2⟩⟩⟩⟩)⟩, ⟨by (with_reducible repeat (first | refine blk_drewN ?_ _ | refine blk_drew ?_ | refine blk_alloc ?_ _)); exact BK204.out⟩, ⟨by (with_reducible repeat (first | refine blk_drewN ?_ _ | refine blk_drew ?_ | refine blk_alloc ?_ _)); exact BK211.out⟩, ⟨by repeat (first | (with_reducible first | exact HB.out | apply below_alloc | apply pw_below_drewN | apply below_drew1 | refine below_set ?_ GE204.out | refine below_set ?_ GE211.out) | exact HB.out)⟩⟩
                              · rw [if_neg c56] at H
                                exact absurd H (by simp)
                            · rw [if_neg c55] at H
                              have c55b0 : ((Go.bits .and .i64 ((rd_T25 x11_2 x12_2).f0) t216) == 0) = false := beq_eq_false_iff_ne.mpr c55
                              have c55b1 : ((Go.bits .and .i64 ((rd_T25 x11_2 x12_2).f0) t216) != 0) = true := bne_iff_ne.mpr c55
                              replace H := Option.bind_eq_some_iff.mp H
                              obtain ⟨t235, A580, H⟩ := H
                              replace H : ((some (x11_2.set (x12_2 : Int).toNat (⟨Go.bits .xor .i64 ((rd_T25 x11_2 x12_2).f0) x212000_2, t235⟩ : S25) : List (S25))).bind fun y238 => (if x9_45.length < 4398046511104 then (slotmeshref33_Add.l0 kj45 t216 (x9_45 ++ [(⟨(rd_T25 y238 x12_2).f0, (rd_T25 y238 x12_2).f1⟩ : S25)]) x10_45 y238 (wrap64 (x12_2 + 1)) x212000_2 x212001_2) else (none))) = some (r1, r2, r3) := H
                              have A58 := Aside0.mk A580
                              clear A580
                              obtain ⟨y238, hy238⟩ : ∃ y_ : List (S25), y_ = (x11_2.set (x12_2 : Int).toNat (⟨Go.bits .xor .i64 ((rd_T25 x11_2 x12_2).f0) x212000_2, t235⟩ : S25)) := ⟨_, rfl⟩
                              replace H : (if x9_45.length < 4398046511104 then (slotmeshref33_Add.l0 kj45 t216 (x9_45 ++ [(⟨(rd_T25 y238 x12_2).f0, (rd_T25 y238 x12_2).f1⟩ : S25)]) x10_45 y238 (wrap64 (x12_2 + 1)) x212000_2 x212001_2) else (none)) = some (r1, r2, r3) := by first | (rw [hy238]; with_reducible exact H) | (have H2_ := (Option.bind_some _ _).symm.trans H; rw [hy238]; with_reducible exact H2_) | (have H2_ := (Option.bind_some _ _).symm.trans H; with_reducible exact H2_) | with_reducible exact H | (rw [hy238]; exact H) | exact H
                              have Ny238 := Aside0.mk hy238
                              clear hy238
                              by_cases c60 : x9_45.length < 4398046511104
                              · rw [if_pos c60] at H
                                have LMc60 := Aside0.mk c60
                                clear c60
                                obtain ⟨y240, hy240⟩ : ∃ y_ : List (S25), y_ = (x9_45 ++ [(⟨(rd_T25 y238 x12_2).f0, (rd_T25 y238 x12_2).f1⟩ : S25)]) := ⟨_, rfl⟩
                                replace H : (slotmeshref33_Add.l0 kj45 t216 y240 x10_45 y238 (wrap64 (x12_2 + 1)) x212000_2 x212001_2) = some (r1, r2, r3) := by first | (rw [hy240]; with_reducible exact H) | (have H2_ := (Option.bind_some _ _).symm.trans H; rw [hy240]; with_reducible exact H2_) | (have H2_ := (Option.bind_some _ _).symm.trans H; with_reducible exact H2_) | with_reducible exact H | (rw [hy240]; exact H) | exact H
                                have Ny240 := Aside0.mk hy240
                                clear hy240
                                have H' := Aside0.mk H
                                clear H
                                have p228 : 0 ≤ (x12_2 : Int) := of_decide_eq_true (by first | (with_reducible assumption) | assumption)
                                have q228 : x12_2 < (x11_2.length : Int) := of_decide_eq_true (by first | (with_reducible assumption) | assumption)
                                obtain ⟨ad228, A228_1, c228_1, e228, hx228_0, hx228_1, hl228_1, hi228_1⟩ := at_T25 (Kd.N_reads' HO_11.out).2.2 x12_2 p228 q228
                                cases e228
                                obtain ⟨ce228, hce228, hMe228, hcc228⟩ := Kd.N_get HO_11.out z25 x12_2 p228 (by first | exact q228 | exact of_decide_eq_true (by first | (with_reducible assumption) | assumption) | (have e_ := (Kd.N_reads' HO_11.out).1; omega))
                                obtain ⟨ua228_1, uc228_1, rfl, ul228_1, ge228_1⟩ := k25_openF hMe228
                                have hv228_1 := hcc228 1 _ rfl
                                rw [add_field _ _ 1 (by omega)] at hv228_1
                                replace hv228_1 := Option.some.inj (hv228_1.symm.trans hx228_1)
                                injection hv228_1 with hva_ hvn_ hvc_
                                rw [hva_] at ge228_1
                                rw [hvc_] at ul228_1
                                have HL228_1 := Aside0.mk (show Kd.V (Kd.int .u8) 5 _ w.heap.size _ _ ((rd_T25 x11_2 x12_2).f1) from Kd.V_mk ul228_1 ge228_1)
                                clear hva_ hvn_ hvc_ ge228_1 ul228_1
                                clear hcc228 hce228
                                have HR228_1 := Aside0.mk hi228_1
                                have HC228_1 := Aside0.mk hl228_1
                                clear hi228_1 hl228_1
                                replace p228 := eq_true p228
                                replace q228 := eq_true q228
                                try go_wp2
                                have n0_ := Aside0.mk (Kd.N_drew HO_9.out)
                                have n1_ := Aside0.mk (Kd.N_drew HO_11.out)
                                have n2_ := Aside0.mk (Kd.V_drew HO_205001.out)
                                have n3_ := Aside0.mk (Kd.V_drew HO_212001.out)
                                have n4_ := Aside0.mk (Kd.V_drew HL228_1.out)
                                have n5_ := Aside0.mk (blk_drew BK204.out)
                                have n6_ := Aside0.mk (blk_drew BK211.out)
                                have n7_ := Aside0.mk (Kd.C_drew HR228_1.out)
                                have n8_ := Aside0.mk (below_drew1 HB.out)
                                clear HO_9
                                clear HO_11
                                clear HO_205001
                                clear HO_212001
                                clear HL228_1
                                clear BK204
                                clear BK211
                                clear HR228_1
                                clear HB
                                have HO_9 := n0_
                                have HO_11 := n1_
                                have HO_205001 := n2_
                                have HO_212001 := n3_
                                have HL228_1 := n4_
                                have BK204 := n5_
                                have BK211 := n6_
                                have HR228_1 := n7_
                                have HB := n8_
                                clear n0_ n1_ n2_ n3_ n4_ n5_ n6_ n7_ n8_
                                have p233 : 0 ≤ (x12_2 : Int) := of_decide_eq_true (by first | (with_reducible assumption) | assumption)
                                have q233 : x12_2 < (x11_2.length : Int) := of_decide_eq_true (by first | (with_reducible assumption) | assumption)
                                obtain ⟨ad233, A233_1, c233_1, e233, hx233_0, hx233_1, hl233_1, hi233_1⟩ := at_T25 (Kd.N_reads' HO_11.out).2.2 x12_2 p233 q233
                                obtain rfl : ad228 = ad233 := (by injection e233)
                                obtain ⟨ce233, hce233, hMe233, hcc233⟩ := Kd.N_get HO_11.out z25 x12_2 p233 (by first | exact q233 | exact of_decide_eq_true (by first | (with_reducible assumption) | assumption) | (have e_ := (Kd.N_reads' HO_11.out).1; omega))
                                obtain ⟨ua233_1, uc233_1, rfl, ul233_1, ge233_1⟩ := k25_openF hMe233
                                have hv233_1 := hcc233 1 _ rfl
                                rw [add_field _ _ 1 (by omega)] at hv233_1
                                replace hv233_1 := Option.some.inj (hv233_1.symm.trans hx233_1)
                                injection hv233_1 with hva_ hvn_ hvc_
                                rw [hva_] at ge233_1
                                rw [hvc_] at ul233_1
                                have HL233_1 := Aside0.mk (show Kd.V (Kd.int .u8) 5 _ w.heap.size _ _ ((rd_T25 x11_2 x12_2).f1) from Kd.V_mk ul233_1 ge233_1)
                                clear hva_ hvn_ hvc_ ge233_1 ul233_1
                                clear hcc233 hce233
                                have HR233_1 := Aside0.mk hi233_1
                                have HC233_1 := Aside0.mk hl233_1
                                clear hi233_1 hl233_1
                                replace p233 := eq_true p233
                                replace q233 := eq_true q233
                                have p234 : 0 ≤ (x12_2 : Int) := of_decide_eq_true (by first | (with_reducible assumption) | assumption)
                                have q234 : x12_2 < (x11_2.length : Int) := of_decide_eq_true (by first | (with_reducible assumption) | assumption)
                                obtain ⟨ad234, A234_1, c234_1, e234, hx234_0, hx234_1, hl234_1, hi234_1⟩ := at_T25 (Kd.N_reads' HO_11.out).2.2 x12_2 p234 q234
                                obtain rfl : ad228 = ad234 := (by injection e234)
                                obtain ⟨ce234, hce234, hMe234, hcc234⟩ := Kd.N_get HO_11.out z25 x12_2 p234 (by first | exact q234 | exact of_decide_eq_true (by first | (with_reducible assumption) | assumption) | (have e_ := (Kd.N_reads' HO_11.out).1; omega))
                                obtain ⟨ua234_1, uc234_1, rfl, ul234_1, ge234_1⟩ := k25_openF hMe234
                                have hv234_1 := hcc234 1 _ rfl
                                rw [add_field _ _ 1 (by omega)] at hv234_1
                                replace hv234_1 := Option.some.inj (hv234_1.symm.trans hx234_1)
                                injection hv234_1 with hva_ hvn_ hvc_
                                rw [hva_] at ge234_1
                                rw [hvc_] at ul234_1
                                have HL234_1 := Aside0.mk (show Kd.V (Kd.int .u8) 5 _ w.heap.size _ _ ((rd_T25 x11_2 x12_2).f1) from Kd.V_mk ul234_1 ge234_1)
                                clear hva_ hvn_ hvc_ ge234_1 ul234_1
                                clear hcc234 hce234
                                have HR234_1 := Aside0.mk hi234_1
                                have HC234_1 := Aside0.mk hl234_1
                                clear hi234_1 hl234_1
                                replace p234 := eq_true p234
                                replace q234 := eq_true q234
                                have ea_ := Option.some.inj (hx233_1.symm.trans hx234_1)
                                injection ea_ with ea_ en_ ec_
                                subst ea_
                                subst ec_
                                clear en_
                                obtain ⟨Ao62, co62, eo62⟩ := Kd.V_slice HO_212001.out
                                (first | subst eo62 | (injection eo62 with f1_ f2_ f3_; have f4_ := f1_.symm; have f5_ := f3_.symm; clear f1_ f2_ f3_; subst f4_; subst f5_))
                                refine start_ (n := 21) (S := fun w' => w'.cell? ⟨gb211, 0, none⟩ = some (.int .i64 x212000_2) ∧ w'.cell? ⟨gb211, 1, none⟩ = some (.slice Ao62 x212001_2.length co62) ∧ w'.cell? (ad228.add ((x12_2).toNat * 2)) = some (.int .i64 ((rd_T25 x11_2 x12_2).f0)) ∧ w'.cell? ⟨(ad228.add ((x12_2).toNat * 2)).block, (ad228.add ((x12_2).toNat * 2)).off + 1, none⟩ = some (.slice A233_1 ((rd_T25 x11_2 x12_2).f1).length c233_1) ∧ w'.cell? (ad228.add ((x12_2).toNat * 2)) = some (.int .i64 ((rd_T25 x11_2 x12_2).f0)) ∧ w'.cell? ⟨(ad228.add ((x12_2).toNat * 2)).block, (ad228.add ((x12_2).toNat * 2)).off + 1, none⟩ = some (.slice A233_1 ((rd_T25 x11_2 x12_2).f1).length c233_1)) (ds := [20]) #[false, false, false, false, false, false, false, false, false, false, false, false, false, false, false, false, false, false, false, false, false] (by kernel_rfl) rfl rfl ⟨(blk_cell BK211.out 0).trans rfl, (blk_cell BK211.out 1).trans rfl, hx233_0, hx233_1, hx234_0, hx234_1⟩ (fun hHeld => ?_); refine with_tabW slotmeshref33_Add.tab19 slotmeshref33_Add.bits19 (fun HT_ HW_ => ?_)
                                generalize wc.drew = w61 at HO_9 HO_11 HO_205001 HO_212001 HL228_1 BK204 BK211 HR228_1 HB HL233_1 HL234_1 HR233_1 HR234_1 hx233_0 hx233_1 hx234_0 hx234_1 hHeld ⊢
                                refine pure_ (i := 0) (N := some 68) (v := ?_) (a' := ?_) #[true, false, false, false, false, false, false, false, false, false, false, false, false, false, false, false, false, false, false, false, false] rfl rfl (any_of HT_.out (by kernel_rfl)) (fun _ _ _ h => h) (Or.inl ⟨by rfl, ?_⟩) ?_ ?_
                                rotate_left
                                · intro w'
                                  go_simp
                                  with_reducible rfl
                                rotate_left
                                · simp only [Act.put, List.setIfInBounds_toArray, List.set_cons_zero, List.set_cons_succ, i64_w, i32_w]
                                  rfl
                                refine pure_ (i := 1) (N := some 69) (v := ?_) (a' := ?_) #[true, true, false, false, false, false, false, false, false, false, false, false, false, false, false, false, false, false, false, false, false] rfl rfl (any_of HT_.out (by kernel_rfl)) (fun _ _ _ h => h) (Or.inl ⟨by rfl, ?_⟩) ?_ ?_
                                rotate_left
                                · intro w'
                                  go_simp
                                  with_reducible rfl
                                rotate_left
                                · simp only [Act.put, List.setIfInBounds_toArray, List.set_cons_zero, List.set_cons_succ, i64_w, i32_w]
                                  rfl
                                refine pure_ (i := 2) (N := some 70) (v := ?_) (a' := ?_) #[true, true, true, false, false, false, false, false, false, false, false, false, false, false, false, false, false, false, false, false, false] rfl rfl (any_of HT_.out (by kernel_rfl)) (fun _ _ _ h => h) (Or.inl ⟨by rfl, ?_⟩) ?_ ?_
                                rotate_left
                                · intro w'
                                  go_simp
                                  with_reducible rfl
                                rotate_left
                                · simp only [Act.put, List.setIfInBounds_toArray, List.set_cons_zero, List.set_cons_succ, i64_w, i32_w]
                                  rfl
                                refine pure_ (i := 3) (N := some 71) (v := ?_) (a' := ?_) #[true, true, true, true, false, false, false, false, false, false, false, false, false, false, false, false, false, false, false, false, false] rfl rfl (any_of HT_.out (by kernel_rfl)) (fun _ _ _ h => h) (Or.inl ⟨by rfl, ?_⟩) ?_ ?_
                                rotate_left
                                · intro w'
                                  go_simp
                                  with_reducible rfl
                                rotate_left
                                · simp only [Act.put, List.setIfInBounds_toArray, List.set_cons_zero, List.set_cons_succ, i64_w, i32_w]
                                  rfl
                                refine pure_ (i := 4) (N := some 72) (v := ?_) (a' := ?_) #[true, true, true, true, true, false, false, false, false, false, false, false, false, false, false, false, false, false, false, false, false] rfl rfl (any_of HT_.out (by kernel_rfl)) (fun _ _ _ h => h) (Or.inl ⟨by rfl, ?_⟩) ?_ ?_
                                rotate_left
                                · intro w'
                                  go_simp
                                  with_reducible rfl
                                rotate_left
                                · simp only [Act.put, List.setIfInBounds_toArray, List.set_cons_zero, List.set_cons_succ, i64_w, i32_w]
                                  rfl
                                refine pure_ (i := 5) (N := some 73) (v := ?_) (a' := ?_) #[true, true, true, true, true, true, false, false, false, false, false, false, false, false, false, false, false, false, false, false, false] rfl rfl (any_of HT_.out (by kernel_rfl)) (fun _ _ _ h => h) (Or.inl ⟨by rfl, ?_⟩) ?_ ?_
                                rotate_left
                                · intro w'
                                  go_simp
                                  with_reducible rfl
                                rotate_left
                                · simp only [Act.put, List.setIfInBounds_toArray, List.set_cons_zero, List.set_cons_succ, i64_w, i32_w]
                                  rfl
                                refine pure_ (i := 7) (N := some 75) (v := ?_) (a' := ?_) #[true, true, true, true, true, true, false, true, false, false, false, false, false, false, false, false, false, false, false, false, false] rfl rfl (any_of HT_.out (by kernel_rfl)) (fun _ _ _ h => h) (Or.inl ⟨by rfl, ?_⟩) ?_ ?_
                                rotate_left
                                · intro w'
                                  go_simp
                                  with_reducible rfl
                                rotate_left
                                · simp only [Act.put, List.setIfInBounds_toArray, List.set_cons_zero, List.set_cons_succ, i64_w, i32_w]
                                  rfl
                                refine pure_ (i := 10) (N := some 78) (v := ?_) (a' := ?_) #[true, true, true, true, true, true, false, true, false, false, true, false, false, false, false, false, false, false, false, false, false] rfl rfl (any_of HT_.out (by kernel_rfl)) (fun _ _ _ h => h) (Or.inl ⟨by rfl, ?_⟩) ?_ ?_
                                rotate_left
                                · intro w'
                                  go_simp
                                  with_reducible rfl
                                rotate_left
                                · simp only [Act.put, List.setIfInBounds_toArray, List.set_cons_zero, List.set_cons_succ, i64_w, i32_w]
                                  rfl
                                refine pure_ (i := 11) (N := some 79) (v := ?_) (a' := ?_) #[true, true, true, true, true, true, false, true, false, false, true, true, false, false, false, false, false, false, false, false, false] rfl rfl (any_of HT_.out (by kernel_rfl)) (fun _ _ _ h => h) (Or.inl ⟨by rfl, ?_⟩) ?_ ?_
                                rotate_left
                                · intro w'
                                  go_simp
                                  with_reducible rfl
                                rotate_left
                                · simp only [Act.put, List.setIfInBounds_toArray, List.set_cons_zero, List.set_cons_succ, i64_w, i32_w]
                                  rfl
                                refine pure_ (i := 12) (N := some 80) (v := ?_) (a' := ?_) #[true, true, true, true, true, true, false, true, false, false, true, true, true, false, false, false, false, false, false, false, false] rfl rfl (any_of HT_.out (by kernel_rfl)) (fun _ _ _ h => h) (Or.inl ⟨by rfl, ?_⟩) ?_ ?_
                                rotate_left
                                · intro w'
                                  go_simp
                                  with_reducible rfl
                                rotate_left
                                · simp only [Act.put, List.setIfInBounds_toArray, List.set_cons_zero, List.set_cons_succ, i64_w, i32_w]
                                  rfl
                                refine pure_ (i := 13) (N := some 81) (v := ?_) (a' := ?_) #[true, true, true, true, true, true, false, true, false, false, true, true, true, true, false, false, false, false, false, false, false] rfl rfl (any_of HT_.out (by kernel_rfl)) (fun _ _ _ h => h) (Or.inl ⟨by rfl, ?_⟩) ?_ ?_
                                rotate_left
                                · intro w'
                                  go_simp
                                  with_reducible rfl
                                rotate_left
                                · simp only [Act.put, List.setIfInBounds_toArray, List.set_cons_zero, List.set_cons_succ, i64_w, i32_w]
                                  rfl
                                refine pure_ (i := 15) (N := some 83) (v := ?_) (a' := ?_) #[true, true, true, true, true, true, false, true, false, false, true, true, true, true, false, true, false, false, false, false, false] rfl rfl (any_of HT_.out (by kernel_rfl)) (fun _ _ _ h => h) (Or.inl ⟨by rfl, ?_⟩) ?_ ?_
                                rotate_left
                                · intro w'
                                  go_simp
                                  with_reducible rfl
                                rotate_left
                                · simp only [Act.put, List.setIfInBounds_toArray, List.set_cons_zero, List.set_cons_succ, i64_w, i32_w]
                                  rfl
                                refine take_ (i := 6) (N := some 74) (v := ?_) (a' := ?_) #[true, true, true, true, true, true, true, true, false, false, true, true, true, true, false, true, false, false, false, false, false] rfl rfl (take_ofW HT_.out HW_.out (by kernel_rfl)) (fun _ _ _ h => h) (Or.inl ⟨by rfl, ?_⟩) hHeld ?_ ?_
                                rotate_left
                                · rintro w' ⟨s0, s1, s2, s3, s4, s5⟩
                                  go_simp
                                  with_reducible rfl
                                rotate_left
                                · simp only [Act.put, List.setIfInBounds_toArray, List.set_cons_zero, List.set_cons_succ, i64_w, i32_w]
                                  rfl
                                refine take_ (i := 8) (N := some 76) (v := ?_) (a' := ?_) #[true, true, true, true, true, true, true, true, true, false, true, true, true, true, false, true, false, false, false, false, false] rfl rfl (take_ofW HT_.out HW_.out (by kernel_rfl)) (fun _ _ _ h => h) (Or.inl ⟨by rfl, ?_⟩) hHeld ?_ ?_
                                rotate_left
                                · rintro w' ⟨s0, s1, s2, s3, s4, s5⟩
                                  go_simp
                                  with_reducible rfl
                                rotate_left
                                · simp only [Act.put, List.setIfInBounds_toArray, List.set_cons_zero, List.set_cons_succ, i64_w, i32_w]
                                  rfl
                                refine pure_ (i := 9) (N := some 77) (v := ?_) (a' := ?_) #[true, true, true, true, true, true, true, true, true, true, true, true, true, true, false, true, false, false, false, false, false] rfl rfl (any_of HT_.out (by kernel_rfl)) (fun _ _ _ h => h) (Or.inl ⟨by rfl, ?_⟩) ?_ ?_
                                rotate_left
                                · intro w'
                                  go_simp
                                  with_reducible rfl
                                rotate_left
                                · simp only [Act.put, List.setIfInBounds_toArray, List.set_cons_zero, List.set_cons_succ, i64_w, i32_w]
                                  rfl
                                refine take_ (i := 14) (N := some 82) (v := ?_) (a' := ?_) #[true, true, true, true, true, true, true, true, true, true, true, true, true, true, true, true, false, false, false, false, false] rfl rfl (take_ofW HT_.out HW_.out (by kernel_rfl)) (fun _ _ _ h => h) (Or.inl ⟨by rfl, ?_⟩) hHeld ?_ ?_
                                rotate_left
                                · rintro w' ⟨s0, s1, s2, s3, s4, s5⟩
                                  go_simp
                                  with_reducible rfl
                                rotate_left
                                · simp only [Act.put, List.setIfInBounds_toArray, List.set_cons_zero, List.set_cons_succ, i64_w, i32_w]
                                  rfl
                                refine take_ (i := 16) (N := some 84) (v := ?_) (a' := ?_) #[true, true, true, true, true, true, true, true, true, true, true, true, true, true, true, true, true, false, false, false, false] rfl rfl (take_ofW HT_.out HW_.out (by kernel_rfl)) (fun _ _ _ h => h) (Or.inl ⟨by rfl, ?_⟩) hHeld ?_ ?_
                                rotate_left
                                · rintro w' ⟨s0, s1, s2, s3, s4, s5⟩
                                  go_simp
                                  with_reducible rfl
                                rotate_left
                                · simp only [Act.put, List.setIfInBounds_toArray, List.set_cons_zero, List.set_cons_succ, i64_w, i32_w]
                                  rfl
                                refine one_ (i := 17) (N := some 85) #[true, true, true, true, true, true, true, true, true, true, true, true, true, true, true, true, true, true, false, false, false] rfl rfl (one_of HT_.out (by kernel_rfl)) (by decide) (fun K hK => ?_)
                                refine goes_ Try.func25 (by kernel_rfl) rfl #[.slice A233_1 ((rd_T25 x11_2 x12_2).f1).length c233_1, .slice Ao62 x212001_2.length co62] (by rfl) rfl rfl (by (try simp only [List.map_toArray, List.map_cons, List.map_nil]); first | done | rfl | (simp only [List.length_drop, List.length_take]; rfl)) ?_
                                with_reducible refine (slotmeshref33_Xor.calls kj45 _ _ ((rd_T25 x11_2 x12_2).f1) _ _ x212001_2 t235 _ ?side1 ?side2 ?side3 ?side4 A58.out).mono ?_
                                (case side1 => repeat (first | exact (by repeat (first | (with_reducible exact HR234_1.out) | (with_reducible refine Kd.C_alloc ?_ _) | (with_reducible refine Kd.C_drewN ?_ _) | (with_reducible refine Kd.C_drew ?_) | exact HR234_1.out)) | (with_reducible refine Kd.C_alloc ?_ _) | (with_reducible refine Kd.C_drewN ?_ _) | (with_reducible refine Kd.C_drew ?_)))
                                (case side2 => exact HC234_1.out)
                                (case side3 => repeat (first | exact (Kd.V_reads' HO_212001.out).2.2 | (with_reducible refine Kd.C_alloc ?_ _) | (with_reducible refine Kd.C_drewN ?_ _) | (with_reducible refine Kd.C_drew ?_)))
                                (case side4 => exact (Kd.V_reads' HO_212001.out).2.1)
                                rintro e w63 ⟨v236, rfl, ho0, hb⟩
                                have HS2_ := (hb.cell (World.block_lt_of_cell? _ _ (hHeld.2.2.1))).trans (hHeld.2.2.1)
                                have HS3_ := (hb.cell (World.block_lt_of_cell? _ _ (hHeld.2.2.2.1))).trans (hHeld.2.2.2.1)
                                have HS4_ := (hb.cell (World.block_lt_of_cell? _ _ (hHeld.2.2.2.2.1))).trans (hHeld.2.2.2.2.1)
                                have HS5_ := (hb.cell (World.block_lt_of_cell? _ _ (hHeld.2.2.2.2.2))).trans (hHeld.2.2.2.2.2)
                                refine ⟨_, rfl, ?_⟩
                                have n0_ := Aside0.mk (Kd.N_elder' (by (with_reducible repeat (first | apply Kd.N_alloc | apply Kd.N_drewN | apply Kd.N_drew)); exact HO_9.out) (Kd.R_base ho0) hb)
                                have n1_ := Aside0.mk (Kd.N_elder' (by (with_reducible repeat (first | apply Kd.N_alloc | apply Kd.N_drewN | apply Kd.N_drew)); exact HO_11.out) (Kd.R_base ho0) hb)
                                have n2_ := Aside0.mk (Kd.V_elder' (by (with_reducible repeat (first | apply Kd.V_alloc | apply Kd.V_drewN | apply Kd.V_drew)); exact HO_205001.out) (Kd.R_base ho0) hb)
                                have n3_ := Aside0.mk (Kd.V_elder' (by (with_reducible repeat (first | apply Kd.V_alloc | apply Kd.V_drewN | apply Kd.V_drew)); exact HO_212001.out) (Kd.R_base ho0) hb)
                                have n4_ := Aside0.mk (Kd.V_elder' (by (with_reducible repeat (first | apply Kd.V_alloc | apply Kd.V_drewN | apply Kd.V_drew)); exact HL228_1.out) (Kd.R_base ho0) hb)
                                have n5_ := Aside0.mk (Kd.V_elder' (by (with_reducible repeat (first | apply Kd.V_alloc | apply Kd.V_drewN | apply Kd.V_drew)); exact HL233_1.out) (Kd.R_base ho0) hb)
                                have n6_ := Aside0.mk (Kd.V_elder' (by (with_reducible repeat (first | apply Kd.V_alloc | apply Kd.V_drewN | apply Kd.V_drew)); exact HL234_1.out) (Kd.R_base ho0) hb)
                                have n7_ := Aside0.mk (Kd.R_lower (Kd.R_newM (M := fun k_ => (w.heap.size ≤ k_)) ho0 (below_size (by repeat (first | (with_reducible first | exact HB.out | apply below_alloc | apply pw_below_drewN | apply below_drew1 | refine below_set ?_ GE204.out | refine below_set ?_ GE211.out) | exact HB.out))) (fun k_ h_ => h_)) (below_size (by repeat (first | (with_reducible first | exact HB.out | apply below_alloc | apply pw_below_drewN | apply below_drew1 | refine below_set ?_ GE204.out | refine below_set ?_ GE211.out) | exact HB.out))))
                                have n8_ := Aside0.mk (blk_below (g := gb204) (o := .cells #[.int .i64 x205000_2, u205001] 25 (0, 0)) (by (with_reducible repeat (first | refine blk_drewN ?_ _ | refine blk_drew ?_ | refine blk_alloc ?_ _)); exact BK204.out) hb)
                                have n9_ := Aside0.mk (blk_below (g := gb211) (o := .cells #[.int .i64 x212000_2, .slice Ao62 x212001_2.length co62] 25 (0, 0)) (by (with_reducible repeat (first | refine blk_drewN ?_ _ | refine blk_drew ?_ | refine blk_alloc ?_ _)); exact BK211.out) hb)
                                have n10_ := Aside0.mk (Kd.C_below (by repeat (first | (with_reducible exact HR228_1.out) | (with_reducible refine Kd.C_alloc ?_ _) | (with_reducible refine Kd.C_drewN ?_ _) | (with_reducible refine Kd.C_drew ?_) | exact HR228_1.out)) hb)
                                have n11_ := Aside0.mk (Kd.C_below (by repeat (first | (with_reducible exact HR233_1.out) | (with_reducible refine Kd.C_alloc ?_ _) | (with_reducible refine Kd.C_drewN ?_ _) | (with_reducible refine Kd.C_drew ?_) | exact HR233_1.out)) hb)
                                have n12_ := Aside0.mk (Kd.C_below (by repeat (first | (with_reducible exact HR234_1.out) | (with_reducible refine Kd.C_alloc ?_ _) | (with_reducible refine Kd.C_drewN ?_ _) | (with_reducible refine Kd.C_drew ?_) | exact HR234_1.out)) hb)
                                have n13_ := Aside0.mk (below_step (by repeat (first | (with_reducible first | exact HB.out | apply below_alloc | apply pw_below_drewN | apply below_drew1 | refine below_set ?_ GE204.out | refine below_set ?_ GE211.out) | exact HB.out)) hb)
                                clear HO_9
                                clear HO_11
                                clear HO_205001
                                clear HO_212001
                                clear HL228_1
                                clear HL233_1
                                clear HL234_1
                                clear BK204
                                clear BK211
                                clear HR228_1
                                clear HR233_1
                                clear HR234_1
                                clear HB
                                have HO_9 := n0_
                                have HO_11 := n1_
                                have HO_205001 := n2_
                                have HO_212001 := n3_
                                have HL228_1 := n4_
                                have HL233_1 := n5_
                                have HL234_1 := n6_
                                have HO237 := n7_
                                have BK204 := n8_
                                have BK211 := n9_
                                have HR228_1 := n10_
                                have HR233_1 := n11_
                                have HR234_1 := n12_
                                have HB := n13_
                                clear n0_ n1_ n2_ n3_ n4_ n5_ n6_ n7_ n8_ n9_ n10_ n11_ n12_ n13_
                                (try clear hb)
                                (try clear hb2)
                                (try clear hk)
                                (try clear hi)
                                (try clear ho0)
                                obtain ⟨Ao64, co64, eo64⟩ := Kd.R_slice HO237.out
                                (first | subst eo64 | (injection eo64 with f1_ f2_ f3_; have f4_ := f1_.symm; have f5_ := f3_.symm; clear f1_ f2_ f3_; subst f4_; subst f5_))
                                have p59 : 0 ≤ (x12_2 : Int) := of_decide_eq_true (by first | (with_reducible assumption) | assumption)
                                have q59 : (x12_2 : Int) < ((x11_2.length : Int) : Int) := of_decide_eq_true (by first | (with_reducible assumption) | assumption)
                                obtain ⟨go59, co59, eo59, gb59, gl59, cl59, HG59⟩ := Kd.N_form HO_11.out (by omega)
                                (first | cases eo59 | (injection eo59 with ea_ en_ ec_; (first | subst ea_ | (injection ea_ with ea_; subst ea_)); subst ec_; clear en_))
                                have GB59 := Aside0.mk gb59
                                have GG59 := Aside0.mk HG59
                                clear gb59 gl59 HG59
                                (first | simp only [add_plain] at hx228_0 | skip)
                                (first | simp only [add_plain] at hx228_1 | skip)
                                (first | simp only [add_plain] at hx229_0 | skip)
                                (first | simp only [add_plain] at hx229_1 | skip)
                                (first | simp only [add_plain] at hx233_0 | skip)
                                (first | simp only [add_plain] at hx233_1 | skip)
                                (first | simp only [add_plain] at hx234_0 | skip)
                                (first | simp only [add_plain] at hx234_1 | skip)
                                obtain ⟨ce59, hcl59, hM59, hcc59, hfr59⟩ := Kd.N_elem HO_11.out z25 (x12_2 : Int) p59 q59
                                obtain ⟨ua59_1, uc59_1, rfl, ul59_1, ge59_1⟩ := k25_openF hM59
                                have hx59_0 : World.cell? _ ⟨go59, (x12_2 : Int).toNat * 2, none⟩ = some (.int .i64 ((rd_T25 x11_2 x12_2).f0)) := hcc59 0 _ rfl
                                have hx59_1 : World.cell? _ ⟨go59, (x12_2 : Int).toNat * 2 + 1, none⟩ = some (.slice ua59_1 ((rd_T25 x11_2 x12_2).f1).length uc59_1) := hcc59 1 _ rfl
                                have hf59_0 : World.frozen? _ ⟨go59, (x12_2 : Int).toNat * 2, none⟩ = false := hfr59 0
                                have hf59_1 : World.frozen? _ ⟨go59, (x12_2 : Int).toNat * 2 + 1, none⟩ = false := hfr59 1
                                clear hcl59 hcc59 hfr59 hM59
                                replace p59 := eq_true p59
                                replace q59 := eq_true q59
                                have HX65 := Aside0.mk (show Kd.N k25 25 _ w.heap.size (fun k_ => (P1_1_ k_ ∨ w.heap.size ≤ k_) ∧ some k_ ≠ (u9 : Value).ownBlock ∧ some k_ ≠ (.slice Ao64 t235.length co64 : Value).ownBlock ∧ k_ ≠ gb204 ∧ k_ ≠ gb211) (.slice (some ⟨go59, 0, none⟩) x11_2.length co42) x11_2 from (Kd.N_mono (HO_11.out) (fun k_ hk => ⟨hk.1.1, ⟨hk.1.2.1, ⟨hk.2, ⟨hk.1.2.2.1, hk.1.2.2.2⟩⟩⟩⟩)))
                                replace HX65 := Aside0.mk (show Kd.N k25 25 _ w.heap.size (fun k_ => (P1_1_ k_ ∨ w.heap.size ≤ k_) ∧ some k_ ≠ (u9 : Value).ownBlock ∧ k_ ≠ gb204 ∧ k_ ≠ gb211) (.slice (some ⟨go59, 0, none⟩) x11_2.length co42) x11_2 from Kd.N_mono HX65.out (fun k_ hk => ⟨hk.1, ⟨hk.2.1, ⟨hk.2.2.2.1, hk.2.2.2.2⟩⟩⟩))
                                obtain ⟨ce65, hcl65, hM65, hcc65, hfr65⟩ := Kd.N_elem HX65.out z25 (x12_2 : Int) (of_decide_eq_true (by first | (with_reducible assumption) | assumption)) (by have h_ : (x12_2 : Int) < ((x11_2.length : Int) : Int) := of_decide_eq_true (by first | (with_reducible assumption) | assumption); first | exact h_ | (have e_ := (Kd.N_reads' HO_11.out).1; omega) | simpa using h_)
                                obtain ⟨ua65_1, uc65_1, rfl, ul65_1, ge65_1⟩ := k25_openF hM65
                                have HP65 := (Kd.N_seg HX65.out (x12_2 : Int) (of_decide_eq_true (by first | (with_reducible assumption) | assumption)) (by have h_ : (x12_2 : Int) < ((x11_2.length : Int) : Int) := of_decide_eq_true (by first | (with_reducible assumption) | assumption); first | exact h_ | (have e_ := (Kd.N_reads' HO_11.out).1; omega) | simpa using h_) (seg := [.int .i64 (Go.bits .xor .i64 ((rd_T25 x11_2 x12_2).f0) x212000_2), .slice Ao64 t235.length co64]) (j := 0) hcl65 hcc65 (show 2 ≤ 2 from by decide) (x' := (⟨Go.bits .xor .i64 ((rd_T25 x11_2 x12_2).f0) x212000_2, t235⟩ : S25)) (k25_mkF _ _ (⟨Go.bits .xor .i64 ((rd_T25 x11_2 x12_2).f0) x212000_2, t235⟩ : S25) (Kd.R_reads' (Kd.R_mono (ok' := (fun k_ => ((fun k_ => (P1_1_ k_ ∨ w.heap.size ≤ k_) ∧ some k_ ≠ (u9 : Value).ownBlock ∧ k_ ≠ gb204 ∧ k_ ≠ gb211)) k_ ∧ k_ ≠ go59)) (Kd.R_types (Kd.R_types (Kd.R_apart' (Kd.R_apart' (HO237.out) (Kd.N_typed HO_9.out) (by decide)) (Kd.N_typed HO_11.out) (by decide)) BK204.out (by decide)) BK211.out (by decide)) (fun k_ hk => ⟨⟨(.inr (hk.1.1.1.1.1)), ⟨hk.1.1.1.2, ⟨hk.1.2, hk.2⟩⟩⟩, fun e_ => (hk.1.1.2) (by rw [e_]; rfl)⟩))).2.1 (Kd.R_F (Kd.R_mono (ok' := (fun k_ => ((fun k_ => (P1_1_ k_ ∨ w.heap.size ≤ k_) ∧ some k_ ≠ (u9 : Value).ownBlock ∧ k_ ≠ gb204 ∧ k_ ≠ gb211)) k_ ∧ k_ ≠ go59)) (Kd.R_types (Kd.R_types (Kd.R_apart' (Kd.R_apart' (HO237.out) (Kd.N_typed HO_9.out) (by decide)) (Kd.N_typed HO_11.out) (by decide)) BK204.out (by decide)) BK211.out (by decide)) (fun k_ hk => ⟨⟨(.inr (hk.1.1.1.1.1)), ⟨hk.1.1.1.2, ⟨hk.1.2, hk.2⟩⟩⟩, fun e_ => (hk.1.1.2) (by rw [e_]; rfl)⟩)))) (fun _ hk => hk)).1
                                rw [← Ny238.out] at HP65
                                have HQ65 := Aside0.mk HP65
                                clear hcl65 hcc65 hfr65 hM65 HP65
                                refine hK.out _ _ ⟨(blk_cell BK211.out 0).trans rfl, (blk_cell BK211.out 1).trans rfl, HS2_, HS3_, HS4_, HS5_⟩ (fun hHeld => ?_)
                                clear hK K
                                refine norm_ (a' := ?_) ?_ ?_
                                rotate_left
                                · show Act.put _ (some 85) _ = _
                                  simp only [Act.put, List.setIfInBounds_toArray, List.set_cons_zero, List.set_cons_succ, i64_w, i32_w]
                                  rfl
                                refine pure_ (i := 18) (N := some 86) (v := ?_) (a' := ?_) #[true, true, true, true, true, true, true, true, true, true, true, true, true, true, true, true, true, true, true, false, false] rfl rfl (any_of HT_.out (by kernel_rfl)) (fun _ _ _ h => h) (Or.inl ⟨by rfl, ?_⟩) ?_ ?_
                                rotate_left
                                · intro w'
                                  go_simp
                                  with_reducible rfl
                                rotate_left
                                · simp only [Act.put, List.setIfInBounds_toArray, List.set_cons_zero, List.set_cons_succ, i64_w, i32_w]
                                  rfl
                                refine pure_ (i := 19) (N := some 87) (v := ?_) (a' := ?_) #[true, true, true, true, true, true, true, true, true, true, true, true, true, true, true, true, true, true, true, true, false] rfl rfl (any_of HT_.out (by kernel_rfl)) (fun _ _ _ h => h) (Or.inl ⟨by rfl, ?_⟩) ?_ ?_
                                rotate_left
                                · intro w'
                                  go_simp
                                  with_reducible rfl
                                rotate_left
                                · simp only [Act.put, List.setIfInBounds_toArray, List.set_cons_zero, List.set_cons_succ, i64_w, i32_w]
                                  rfl
                                refine last_ (i := 20) (N := none) #[true, true, true, true, true, true, true, true, true, true, true, true, true, true, true, true, true, true, true, true, true] rfl rfl (one_of HT_.out (by kernel_rfl)) (by decide) (fun K hK => ?_)
                                refine skip_ (w1 := ?_) (by rfl) rfl ?_ ?_
                                rotate_left
                                · go_simp
                                  rfl
                                refine hK.out _ _ ?_
                                clear hK K
                                refine done_ (done_of HT_.out (by kernel_rfl)) ?_
                                have n0_ : Aside0 (Kd.N k25 25 ((w63.setCell ⟨go59, (x12_2 : Int).toNat * 2, none⟩ (.int .i64 (Go.bits .xor .i64 ((rd_T25 x11_2 x12_2).f0) x212000_2))).setCell ⟨go59, (x12_2 : Int).toNat * 2 + 1, none⟩ (.slice Ao64 t235.length co64)) w.heap.size (fun k_ => (P1_1_ k_ ∨ w.heap.size ≤ k_) ∧ some k_ ≠ (.slice (some ⟨go59, 0, none⟩) x11_2.length co42 : Value).ownBlock ∧ k_ ≠ gb204 ∧ k_ ≠ gb211) u9 x9_45) := ⟨by (with_reducible repeat (first | apply Kd.N_alloc | apply Kd.N_drewN | apply Kd.N_drew)); exact Kd.N_mono (Kd.N_far (p := ⟨go59, (x12_2 : Int).toNat * 2 + 1, none⟩) (Kd.N_far (p := ⟨go59, (x12_2 : Int).toNat * 2, none⟩) (Kd.N_mono HO_9.out (fun k_ hk => (⟨hk, fun e_ => hk.1.2.1 (by rw [e_]; rfl)⟩ : _ ∧ k_ ≠ go59))) (fun _ hk => hk.2) (.int .i64 (Go.bits .xor .i64 ((rd_T25 x11_2 x12_2).f0) x212000_2))) (fun _ hk => hk.2) (.slice Ao64 t235.length co64)) (fun _ hk => ⟨hk.1.1.1, ⟨hk.1.1.2.1, ⟨hk.1.1.2.2.1, hk.1.1.2.2.2⟩⟩⟩)⟩
                                have n1_ : Aside0 (Kd.N k25 25 ((w63.setCell ⟨go59, (x12_2 : Int).toNat * 2, none⟩ (.int .i64 (Go.bits .xor .i64 ((rd_T25 x11_2 x12_2).f0) x212000_2))).setCell ⟨go59, (x12_2 : Int).toNat * 2 + 1, none⟩ (.slice Ao64 t235.length co64)) w.heap.size (fun k_ => (P1_1_ k_ ∨ w.heap.size ≤ k_) ∧ some k_ ≠ (u9 : Value).ownBlock ∧ k_ ≠ gb204 ∧ k_ ≠ gb211) (.slice (some ⟨go59, 0, none⟩) x11_2.length co42) y238) := ⟨by (with_reducible repeat (first | apply Kd.N_alloc | apply Kd.N_drewN | apply Kd.N_drew)); exact HQ65.out⟩
                                have n2_ : Aside0 (Kd.V (Kd.int .u8) 5 ((w63.setCell ⟨go59, (x12_2 : Int).toNat * 2, none⟩ (.int .i64 (Go.bits .xor .i64 ((rd_T25 x11_2 x12_2).f0) x212000_2))).setCell ⟨go59, (x12_2 : Int).toNat * 2 + 1, none⟩ (.slice Ao64 t235.length co64)) w.heap.size (fun k_ => (P1_1_ k_ ∨ w.heap.size ≤ k_) ∧ some k_ ≠ (u9 : Value).ownBlock ∧ some k_ ≠ (.slice (some ⟨go59, 0, none⟩) x11_2.length co42 : Value).ownBlock ∧ k_ ≠ gb204 ∧ k_ ≠ gb211) u205001 x205001_2) := ⟨by (with_reducible repeat (first | apply Kd.V_alloc | apply Kd.V_drewN | apply Kd.V_drew)); exact Kd.V_mono (Kd.V_far (p := ⟨go59, (x12_2 : Int).toNat * 2 + 1, none⟩) (Kd.V_far (p := ⟨go59, (x12_2 : Int).toNat * 2, none⟩) (Kd.V_mono HO_205001.out (fun k_ hk => (⟨hk, fun e_ => hk.1.2.2.1 (by rw [e_]; rfl)⟩ : _ ∧ k_ ≠ go59))) (fun _ hk => hk.2) (.int .i64 (Go.bits .xor .i64 ((rd_T25 x11_2 x12_2).f0) x212000_2))) (fun _ hk => hk.2) (.slice Ao64 t235.length co64)) (fun _ hk => ⟨hk.1.1.1, ⟨hk.1.1.2.1, ⟨hk.1.1.2.2.1, ⟨hk.1.1.2.2.2.1, hk.1.1.2.2.2.2⟩⟩⟩⟩)⟩
                                have n3_ : Aside0 (Kd.V (Kd.int .u8) 5 ((w63.setCell ⟨go59, (x12_2 : Int).toNat * 2, none⟩ (.int .i64 (Go.bits .xor .i64 ((rd_T25 x11_2 x12_2).f0) x212000_2))).setCell ⟨go59, (x12_2 : Int).toNat * 2 + 1, none⟩ (.slice Ao64 t235.length co64)) w.heap.size (fun k_ => (P1_1_ k_ ∨ w.heap.size ≤ k_) ∧ some k_ ≠ (u9 : Value).ownBlock ∧ some k_ ≠ (.slice (some ⟨go59, 0, none⟩) x11_2.length co42 : Value).ownBlock ∧ k_ ≠ gb204 ∧ k_ ≠ gb211) (.slice Ao62 x212001_2.length co62) x212001_2) := ⟨by (with_reducible repeat (first | apply Kd.V_alloc | apply Kd.V_drewN | apply Kd.V_drew)); exact Kd.V_mono (Kd.V_far (p := ⟨go59, (x12_2 : Int).toNat * 2 + 1, none⟩) (Kd.V_far (p := ⟨go59, (x12_2 : Int).toNat * 2, none⟩) (Kd.V_mono HO_212001.out (fun k_ hk => (⟨hk, fun e_ => hk.1.2.2.1 (by rw [e_]; rfl)⟩ : _ ∧ k_ ≠ go59))) (fun _ hk => hk.2) (.int .i64 (Go.bits .xor .i64 ((rd_T25 x11_2 x12_2).f0) x212000_2))) (fun _ hk => hk.2) (.slice Ao64 t235.length co64)) (fun _ hk => ⟨hk.1.1.1, ⟨hk.1.1.2.1, ⟨hk.1.1.2.2.1, ⟨hk.1.1.2.2.2.1, hk.1.1.2.2.2.2⟩⟩⟩⟩)⟩
                                have n4_ : Aside0 (Kd.V (Kd.int .u8) 5 ((w63.setCell ⟨go59, (x12_2 : Int).toNat * 2, none⟩ (.int .i64 (Go.bits .xor .i64 ((rd_T25 x11_2 x12_2).f0) x212000_2))).setCell ⟨go59, (x12_2 : Int).toNat * 2 + 1, none⟩ (.slice Ao64 t235.length co64)) w.heap.size (fun k_ => (P1_1_ k_ ∨ w.heap.size ≤ k_) ∧ some k_ ≠ (u9 : Value).ownBlock ∧ some k_ ≠ (.slice (some ⟨go59, 0, none⟩) x11_2.length co42 : Value).ownBlock ∧ k_ ≠ gb204 ∧ k_ ≠ gb211) (.slice A228_1 ((rd_T25 x11_2 x12_2).f1).length c228_1) ((rd_T25 x11_2 x12_2).f1)) := ⟨by (with_reducible repeat (first | apply Kd.V_alloc | apply Kd.V_drewN | apply Kd.V_drew)); exact Kd.V_mono (Kd.V_far (p := ⟨go59, (x12_2 : Int).toNat * 2 + 1, none⟩) (Kd.V_far (p := ⟨go59, (x12_2 : Int).toNat * 2, none⟩) (Kd.V_mono HL228_1.out (fun k_ hk => (⟨hk, fun e_ => hk.1.2 (by rw [e_]; rfl)⟩ : _ ∧ k_ ≠ go59))) (fun _ hk => hk.2) (.int .i64 (Go.bits .xor .i64 ((rd_T25 x11_2 x12_2).f0) x212000_2))) (fun _ hk => hk.2) (.slice Ao64 t235.length co64)) (fun _ hk => ⟨hk.1.1.1.1, ⟨hk.1.1.1.2.1, ⟨hk.1.1.2, ⟨hk.1.1.1.2.2.1, hk.1.1.1.2.2.2⟩⟩⟩⟩)⟩
                                have n5_ : Aside0 (Kd.V (Kd.int .u8) 5 ((w63.setCell ⟨go59, (x12_2 : Int).toNat * 2, none⟩ (.int .i64 (Go.bits .xor .i64 ((rd_T25 x11_2 x12_2).f0) x212000_2))).setCell ⟨go59, (x12_2 : Int).toNat * 2 + 1, none⟩ (.slice Ao64 t235.length co64)) w.heap.size (fun k_ => (P1_1_ k_ ∨ w.heap.size ≤ k_) ∧ some k_ ≠ (u9 : Value).ownBlock ∧ some k_ ≠ (.slice (some ⟨go59, 0, none⟩) x11_2.length co42 : Value).ownBlock ∧ k_ ≠ gb204 ∧ k_ ≠ gb211) (.slice A233_1 ((rd_T25 x11_2 x12_2).f1).length c233_1) ((rd_T25 x11_2 x12_2).f1)) := ⟨by (with_reducible repeat (first | apply Kd.V_alloc | apply Kd.V_drewN | apply Kd.V_drew)); exact Kd.V_mono (Kd.V_far (p := ⟨go59, (x12_2 : Int).toNat * 2 + 1, none⟩) (Kd.V_far (p := ⟨go59, (x12_2 : Int).toNat * 2, none⟩) (Kd.V_mono HL233_1.out (fun k_ hk => (⟨hk, fun e_ => hk.1.2 (by rw [e_]; rfl)⟩ : _ ∧ k_ ≠ go59))) (fun _ hk => hk.2) (.int .i64 (Go.bits .xor .i64 ((rd_T25 x11_2 x12_2).f0) x212000_2))) (fun _ hk => hk.2) (.slice Ao64 t235.length co64)) (fun _ hk => ⟨hk.1.1.1.1, ⟨hk.1.1.1.2.1, ⟨hk.1.1.2, ⟨hk.1.1.1.2.2.1, hk.1.1.1.2.2.2⟩⟩⟩⟩)⟩
                                have n6_ : Aside0 (Kd.V (Kd.int .u8) 5 ((w63.setCell ⟨go59, (x12_2 : Int).toNat * 2, none⟩ (.int .i64 (Go.bits .xor .i64 ((rd_T25 x11_2 x12_2).f0) x212000_2))).setCell ⟨go59, (x12_2 : Int).toNat * 2 + 1, none⟩ (.slice Ao64 t235.length co64)) w.heap.size (fun k_ => (P1_1_ k_ ∨ w.heap.size ≤ k_) ∧ some k_ ≠ (u9 : Value).ownBlock ∧ some k_ ≠ (.slice (some ⟨go59, 0, none⟩) x11_2.length co42 : Value).ownBlock ∧ k_ ≠ gb204 ∧ k_ ≠ gb211) (.slice A233_1 ((rd_T25 x11_2 x12_2).f1).length c233_1) ((rd_T25 x11_2 x12_2).f1)) := ⟨by (with_reducible repeat (first | apply Kd.V_alloc | apply Kd.V_drewN | apply Kd.V_drew)); exact Kd.V_mono (Kd.V_far (p := ⟨go59, (x12_2 : Int).toNat * 2 + 1, none⟩) (Kd.V_far (p := ⟨go59, (x12_2 : Int).toNat * 2, none⟩) (Kd.V_mono HL234_1.out (fun k_ hk => (⟨hk, fun e_ => hk.1.2 (by rw [e_]; rfl)⟩ : _ ∧ k_ ≠ go59))) (fun _ hk => hk.2) (.int .i64 (Go.bits .xor .i64 ((rd_T25 x11_2 x12_2).f0) x212000_2))) (fun _ hk => hk.2) (.slice Ao64 t235.length co64)) (fun _ hk => ⟨hk.1.1.1.1, ⟨hk.1.1.1.2.1, ⟨hk.1.1.2, ⟨hk.1.1.1.2.2.1, hk.1.1.1.2.2.2⟩⟩⟩⟩)⟩
                                have n7_ : Aside0 (((w63.setCell ⟨go59, (x12_2 : Int).toNat * 2, none⟩ (.int .i64 (Go.bits .xor .i64 ((rd_T25 x11_2 x12_2).f0) x212000_2))).setCell ⟨go59, (x12_2 : Int).toNat * 2 + 1, none⟩ (.slice Ao64 t235.length co64)).heap[gb204]? = some (.cells #[.int .i64 x205000_2, u205001] 25 (0, 0))) := ⟨by (with_reducible repeat (first | refine blk_drewN ?_ _ | refine blk_drew ?_ | refine blk_alloc ?_ _)); refine blk_far ?_ (by have h_ := Kd.N_away HO_11.out (fun _ hk => hk.1.2.2.1); intro e_; exact h_ (by rw [e_]; rfl)) _; (with_reducible repeat (first | refine blk_drewN ?_ _ | refine blk_drew ?_ | refine blk_alloc ?_ _)); refine blk_far ?_ (by have h_ := Kd.N_away HO_11.out (fun _ hk => hk.1.2.2.1); intro e_; exact h_ (by rw [e_]; rfl)) _; (with_reducible repeat (first | refine blk_drewN ?_ _ | refine blk_drew ?_ | refine blk_alloc ?_ _)); exact BK204.out⟩
                                have n8_ : Aside0 (((w63.setCell ⟨go59, (x12_2 : Int).toNat * 2, none⟩ (.int .i64 (Go.bits .xor .i64 ((rd_T25 x11_2 x12_2).f0) x212000_2))).setCell ⟨go59, (x12_2 : Int).toNat * 2 + 1, none⟩ (.slice Ao64 t235.length co64)).heap[gb211]? = some (.cells #[.int .i64 x212000_2, .slice Ao62 x212001_2.length co62] 25 (0, 0))) := ⟨by (with_reducible repeat (first | refine blk_drewN ?_ _ | refine blk_drew ?_ | refine blk_alloc ?_ _)); refine blk_far ?_ (by have h_ := Kd.N_away HO_11.out (fun _ hk => hk.1.2.2.2); intro e_; exact h_ (by rw [e_]; rfl)) _; (with_reducible repeat (first | refine blk_drewN ?_ _ | refine blk_drew ?_ | refine blk_alloc ?_ _)); refine blk_far ?_ (by have h_ := Kd.N_away HO_11.out (fun _ hk => hk.1.2.2.2); intro e_; exact h_ (by rw [e_]; rfl)) _; (with_reducible repeat (first | refine blk_drewN ?_ _ | refine blk_drew ?_ | refine blk_alloc ?_ _)); exact BK211.out⟩
                                have n9_ : Aside0 (Below w.heap.size w ((w63.setCell ⟨go59, (x12_2 : Int).toNat * 2, none⟩ (.int .i64 (Go.bits .xor .i64 ((rd_T25 x11_2 x12_2).f0) x212000_2))).setCell ⟨go59, (x12_2 : Int).toNat * 2 + 1, none⟩ (.slice Ao64 t235.length co64))) := ⟨by repeat (first | (with_reducible first | exact HB.out | apply below_alloc | apply pw_below_drewN | apply below_drew1 | refine below_set ?_ GB59.out | refine below_set ?_ GB59.out | refine below_set ?_ GE204.out | refine below_set ?_ GE211.out) | exact HB.out)⟩
                                (try clear HO_9)
                                (try clear HO_11)
                                (try clear HO_205001)
                                (try clear HO_212001)
                                (try clear HL228_1)
                                (try clear HL233_1)
                                (try clear HL234_1)
                                (try clear BK204)
                                (try clear BK211)
                                (try clear HB)
                                generalize ((w63.setCell ⟨go59, (x12_2 : Int).toNat * 2, none⟩ (.int .i64 (Go.bits .xor .i64 ((rd_T25 x11_2 x12_2).f0) x212000_2))).setCell ⟨go59, (x12_2 : Int).toNat * 2 + 1, none⟩ (.slice Ao64 t235.length co64)) = w66 at n0_ n1_ n2_ n3_ n4_ n5_ n6_ n7_ n8_ n9_ ⊢
                                have HO_9 := n0_
                                have HO_11 := n1_
                                have HO_205001 := n2_
                                have HO_212001 := n3_
                                have HL228_1 := n4_
                                have HL233_1 := n5_
                                have HL234_1 := n6_
                                have BK204 := n7_
                                have BK211 := n8_
                                have HB := n9_
                                clear n0_ n1_ n2_ n3_ n4_ n5_ n6_ n7_ n8_ n9_
                                have p239 : 0 ≤ (x12_2 : Int) := of_decide_eq_true (by first | (with_reducible assumption) | assumption)
                                have q239 : x12_2 < (y238.length : Int) := (by have h_ : (x12_2 : Int) < ((x11_2.length : Int) : Int) := of_decide_eq_true (by first | (with_reducible assumption) | assumption); first | (have e_ := (Kd.N_reads' HO_11.out).1; omega) | simpa only [Ny238.out, List.length_set] using h_)
                                have ql239 : ((x12_2 : Int) < ((x11_2.length : Int) : Int)) = True := eq_true (of_decide_eq_true (by first | (with_reducible assumption) | assumption))
                                obtain ⟨ad239, A239_1, c239_1, e239, hx239_0, hx239_1, hl239_1, hi239_1⟩ := at_T25 (Kd.N_reads' HO_11.out).2.2 x12_2 p239 q239
                                obtain rfl : (⟨go59, 0, none⟩ : Addr) = ad239 := (by injection e239)
                                obtain ⟨ce239, hce239, hMe239, hcc239⟩ := Kd.N_get HO_11.out z25 x12_2 p239 (by first | exact q239 | exact of_decide_eq_true (by first | (with_reducible assumption) | assumption) | (have e_ := (Kd.N_reads' HO_11.out).1; omega))
                                obtain ⟨ua239_1, uc239_1, rfl, ul239_1, ge239_1⟩ := k25_openF hMe239
                                have hv239_1 := hcc239 1 _ rfl
                                rw [add_field _ _ 1 (by omega)] at hv239_1
                                replace hv239_1 := Option.some.inj (hv239_1.symm.trans hx239_1)
                                injection hv239_1 with hva_ hvn_ hvc_
                                rw [hva_] at ge239_1
                                rw [hvc_] at ul239_1
                                have HL239_1 := Aside0.mk (show Kd.V (Kd.int .u8) 5 _ w.heap.size _ _ ((rd_T25 y238 x12_2).f1) from Kd.V_mk ul239_1 ge239_1)
                                clear hva_ hvn_ hvc_ ge239_1 ul239_1
                                clear hcc239 hce239
                                (first | simp only [add_plain] at hx239_0 | simp only [add_at] at hx239_0 | simp only [Addr.add, Nat.zero_add] at hx239_0 | skip)
                                (first | simp only [add_plain] at hx239_1 | simp only [add_at] at hx239_1 | simp only [Addr.add, Nat.zero_add] at hx239_1 | skip)
                                have HR239_1 := Aside0.mk hi239_1
                                have HC239_1 := Aside0.mk hl239_1
                                clear hi239_1 hl239_1
                                replace p239 := eq_true p239
                                replace q239 := eq_true q239
                                try go_wp2_with (first | ((with_reducible refine gate_builtin (b := .append) (xs := #[.tmp 88, .tmp 93]) rfl ?_); at_builtin; refine Kd.N_append k25 (w0 := w) w.heap.size rfl (.tmp 88) (.tmp 93) 22 25 (.agg #[(.int .i64 0), (.slice none 0 0)]) 32 rfl Try.underlying22 info25 rfl (by decide) (by omega) u9 x9_45 (⟨(rd_T25 y238 x12_2).f0, (rd_T25 y238 x12_2).f1⟩ : S25) [.int .i64 ((rd_T25 y238 x12_2).f0), .slice A239_1 ((rd_T25 y238 x12_2).f1).length c239_1] (fun k_ => (P1_1_ k_ ∨ w.heap.size ≤ k_) ∧ some k_ ≠ (.slice (some ⟨go59, 0, none⟩) x11_2.length co42 : Value).ownBlock ∧ k_ ≠ gb204 ∧ k_ ≠ gb211) (fun k_ => ((fun k_ => (P1_1_ k_ ∨ w.heap.size ≤ k_) ∧ some k_ ≠ (.slice (some ⟨go59, 0, none⟩) x11_2.length co42 : Value).ownBlock ∧ k_ ≠ gb204 ∧ k_ ≠ gb211)) k_ ∧ some k_ ≠ (u9 : Value).ownBlock) rfl rfl ?aP (fun _ hk => hk) ?aF ?aO ?aB ?aS ?aL ?_; (case aP => exact (k25_mkF _ _ (⟨(rd_T25 y238 x12_2).f0, (rd_T25 y238 x12_2).f1⟩ : S25) (Kd.V_reads' (Kd.V_mono (ok' := (fun k_ => ((fun k_ => (P1_1_ k_ ∨ w.heap.size ≤ k_) ∧ some k_ ≠ (.slice (some ⟨go59, 0, none⟩) x11_2.length co42 : Value).ownBlock ∧ k_ ≠ gb204 ∧ k_ ≠ gb211)) k_ ∧ some k_ ≠ (u9 : Value).ownBlock)) (HL239_1.out) (fun k_ hk => ⟨⟨hk.1.1, ⟨hk.2, ⟨hk.1.2.2.1, hk.1.2.2.2⟩⟩⟩, hk.1.2.1⟩))).2.1 (Kd.V_F (Kd.V_mono (ok' := (fun k_ => ((fun k_ => (P1_1_ k_ ∨ w.heap.size ≤ k_) ∧ some k_ ≠ (.slice (some ⟨go59, 0, none⟩) x11_2.length co42 : Value).ownBlock ∧ k_ ≠ gb204 ∧ k_ ≠ gb211)) k_ ∧ some k_ ≠ (u9 : Value).ownBlock)) (HL239_1.out) (fun k_ hk => ⟨⟨hk.1.1, ⟨hk.2, ⟨hk.1.2.2.1, hk.1.2.2.2⟩⟩⟩, hk.1.2.1⟩))))); (case aB => exact (by repeat (first | (with_reducible first | exact HB.out | apply below_alloc | apply pw_below_drewN | apply below_drew1 | refine below_set ?_ GE204.out | refine below_set ?_ GE211.out) | exact HB.out))); (case aF => exact (fun k_ hk => ⟨(.inr (Nat.le_trans (below_size (by repeat (first | (with_reducible first | exact HB.out | apply below_alloc | apply pw_below_drewN | apply below_drew1 | refine below_set ?_ GE204.out | refine below_set ?_ GE211.out) | exact HB.out))) hk)), Kd.fresh' (Kd.N_lt (by (with_reducible repeat (first | apply Kd.N_alloc | apply Kd.N_drewN | apply Kd.N_drew)); exact HO_11.out)) k_ hk, Kd.freshB (g := gb204) (o := .cells #[.int .i64 x205000_2, u205001] 25 (0, 0)) (by (with_reducible repeat (first | refine blk_drewN ?_ _ | refine blk_drew ?_ | refine blk_alloc ?_ _)); exact BK204.out) k_ hk, Kd.freshB (g := gb211) (o := .cells #[.int .i64 x212000_2, .slice Ao62 x212001_2.length co62] 25 (0, 0)) (by (with_reducible repeat (first | refine blk_drewN ?_ _ | refine blk_drew ?_ | refine blk_alloc ?_ _)); exact BK211.out) k_ hk⟩)); (case aO => exact (by (with_reducible repeat (first | apply Kd.N_alloc | apply Kd.N_drewN | apply Kd.N_drew)); exact HO_9.out)); (case aS => exact (below_size (by repeat (first | (with_reducible first | exact HB.out | apply below_alloc | apply pw_below_drewN | apply below_drew1 | refine below_set ?_ GE204.out | refine below_set ?_ GE211.out) | exact HB.out)))); (case aL => have := LMc60.out; omega); intro v241 w67 ho hb hg hat; rw [← Ny240.out] at ho; have n0_ := Aside0.mk (Kd.N_afterv (ok := (fun k_ => (P1_1_ k_ ∨ w.heap.size ≤ k_) ∧ k_ ≠ gb204 ∧ k_ ≠ gb211)) (by (with_reducible repeat (first | apply Kd.N_alloc | apply Kd.N_drewN | apply Kd.N_drew)); exact Kd.N_mono HO_11.out (fun _ hk => ⟨⟨hk.1, ⟨hk.2.2.1, hk.2.2.2⟩⟩, hk.2.1⟩)) hg hat); have n1_ := Aside0.mk (Kd.V_afterv (ok := (fun k_ => (P1_1_ k_ ∨ w.heap.size ≤ k_) ∧ some k_ ≠ (.slice (some ⟨go59, 0, none⟩) x11_2.length co42 : Value).ownBlock ∧ k_ ≠ gb204 ∧ k_ ≠ gb211)) (by (with_reducible repeat (first | apply Kd.V_alloc | apply Kd.V_drewN | apply Kd.V_drew)); exact Kd.V_mono HO_205001.out (fun _ hk => ⟨⟨hk.1, ⟨hk.2.2.1, ⟨hk.2.2.2.1, hk.2.2.2.2⟩⟩⟩, hk.2.1⟩)) hg hat); have n2_ := Aside0.mk (Kd.V_afterv (ok := (fun k_ => (P1_1_ k_ ∨ w.heap.size ≤ k_) ∧ some k_ ≠ (.slice (some ⟨go59, 0, none⟩) x11_2.length co42 : Value).ownBlock ∧ k_ ≠ gb204 ∧ k_ ≠ gb211)) (by (with_reducible repeat (first | apply Kd.V_alloc | apply Kd.V_drewN | apply Kd.V_drew)); exact Kd.V_mono HO_212001.out (fun _ hk => ⟨⟨hk.1, ⟨hk.2.2.1, ⟨hk.2.2.2.1, hk.2.2.2.2⟩⟩⟩, hk.2.1⟩)) hg hat); have n3_ := Aside0.mk (blk_grown (g := gb204) (o := .cells #[.int .i64 x205000_2, u205001] 25 (0, 0)) (by (with_reducible repeat (first | refine blk_drewN ?_ _ | refine blk_drew ?_ | refine blk_alloc ?_ _)); exact BK204.out) hg (Kd.N_away HO_9.out (fun _ hk => hk.2.2.1))); have n4_ := Aside0.mk (blk_grown (g := gb211) (o := .cells #[.int .i64 x212000_2, .slice Ao62 x212001_2.length co62] 25 (0, 0)) (by (with_reducible repeat (first | refine blk_drewN ?_ _ | refine blk_drew ?_ | refine blk_alloc ?_ _)); exact BK211.out) hg (Kd.N_away HO_9.out (fun _ hk => hk.2.2.2))); have n5_ := Aside0.mk (Kd.V_afterv (ok := (fun k_ => (P1_1_ k_ ∨ w.heap.size ≤ k_) ∧ some k_ ≠ (.slice (some ⟨go59, 0, none⟩) x11_2.length co42 : Value).ownBlock ∧ k_ ≠ gb204 ∧ k_ ≠ gb211)) (by (with_reducible repeat (first | apply Kd.V_alloc | apply Kd.V_drewN | apply Kd.V_drew)); exact Kd.V_mono HL228_1.out (fun _ hk => ⟨⟨hk.1, ⟨hk.2.2.1, ⟨hk.2.2.2.1, hk.2.2.2.2⟩⟩⟩, hk.2.1⟩)) hg hat); have n6_ := Aside0.mk (Kd.V_afterv (ok := (fun k_ => (P1_1_ k_ ∨ w.heap.size ≤ k_) ∧ some k_ ≠ (.slice (some ⟨go59, 0, none⟩) x11_2.length co42 : Value).ownBlock ∧ k_ ≠ gb204 ∧ k_ ≠ gb211)) (by (with_reducible repeat (first | apply Kd.V_alloc | apply Kd.V_drewN | apply Kd.V_drew)); exact Kd.V_mono HL233_1.out (fun _ hk => ⟨⟨hk.1, ⟨hk.2.2.1, ⟨hk.2.2.2.1, hk.2.2.2.2⟩⟩⟩, hk.2.1⟩)) hg hat); have n7_ := Aside0.mk (Kd.V_afterv (ok := (fun k_ => (P1_1_ k_ ∨ w.heap.size ≤ k_) ∧ some k_ ≠ (.slice (some ⟨go59, 0, none⟩) x11_2.length co42 : Value).ownBlock ∧ k_ ≠ gb204 ∧ k_ ≠ gb211)) (by (with_reducible repeat (first | apply Kd.V_alloc | apply Kd.V_drewN | apply Kd.V_drew)); exact Kd.V_mono HL234_1.out (fun _ hk => ⟨⟨hk.1, ⟨hk.2.2.1, ⟨hk.2.2.2.1, hk.2.2.2.2⟩⟩⟩, hk.2.1⟩)) hg hat); have n8_ := Aside0.mk (Kd.V_afterv (ok := (fun k_ => (P1_1_ k_ ∨ w.heap.size ≤ k_) ∧ some k_ ≠ (.slice (some ⟨go59, 0, none⟩) x11_2.length co42 : Value).ownBlock ∧ k_ ≠ gb204 ∧ k_ ≠ gb211)) (by (with_reducible repeat (first | apply Kd.V_alloc | apply Kd.V_drewN | apply Kd.V_drew)); exact Kd.V_mono HL239_1.out (fun _ hk => ⟨⟨hk.1.1, ⟨hk.2, ⟨hk.1.2.2.1, hk.1.2.2.2⟩⟩⟩, hk.1.2.1⟩)) hg hat); have n9_ := Aside0.mk (hb); have n10_ := Aside0.mk (ho); clear HO_11; clear HO_205001; clear HO_212001; clear BK204; clear BK211; clear HL228_1; clear HL233_1; clear HL234_1; clear HL239_1; clear HB; clear HO_9; have HO_11 := n0_; have HO_205001 := n1_; have HO_212001 := n2_; have BK204 := n3_; have BK211 := n4_; have HL228_1 := n5_; have HL233_1 := n6_; have HL234_1 := n7_; have HL239_1 := n8_; have HB := n9_; have HO242 := n10_; clear n0_ n1_ n2_ n3_ n4_ n5_ n6_ n7_ n8_ n9_ n10_; clear ho hb hg hat))
                                go_roundg kj45
                                case measure => have := HJ2.out; have := HK2.out; have := HJ40.out; have := HJ45.out; omega
                                case rel => exact ⟨(y240), (x10_45), (y238), (wrap64 (x12_2 + 1)), (x205000_2), (x205001_2), (x212000_2), (x212001_2), (u205001), (.slice Ao62 x212001_2.length co62), (by first | rfl | (simp; done) | (simp [*]; done)), (by first | rfl | (simp; done) | (simp [*]; done)), H', ⟨by have := HJ2.out; have := HK2.out; have := HJ40.out; have := HJ45.out; omega⟩, ⟨by (with_reducible repeat (first | apply Kd.N_alloc | apply Kd.N_drewN | apply Kd.N_drew)); exact HO242.out⟩, ⟨by (with_reducible repeat (first | apply Kd.N_alloc | apply Kd.N_drewN | apply Kd.N_drew)); exact Kd.N_mono HO_11.out (fun _ hk => ⟨hk.1.1, ⟨hk.2, ⟨hk.1.2.1, hk.1.2.2⟩⟩⟩)⟩, ⟨by (with_reducible repeat (first | apply Kd.V_alloc | apply Kd.V_drewN | apply Kd.V_drew)); exact Kd.V_mono HO_205001.out (fun _ hk => ⟨hk.1.1, ⟨hk.2, ⟨hk.1.2.1, ⟨hk.1.2.2.1, hk.1.2.2.2⟩⟩⟩⟩)⟩, ⟨by (with_reducible repeat (first | apply Kd.V_alloc | apply Kd.V_drewN | apply Kd.V_drew)); exact Kd.V_mono HO_212001.out (fun _ hk => ⟨hk.1.1, ⟨hk.2, ⟨hk.1.2.1, ⟨hk.1.2.2.1, hk.1.2.2.2⟩⟩⟩⟩)⟩, ⟨by (with_reducible repeat (first | refine blk_drewN ?_ _ | refine blk_drew ?_ | refine blk_alloc ?_ _)); exact BK204.out⟩, ⟨by (with_reducible repeat (first | refine blk_drewN ?_ _ | refine blk_drew ?_ | refine blk_alloc ?_ _)); exact BK211.out⟩, ⟨by repeat (first | (with_reducible first | exact HB.out | apply below_alloc | apply pw_below_drewN | apply below_drew1 | refine below_set ?_ GE204.out | refine below_set ?_ GE211.out) | exact HB.out)⟩⟩
                              · rw [if_neg c60] at H
                                exact absurd H (by simp)
                          · rw [if_neg c54] at H
                            exact absurd H (by simp)
                        · rw [if_neg c53] at H
                          exact absurd H (by simp)
              · rw [if_neg c40] at H
                have c40b0 : decide (x12_2 < (x11_2.length : Int)) = false := decide_eq_false c40
                clear c40
                by_cases c68 : x10_2 = true
                · subst c68
                  have H1 : (some (x9_2, true, 0)) = some (r1, r2, r3) := by rw [if_pos rfl] at H; exact H
                  clear H
                  have H := H1
                  clear H1
                  simp only [Option.some.injEq, Prod.mk.injEq] at H
                  obtain ⟨rfl, rfl, rfl⟩ := H
                  obtain ⟨Ao69, co69, eo69⟩ := Kd.N_slice HO_11.out
                  subst eo69
                  go_wp2
                  go_ret3
                  exact ⟨_, by first | rfl | (simp [errW_none, errW_some] <;> rfl) | (simp [*, errW_none, errW_some] <;> rfl), by (with_reducible repeat (first | apply Kd.N_alloc | apply Kd.N_drewN | apply Kd.N_drew)); exact Kd.N_mono HO_9.out (fun _ hk => hk.1), by repeat (first | (with_reducible first | exact HB.out | apply below_alloc | apply pw_below_drewN | apply below_drew1 | refine below_set ?_ GE204.out | refine below_set ?_ GE211.out) | exact HB.out)⟩
                · replace c68 := Bool.eq_false_iff.mpr c68
                  subst c68
                  have H1 : (if x9_2.length < 4398046511104 then (some ((x9_2 ++ [(⟨x212000_2, x212001_2⟩ : S25)]), true, 0)) else (none)) = some (r1, r2, r3) := by rw [if_neg (show ¬ (false = true) by decide)] at H; exact H
                  clear H
                  have H := H1
                  clear H1
                  by_cases c70 : x9_2.length < 4398046511104
                  · rw [if_pos c70] at H
                    have LMc70 := Aside0.mk c70
                    clear c70
                    obtain ⟨y220, hy220⟩ : ∃ y_ : List (S25), y_ = (x9_2 ++ [(⟨x212000_2, x212001_2⟩ : S25)]) := ⟨_, rfl⟩
                    replace H : (some (y220, true, 0)) = some (r1, r2, r3) := by first | (rw [hy220]; with_reducible exact H) | (have H2_ := (Option.bind_some _ _).symm.trans H; rw [hy220]; with_reducible exact H2_) | (have H2_ := (Option.bind_some _ _).symm.trans H; with_reducible exact H2_) | with_reducible exact H | (rw [hy220]; exact H) | exact H
                    have Ny220 := Aside0.mk hy220
                    clear hy220
                    simp only [Option.some.injEq, Prod.mk.injEq] at H
                    obtain ⟨rfl, rfl, rfl⟩ := H
                    obtain ⟨Ao71, co71, eo71⟩ := Kd.N_slice HO_11.out
                    subst eo71
                    have hnb72 := NB211_204.out
                    have hnc72 := NB204_211.out
                    have hcz73_0 : wr.cell? ⟨gb211, 0, none⟩ = some (.int .i64 x212000_2) := (blk_cell BK211.out 0).trans rfl
                    have hcz73_1 : wr.cell? ⟨gb211, 1, none⟩ = some (u212001) := (blk_cell BK211.out 1).trans rfl
                    have hfz73_0 := blk_frozen BK211.out 0
                    have hfz73_1 := blk_frozen BK211.out 1
                    obtain ⟨Ao75, co75, eo75⟩ := Kd.V_slice HO_212001.out
                    subst eo75
                    go_wp2_with (first | ((with_reducible refine gate_builtin (b := .append) (xs := #[.tmp 97, .tmp 99]) rfl ?_); at_builtin; refine Kd.N_append k25 (w0 := w) w.heap.size rfl (.tmp 97) (.tmp 99) 22 25 (.agg #[(.int .i64 0), (.slice none 0 0)]) 32 rfl Try.underlying22 info25 rfl (by decide) (by omega) u9 x9_2 (⟨x212000_2, x212001_2⟩ : S25) [.int .i64 x212000_2, .slice Ao75 x212001_2.length co75] (fun k_ => (P1_1_ k_ ∨ w.heap.size ≤ k_) ∧ some k_ ≠ (.slice Ao71 x11_2.length co71 : Value).ownBlock ∧ k_ ≠ gb204 ∧ k_ ≠ gb211) (fun k_ => ((fun k_ => (P1_1_ k_ ∨ w.heap.size ≤ k_) ∧ some k_ ≠ (.slice Ao71 x11_2.length co71 : Value).ownBlock ∧ k_ ≠ gb204 ∧ k_ ≠ gb211)) k_ ∧ some k_ ≠ (u9 : Value).ownBlock) rfl rfl ?aP (fun _ hk => hk) ?aF ?aO ?aB ?aS ?aL ?_; (case aP => exact (k25_mkF _ _ (⟨x212000_2, x212001_2⟩ : S25) (Kd.V_reads' (Kd.V_mono (ok' := (fun k_ => ((fun k_ => (P1_1_ k_ ∨ w.heap.size ≤ k_) ∧ some k_ ≠ (.slice Ao71 x11_2.length co71 : Value).ownBlock ∧ k_ ≠ gb204 ∧ k_ ≠ gb211)) k_ ∧ some k_ ≠ (u9 : Value).ownBlock)) (HO_212001.out) (fun k_ hk => ⟨⟨hk.1, ⟨hk.2.2.1, ⟨hk.2.2.2.1, hk.2.2.2.2⟩⟩⟩, hk.2.1⟩))).2.1 (Kd.V_F (Kd.V_mono (ok' := (fun k_ => ((fun k_ => (P1_1_ k_ ∨ w.heap.size ≤ k_) ∧ some k_ ≠ (.slice Ao71 x11_2.length co71 : Value).ownBlock ∧ k_ ≠ gb204 ∧ k_ ≠ gb211)) k_ ∧ some k_ ≠ (u9 : Value).ownBlock)) (HO_212001.out) (fun k_ hk => ⟨⟨hk.1, ⟨hk.2.2.1, ⟨hk.2.2.2.1, hk.2.2.2.2⟩⟩⟩, hk.2.1⟩))))); (case aB => exact (by repeat (first | (with_reducible first | exact HB.out | apply below_alloc | apply pw_below_drewN | apply below_drew1 | refine below_set ?_ GE204.out | refine below_set ?_ GE211.out) | exact HB.out))); (case aF => exact (fun k_ hk => ⟨(.inr (Nat.le_trans (below_size (by repeat (first | (with_reducible first | exact HB.out | apply below_alloc | apply pw_below_drewN | apply below_drew1 | refine below_set ?_ GE204.out | refine below_set ?_ GE211.out) | exact HB.out))) hk)), Kd.fresh' (Kd.N_lt (by (with_reducible repeat (first | apply Kd.N_alloc | apply Kd.N_drewN | apply Kd.N_drew)); exact HO_11.out)) k_ hk, Kd.freshB (g := gb204) (o := .cells #[.int .i64 x205000_2, u205001] 25 (0, 0)) (by (with_reducible repeat (first | refine blk_drewN ?_ _ | refine blk_drew ?_ | refine blk_alloc ?_ _)); exact BK204.out) k_ hk, Kd.freshB (g := gb211) (o := .cells #[.int .i64 x212000_2, .slice Ao75 x212001_2.length co75] 25 (0, 0)) (by (with_reducible repeat (first | refine blk_drewN ?_ _ | refine blk_drew ?_ | refine blk_alloc ?_ _)); exact BK211.out) k_ hk⟩)); (case aO => exact (by (with_reducible repeat (first | apply Kd.N_alloc | apply Kd.N_drewN | apply Kd.N_drew)); exact HO_9.out)); (case aS => exact (below_size (by repeat (first | (with_reducible first | exact HB.out | apply below_alloc | apply pw_below_drewN | apply below_drew1 | refine below_set ?_ GE204.out | refine below_set ?_ GE211.out) | exact HB.out)))); (case aL => have := LMc70.out; omega); intro v221 w74 ho hb hg hat; rw [← Ny220.out] at ho; have n0_ := Aside0.mk (Kd.N_afterv (ok := (fun k_ => (P1_1_ k_ ∨ w.heap.size ≤ k_) ∧ k_ ≠ gb204 ∧ k_ ≠ gb211)) (by (with_reducible repeat (first | apply Kd.N_alloc | apply Kd.N_drewN | apply Kd.N_drew)); exact Kd.N_mono HO_11.out (fun _ hk => ⟨⟨hk.1, ⟨hk.2.2.1, hk.2.2.2⟩⟩, hk.2.1⟩)) hg hat); have n1_ := Aside0.mk (Kd.V_afterv (ok := (fun k_ => (P1_1_ k_ ∨ w.heap.size ≤ k_) ∧ some k_ ≠ (.slice Ao71 x11_2.length co71 : Value).ownBlock ∧ k_ ≠ gb204 ∧ k_ ≠ gb211)) (by (with_reducible repeat (first | apply Kd.V_alloc | apply Kd.V_drewN | apply Kd.V_drew)); exact Kd.V_mono HO_205001.out (fun _ hk => ⟨⟨hk.1, ⟨hk.2.2.1, ⟨hk.2.2.2.1, hk.2.2.2.2⟩⟩⟩, hk.2.1⟩)) hg hat); have n2_ := Aside0.mk (Kd.V_afterv (ok := (fun k_ => (P1_1_ k_ ∨ w.heap.size ≤ k_) ∧ some k_ ≠ (.slice Ao71 x11_2.length co71 : Value).ownBlock ∧ k_ ≠ gb204 ∧ k_ ≠ gb211)) (by (with_reducible repeat (first | apply Kd.V_alloc | apply Kd.V_drewN | apply Kd.V_drew)); exact Kd.V_mono HO_212001.out (fun _ hk => ⟨⟨hk.1, ⟨hk.2.2.1, ⟨hk.2.2.2.1, hk.2.2.2.2⟩⟩⟩, hk.2.1⟩)) hg hat); have n3_ := Aside0.mk (blk_grown (g := gb204) (o := .cells #[.int .i64 x205000_2, u205001] 25 (0, 0)) (by (with_reducible repeat (first | refine blk_drewN ?_ _ | refine blk_drew ?_ | refine blk_alloc ?_ _)); exact BK204.out) hg (Kd.N_away HO_9.out (fun _ hk => hk.2.2.1))); have n4_ := Aside0.mk (blk_grown (g := gb211) (o := .cells #[.int .i64 x212000_2, .slice Ao75 x212001_2.length co75] 25 (0, 0)) (by (with_reducible repeat (first | refine blk_drewN ?_ _ | refine blk_drew ?_ | refine blk_alloc ?_ _)); exact BK211.out) hg (Kd.N_away HO_9.out (fun _ hk => hk.2.2.2))); have n5_ := Aside0.mk (hb); have n6_ := Aside0.mk (ho); clear HO_11; clear HO_205001; clear HO_212001; clear BK204; clear BK211; clear HB; clear HO_9; have HO_11 := n0_; have HO_205001 := n1_; have HO_212001 := n2_; have BK204 := n3_; have BK211 := n4_; have HB := n5_; have HO222 := n6_; clear n0_ n1_ n2_ n3_ n4_ n5_ n6_; clear ho hb hg hat))
                    go_ret3
                    exact ⟨_, by first | rfl | (simp [errW_none, errW_some] <;> rfl) | (simp [*, errW_none, errW_some] <;> rfl), by (with_reducible repeat (first | apply Kd.N_alloc | apply Kd.N_drewN | apply Kd.N_drew)); exact Kd.N_mono HO222.out (fun _ hk => hk.1), by repeat (first | (with_reducible first | exact HB.out | apply below_alloc | apply pw_below_drewN | apply below_drew1 | refine below_set ?_ GE204.out | refine below_set ?_ GE211.out) | exact HB.out)⟩
                  · rw [if_neg c70] at H
                    exact absurd H (by simp)
end Go.Proofs.Ytknlbeojdmeljaa.P
namespace Go.Proofs.Ytknlbeojdmeljaa.L
open Go.RowKit Go.Proofs.YtknlbeojdmeljaaW.PrintWords Go.Proofs.YtknlbeojdmeljaaW.PrintLast Go.Proofs.YtknlbeojdmeljaaW.PrintMore Go.Proofs.Ytknlbeojdmeljaa.P Go.Proofs.Ytknlbeojdmeljaa.H
set_option linter.unusedVariables false
set_option linter.unusedSimpArgs false
def finS (e : Nat × List Int) (s : List S25 × Bool) : List S25 := if s.2 = true then s.1 else s.1 ++ [rowE e]
theorem at_set_ne (l : List S25) {i j : Nat} (h : i ≠ j) (x : S25) : at_ (l.set i x) j = at_ l j := by
  unfold at_
  rw [List.getD_eq_getElem?_getD, List.getD_eq_getElem?_getD, List.getElem?_set_ne h]
theorem at_set_eq (l : List S25) {i : Nat} (h : i < l.length) (x : S25) : at_ (l.set i x) i = x := by
  unfold at_
  rw [List.getD_eq_getElem?_getD, List.getElem?_set_self h]
  rfl
theorem add_j3 {l : List S25} (hl : l.length ≤ 1000000) (hv : ∀ x ∈ l, fineB x.f0 x.f1 = true) {e : Nat × List Int} (he : e.1 < 65536) (hd : e.2.length = 16) {i : Nat} (hi : i < l.length) {rows : List S25} (hrl : rows.length = l.length) (hra : ∀ j, i ≤ j → j < l.length → at_ rows j = at_ l j) {out : List S25} (ho : out.length ≤ 2 * i + 1) (dn : Bool) {R : List S25 × Bool × Int}
    (hn : ∀ rows' : List S25, rows'.length = l.length → (∀ j, i + 1 ≤ j → j < l.length → at_ rows' j = at_ l j) → Ev (fun k => slotmeshref33_Add.l0 k (H.lead e.1 : Int) (out ++ [mixE e (at_ l i)]) dn rows' ((i + 1 : Nat) : Int) (e.1 : Int) e.2) R) :
    Ev (fun k => slotmeshref33_Add.j3 k (H.lead e.1 : Int) out dn rows (i : Int) (e.1 : Int) e.2) R := by
  have hf := fine_spec (hv _ (mem_at hi))
  have hre : rd_T25 rows (i : Int) = at_ l i := by rw [rd_at, hra i (Nat.le_refl _) hi]
  have hlt := lead_lt e.1 he
  have hand := i64_and_int (at_ l i).f0 ⟨hf.1, hf.2.1⟩ (H.lead e.1) hlt
  have hxor := i64_xor_int (at_ l i).f0 (e.1 : Int) ⟨by omega, hf.2.1⟩ ⟨by omega, by omega⟩
  rw [Int.toNat_natCast] at hxor
  have hw := wrap_succ i (by omega)
  have HW := Lib.hid hw
  have HAND := Lib.hid hand
  have HXOR := Lib.hid hxor
  clear hw hand hxor
  by_cases hz : (at_ l i).f0.toNat &&& H.lead e.1 = 0
  · have hm : mixE e (at_ l i) = at_ l i := by unfold mixE; rw [if_neg (fun h => h hz)]
    have h1 := hn rows hrl (fun j h1 h2 => hra j (Nat.le_of_succ_le h1) h2)
    rw [hm] at h1
    refine h1.succ (fun k hk => ?_)
    rw [slotmeshref33_Add.j3, if_pos (by omega), if_pos (by omega), hre, HAND.out, if_pos (by omega), if_pos (by omega), HW.out]
    exact hk
  · have hm : mixE e (at_ l i) = ⟨(((at_ l i).f0.toNat ^^^ e.1 : Nat) : Int), xorD (at_ l i).f1 e.2⟩ := by unfold mixE; rw [if_pos hz]
    have hx := refXor (at_ l i).f1 e.2 hf.2.2 hd
    have h1 := hn (rows.set i (mixE e (at_ l i))) (by simp [hrl]) (fun j h1 h2 => by rw [at_set_ne _ (Nat.ne_of_lt h1)]; exact hra j (Nat.le_of_succ_le h1) h2)
    have hset : rd_T25 (rows.set i (mixE e (at_ l i))) (i : Int) = mixE e (at_ l i) := by rw [rd_at, at_set_eq _ (by omega)]
    refine hx.succ2 h1 (fun k hk1 hk => ?_)
    rw [slotmeshref33_Add.j3, if_pos (by omega), if_pos (by omega), hre, HAND.out, if_neg (by omega), hk1]
    simp only [Option.bind_some]
    rw [HXOR.out, Int.toNat_natCast, ← hm, hset, if_pos (by omega), HW.out]
    exact hk
theorem add_j2 {l : List S25} (hl : l.length ≤ 1000000) (hv : ∀ x ∈ l, fineB x.f0 x.f1 = true) {e : Nat × List Int} (he : e.1 < 65536) (hd : e.2.length = 16) {i : Nat} (hi : i < l.length) {rows : List S25} (hrl : rows.length = l.length) (hra : ∀ j, i ≤ j → j < l.length → at_ rows j = at_ l j) {out : List S25} (ho : out.length ≤ 2 * i) (dn x55 : Bool) {R : List S25 × Bool × Int}
    (hn : ∀ rows' : List S25, rows'.length = l.length → (∀ j, i + 1 ≤ j → j < l.length → at_ rows' j = at_ l j) → Ev (fun k => slotmeshref33_Add.l0 k (H.lead e.1 : Int) ((if x55 = true then out ++ [rowE e] else out) ++ [mixE e (at_ l i)]) (if x55 = true then true else dn) rows' ((i + 1 : Nat) : Int) (e.1 : Int) e.2) R) :
    Ev (fun k => slotmeshref33_Add.j2 k (H.lead e.1 : Int) out dn rows (i : Int) x55 (e.1 : Int) e.2) R := by
  cases x55
  · have h := add_j3 hl hv he hd hi hrl hra (out := out) (by omega) dn (R := R) hn
    refine h.succ (fun k hk => ?_)
    rw [slotmeshref33_Add.j2, if_neg (by simp)]
    exact hk
  · have h := add_j3 hl hv he hd hi hrl hra (out := out ++ [rowE e]) (by simp; omega) true (R := R) hn
    refine h.succ (fun k hk => ?_)
    rw [slotmeshref33_Add.j2, if_pos rfl, if_pos (by omega)]
    exact hk
theorem add_l0 {l : List S25} (hl : l.length ≤ 1000000) (hv : ∀ x ∈ l, fineB x.f0 x.f1 = true) {e : Nat × List Int} (he : e.1 < 65536) (hd : e.2.length = 16) : ∀ n i, i + n = l.length → ∀ (rows : List S25), rows.length = l.length → (∀ j, i ≤ j → j < l.length → at_ rows j = at_ l j) → ∀ (out : List S25) (dn : Bool), out.length ≤ 2 * i →
    Ev (fun k => slotmeshref33_Add.l0 k (H.lead e.1 : Int) out dn rows (i : Int) (e.1 : Int) e.2) (finS e ((l.drop i).foldl (insStep e) (out, dn)), true, 0) := by
  intro n
  induction n with
  | zero =>
    intro i hi rows hrl hra out dn ho
    refine Ev.one (fun k => ?_)
    rw [slotmeshref33_Add.l0, if_neg (by omega), List.drop_of_length_le (by omega)]
    cases dn
    · rw [if_neg (by simp), if_pos (by omega)]
      rfl
    · rw [if_pos rfl]
      rfl
  | succ n ih =>
    intro i hi rows hrl hra out dn ho
    have hlt : i < l.length := by omega
    have hf := fine_spec (hv _ (mem_at hlt))
    have hre : rd_T25 rows (i : Int) = at_ l i := by rw [rd_at, hra i (Nat.le_refl _) hlt]
    rw [drop_at l i hlt, List.foldl_cons]
    cases dn
    · have hle := leading_ev' (at_ l i).f0 (by omega) hf.2.1
      have hj := add_j2 hl hv he hd hlt hrl hra ho false (decide ((H.lead (at_ l i).f0.toNat : Int) < (H.lead e.1 : Int))) (R := (finS e ((l.drop (i + 1)).foldl (insStep e) (insStep e (out, false) (at_ l i))), true, 0)) (fun rows' h1 h2 => by
        have h3 : insStep e (out, false) (at_ l i) = ((if decide ((H.lead (at_ l i).f0.toNat : Int) < (H.lead e.1 : Int)) = true then out ++ [rowE e] else out) ++ [mixE e (at_ l i)], if decide ((H.lead (at_ l i).f0.toNat : Int) < (H.lead e.1 : Int)) = true then true else false) := by
          unfold insStep
          by_cases hc : H.lead (at_ l i).f0.toNat < H.lead e.1
          · rw [if_pos ⟨rfl, hc⟩, if_pos (by simp; omega), if_pos (by simp; omega)]
            simp
          · rw [if_neg (fun h => hc h.2), if_neg (by simp; omega), if_neg (by simp; omega)]
        rw [h3]
        refine ih (i + 1) (by omega) rows' h1 h2 _ _ ?_
        split <;> simp <;> omega)
      refine hle.succ2 hj (fun k hk1 hk2 => ?_)
      rw [slotmeshref33_Add.l0, if_pos (by omega), if_neg (by simp), if_pos (by omega), hre, hk1]
      exact hk2
    · have hj := add_j2 hl hv he hd hlt hrl hra ho true false (R := (finS e ((l.drop (i + 1)).foldl (insStep e) (insStep e (out, true) (at_ l i))), true, 0)) (fun rows' h1 h2 => by
        have h3 : insStep e (out, true) (at_ l i) = ((if false = true then out ++ [rowE e] else out) ++ [mixE e (at_ l i)], if false = true then true else true) := by
          unfold insStep
          rw [if_neg (fun h => by cases h.1)]
          simp
        rw [h3]
        refine ih (i + 1) (by omega) rows' h1 h2 _ _ ?_
        simp
        omega)
      refine hj.succ (fun k hk2 => ?_)
      rw [slotmeshref33_Add.l0, if_pos (by omega), if_pos rfl]
      exact hk2
theorem zeros_iff {d : List Int} (h : d.length = 16) : d.all (· == 0) = (d == z16) := by
  rw [Bool.eq_iff_iff, List.all_eq_true, beq_iff_eq]
  constructor
  · intro h2
    refine List.ext_getElem (by rw [h]; rfl) (fun i hi hj => ?_)
    have := h2 _ (List.getElem_mem hi)
    simp only [z16, List.getElem_replicate]
    exact beq_iff_eq.1 this
  · rintro rfl x hx
    have : x = 0 := List.eq_of_mem_replicate hx
    simp [this]
theorem refAdd (l : List S25) (hl : l.length ≤ 1000000) (m : Int) (d : List Int) : Ev (fun k => slotmeshref33_Add.f k l m d) (addS l m d) := by
  have hno : (validS l = false ∨ fineB m d = false) → Ev (fun k => slotmeshref33_Add.j0 k l true m d) (addS l m d) := fun h => by
    have : addS l m d = ([], false, 1) := if_pos h
    rw [this]
    exact Ev.one (fun k => by rw [slotmeshref33_Add.j0, if_pos rfl])
  refine Ev.bind (g := fun k t205 => (if t205 = true then ((slotmeshref33_Formed.f m d).bind fun t206 => (slotmeshref33_Add.j0 k l (!t206) m d)) else (slotmeshref33_Add.j0 k l true m d))) (refValid' l (by omega)) ?_
  cases hv : validS l
  · exact hno (.inl hv)
  show Ev (fun k => (slotmeshref33_Formed.f m d).bind fun t206 => (slotmeshref33_Add.j0 k l (!t206) m d)) (addS l m d)
  rw [formed_eq]
  show Ev (fun k => slotmeshref33_Add.j0 k l (!(fineB m d)) m d) (addS l m d)
  cases hf : fineB m d
  · exact hno (.inr hf)
  have hsp := fine_spec hf
  obtain ⟨m, rfl⟩ := Int.eq_ofNat_of_zero_le (show 0 ≤ m by omega)
  have hm : m < 65536 := by omega
  have hvp := (validS_iff l).1 hv
  have hs : addS l (m : Int) d = if redS l (m, d) = (0, z16) then (l, false, 0) else if (redS l (m, d)).1 = 0 then ([], false, 12) else (insS (redS l (m, d)) l, true, 0) := by
    unfold addS; rw [if_neg (by rw [hv, hf]; simp)]; rfl
  have hred := refReduce l (by omega) hv m d hm hsp.2.2
  have hok : (redS l (m, d)).1 < 65536 ∧ (redS l (m, d)).2.length = 16 := by
    have key : ∀ (q : List S25), (∀ x ∈ q, fineB x.f0 x.f1 = true) → ∀ x : Nat × List Int, (x.1 < 65536 ∧ x.2.length = 16) → (redS q x).1 < 65536 ∧ (redS q x).2.length = 16 := by
      intro q
      induction q with
      | nil => intro _ x h; exact h
      | cons r q ih => intro hq x h; exact ih (fun y hy => hq y (List.mem_cons_of_mem _ hy)) _ (stepS_ok x r (hq r List.mem_cons_self) h)
    exact key l hvp.fine (m, d) ⟨hm, hsp.2.2⟩
  rw [hs]
  generalize redS l (m, d) = e at hred hok hs
  have hcopy := refCopy l (by omega) (fun x hx => by have := fine_spec (hvp.fine x hx); omega)
  by_cases h1 : e.1 = 0
  · have hz := refZero e.2 (by omega)
    rw [zeros_iff hok.2] at hz
    by_cases h2 : e.2 = z16
    · rw [if_pos (Prod.ext h1 h2)]
      rw [h2, beq_self_eq_true] at hz
      obtain ⟨K1, b1⟩ := hred
      obtain ⟨K2, b2⟩ := hz
      obtain ⟨K3, b3⟩ := hcopy
      refine ⟨K1 + K2 + K3 + 1, fun k hk => ?_⟩
      obtain ⟨k, rfl⟩ : ∃ q, k = q + 1 := ⟨k - 1, by omega⟩
      have c1 : slotmeshref33_reduce.f k l (m : Int) d = _ := b1 k (by omega)
      have c2 : slotmeshref33_Zero.f k z16 = _ := b2 k (by omega)
      have c3 : slotmeshref33_Copy.f k l = _ := b3 k (by omega)
      show slotmeshref33_Add.j0 (k + 1) l (!true) (m : Int) d = _
      rw [slotmeshref33_Add.j0, if_neg (by simp), c1]
      simp only [Option.bind_some]
      rw [if_pos (by omega), h2, c2]
      simp only [Option.bind_some, if_true]
      rw [c3]
      rfl
    · rw [if_neg (fun h => h2 (congrArg Prod.snd h)), if_pos h1]
      rw [beq_eq_false_iff_ne.2 h2] at hz
      refine hred.succ2 hz (fun k a1 a2 => ?_)
      show slotmeshref33_Add.j0 (k + 1) l (!true) (m : Int) d = _
      rw [slotmeshref33_Add.j0, if_neg (by simp), a1]
      simp only [Option.bind_some]
      rw [if_pos (by omega), a2]
      rfl
  · rw [if_neg (fun h => h1 (congrArg Prod.fst h)), if_neg h1]
    have hle := leading_ev e.1 (by omega) hok.1
    have hloop := add_l0 hl hvp.fine hok.1 hok.2 l.length 0 (by omega) l rfl (fun _ _ _ => rfl) [] false (by simp)
    obtain ⟨K1, b1⟩ := hred
    obtain ⟨K2, b2⟩ := hle
    obtain ⟨K3, b3⟩ := hcopy
    obtain ⟨K4, b4⟩ := hloop
    refine ⟨K1 + K2 + K3 + K4 + 1, fun k hk => ?_⟩
    obtain ⟨k, rfl⟩ : ∃ q, k = q + 1 := ⟨k - 1, by omega⟩
    have c1 : slotmeshref33_reduce.f k l (m : Int) d = _ := b1 k (by omega)
    have c2 : slotmeshref33_Leading.f k (e.1 : Int) = _ := b2 k (by omega)
    have c3 : slotmeshref33_Copy.f k l = _ := b3 k (by omega)
    have c4 : slotmeshref33_Add.l0 k (H.lead e.1 : Int) [] false l ((0 : Nat) : Int) (e.1 : Int) e.2 = _ := b4 k (by omega)
    show slotmeshref33_Add.j0 (k + 1) l (!true) (m : Int) d = _
    rw [slotmeshref33_Add.j0, if_neg (by simp), c1]
    simp only [Option.bind_some]
    rw [if_neg (by omega), c2]
    simp only [Option.bind_some]
    rw [c3]
    exact c4
end Go.Proofs.Ytknlbeojdmeljaa.L
namespace Go.Proofs.Ytknlbeojdmeljaa.L
open Go.RowKit Go.Proofs.YtknlbeojdmeljaaW.PrintWords Go.Proofs.YtknlbeojdmeljaaW.PrintLast Go.Proofs.YtknlbeojdmeljaaW.PrintMore Go.Proofs.Ytknlbeojdmeljaa.P Go.Proofs.Ytknlbeojdmeljaa.H
set_option linter.unusedVariables false
set_option linter.unusedSimpArgs false
theorem few_len {l : List S25} (h : fewB l = true) : l.length ≤ 40 := by
  unfold fewB at h
  simp only [Bool.and_eq_true, decide_eq_true_eq] at h
  exact h.2
/-- what Add answers, case by case -/
theorem addS_cases {l : List S25} (hl : GR l) (hv : validS l = true) (m : Int) (d : List Int) (hd : ∀ b ∈ d, isB b) :
    (fineB m d = false ∧ addS l m d = ([], false, 1)) ∨
    (fineB m d = true ∧ redS l (m.toNat, d) = zeroE ∧ addS l m d = (l, false, 0)) ∨
    (fineB m d = true ∧ redS l (m.toNat, d) ≠ zeroE ∧ (redS l (m.toNat, d)).1 = 0 ∧ addS l m d = ([], false, 12)) ∨
    (fineB m d = true ∧ NE l (redS l (m.toNat, d)) ∧ addS l m d = (insS (redS l (m.toNat, d)) l, true, 0)) := by
  have hvp := (validS_iff l).1 hv
  cases hf : fineB m d
  · exact .inl ⟨rfl, if_pos (.inr hf)⟩
  · have hsp := fine_spec hf
    have hge : GE (m.toNat, d) := ⟨by show m.toNat < 65536; omega, hsp.2.2, hd⟩
    have hs : addS l m d = if redS l (m.toNat, d) = (0, z16) then (l, false, 0) else if (redS l (m.toNat, d)).1 = 0 then ([], false, 12) else (insS (redS l (m.toNat, d)) l, true, 0) := by
      unfold addS; rw [if_neg (by rw [hv, hf]; simp)]
    right
    by_cases h0 : redS l (m.toNat, d) = zeroE
    · exact .inl ⟨rfl, h0, by rw [hs]; exact if_pos h0⟩
    · right
      have h0' : ¬ redS l (m.toNat, d) = (0, z16) := h0
      by_cases h1 : (redS l (m.toNat, d)).1 = 0
      · exact .inl ⟨rfl, h0, h1, by rw [hs, if_neg h0', if_pos h1]⟩
      · exact .inr ⟨rfl, ⟨redS_ge hl hge, h1, redS_clear hl hvp hge⟩, by rw [hs, if_neg h0', if_neg h1]⟩
end Go.Proofs.Ytknlbeojdmeljaa.L
namespace Go.Proofs.Ytknlbeojdmeljaa.L
open Go.RowKit Go.Proofs.YtknlbeojdmeljaaW.PrintWords Go.Proofs.YtknlbeojdmeljaaW.PrintLast Go.Proofs.YtknlbeojdmeljaaW.PrintMore Go.Proofs.Ytknlbeojdmeljaa.P Go.Proofs.Ytknlbeojdmeljaa.H
set_option linter.unusedVariables false
set_option linter.unusedSimpArgs false
theorem few_all {l : List S25} (h : fewB l = true) : ∀ x ∈ l, x.f1.length ≤ 100 := by
  unfold fewB at h
  simp only [Bool.and_eq_true, List.all_eq_true, decide_eq_true_eq] at h
  exact h.1
theorem addS_short {l : List S25} (hf : fewB l = true) (hr : ∀ x ∈ l, ∀ b ∈ x.f1, isB b) (m : Int) (d : List Int) (hd : ∀ b ∈ d, isB b) : ∀ x ∈ (addS l m d).1, x.f1.length ≤ 100 := by
  cases hv : validS l
  · have : addS l m d = ([], false, 1) := if_pos (.inl hv)
    rw [this]
    simp
  · have hgr := GR.of_valid hv hr
    have hvp := (validS_iff l).1 hv
    rcases addS_cases hgr hv m d hd with ⟨_, h⟩ | ⟨_, _, h⟩ | ⟨_, _, _, h⟩ | ⟨_, hne, h⟩
    · rw [h]; simp
    · rw [h]; exact few_all hf
    · rw [h]; simp
    · rw [h]
      intro x hx
      have h2 := (insS_ok hgr hvp hne).2.1
      have := fine_spec (h2.fine x hx)
      omega
end Go.Proofs.Ytknlbeojdmeljaa.L
namespace Go.Proofs.Ytknlbeojdmeljaa.L
open Go.RowKit Go.Proofs.YtknlbeojdmeljaaW.PrintWords Go.Proofs.YtknlbeojdmeljaaW.PrintLast Go.Proofs.YtknlbeojdmeljaaW.PrintMore Go.Proofs.Ytknlbeojdmeljaa.P Go.Proofs.Ytknlbeojdmeljaa.H
set_option linter.unusedVariables false
set_option linter.unusedSimpArgs false
theorem bytes_yes2 (A0 : Option Addr) (c0 : Nat) (A1 : Option Addr) (c1 : Nat) (l : List Int) {w : World} (hr0 : Kd.C (Kd.int .u8) w A0 l.length l) (hc0 : l.length ≤ c0) (hr1 : Kd.C (Kd.int .u8) w A1 l.length l) (hc1 : l.length ≤ c1) :
    Calls Try.prog 19 #[.slice A0 l.length c0, .slice A1 l.length c1] w fun e w' => e = .returned (.bool true) ∧ Below w.heap.size w w' := by
  have hl := hr0.2.1
  obtain ⟨K, hK⟩ := refBytes l l (by omega)
  rw [beq_self_eq_true] at hK
  refine (slotmeshref33_Bytes.calls K A0 c0 l A1 c1 l true w hr0 hc0 hr1 hc1 (hK K (Nat.le_refl K))).mono ?_
  rintro e w' ⟨rfl, ⟨nd, rfl⟩⟩
  exact ⟨rfl, pw_below_drewN (Below.refl _ _) nd⟩
theorem same_yes2 (A0 : Option Addr) (c0 : Nat) (A1 : Option Addr) (c1 : Nat) (l : List S25) {w : World} (hd : ∀ x ∈ l, x.f1.length < 9223372036854775808) (hr0 : Kd.C k25 w A0 l.length l) (hc0 : l.length ≤ c0) (hr1 : Kd.C k25 w A1 l.length l) (hc1 : l.length ≤ c1) :
    Calls Try.prog 18 #[.slice A0 l.length c0, .slice A1 l.length c1] w fun e w' => e = .returned (.bool true) ∧ Below w.heap.size w w' := by
  have hl := hr0.2.1
  obtain ⟨K, hK⟩ := refSame l l (by omega) hd
  rw [sameB_self] at hK
  refine (slotmeshref33_Same.calls K A0 c0 l A1 c1 l true w hr0 hc0 hr1 hc1 (hK K (Nat.le_refl K))).mono ?_
  rintro e w' ⟨rfl, ⟨nd, rfl⟩⟩
  exact ⟨rfl, pw_below_drewN (Below.refl _ _) nd⟩
theorem few_calls (A0 : Option Addr) (c0 : Nat) (l : List S25) {w : World} (hr0 : Kd.C k25 w A0 l.length l) (hc0 : l.length ≤ c0) :
    Calls Try.prog 11 #[.slice A0 l.length c0] w fun e w' => e = .returned (.bool (fewB l)) ∧ Below w.heap.size w w' := by
  have hl := hr0.2.1
  obtain ⟨K, hK⟩ := refFew l (by omega)
  refine (slotmeshref33_Few.calls K A0 c0 l (fewB l) w hr0 hc0 (hK K (Nat.le_refl K))).mono ?_
  rintro e w' ⟨rfl, ⟨nd, rfl⟩⟩
  exact ⟨rfl, pw_below_drewN (Below.refl _ _) nd⟩
theorem refvalid_calls (A0 : Option Addr) (c0 : Nat) (l : List S25) {w : World} (hr0 : Kd.C k25 w A0 l.length l) (hc0 : l.length ≤ c0) :
    Calls Try.prog 21 #[.slice A0 l.length c0] w fun e w' => e = .returned (.bool (validS l)) ∧ Below w.heap.size w w' := by
  have hl := hr0.2.1
  obtain ⟨K, hK⟩ := refValid' l (by omega)
  exact slotmeshref33_Valid.calls K A0 c0 l (validS l) w hr0 hc0 (hK K (Nat.le_refl K))
theorem refadd_calls (A0 : Option Addr) (c0 : Nat) (l : List S25) (m : Int) (A1 : Option Addr) (c1 : Nat) (d : List Int) {w : World} (hl : l.length ≤ 1000000) (hr0 : Kd.C k25 w A0 l.length l) (hc0 : l.length ≤ c0) (hr1 : Kd.C (Kd.int .u8) w A1 d.length d) (hc1 : d.length ≤ c1) :
    Calls Try.prog 13 #[.slice A0 l.length c0, .agg #[.int .i64 m, .slice A1 d.length c1]] w fun e w' => ∃ (A : Option Addr) (c : Nat), e = .returned (.tuple #[.slice A (addS l m d).1.length c, .bool (addS l m d).2.1, .int .i64 (addS l m d).2.2]) ∧ (Kd.C k25 w' A (addS l m d).1.length (addS l m d).1 ∧ (addS l m d).1.length ≤ c) ∧ Below w.heap.size w w' := by
  obtain ⟨K, hK⟩ := refAdd l hl m d
  refine (slotmeshref33_Add.calls K A0 c0 l m (fun k => k < w.heap.size) A1 c1 d _ _ _ w hr0 hc0 (Kd.V_mk hc1 (Kd.C_F (Kd.heap_int .u8) hr1)) (hK K (Nat.le_refl K))).mono ?_
  rintro e w' ⟨v, rfl, hN, hb⟩
  obtain ⟨A, c, rfl, h1, h2⟩ := Kd.N_reads hN
  exact ⟨A, c, rfl, ⟨h2, h1⟩, hb⟩
theorem refsolved_calls (A0 : Option Addr) (c0 : Nat) (l : List S25) (i : Int) {w : World} (hl : l.length ≤ 1000000) (hr0 : Kd.C k25 w A0 l.length l) (hc0 : l.length ≤ c0) :
    Calls Try.prog 15 #[.slice A0 l.length c0, .int .i64 i] w fun e w' => ∃ (A : Option Addr) (c : Nat), e = .returned (.tuple #[.slice A (solvedS l i).1.length c, .bool (solvedS l i).2]) ∧ (Kd.C (Kd.int .u8) w' A (solvedS l i).1.length (solvedS l i).1 ∧ (solvedS l i).1.length ≤ c) ∧ Below w.heap.size w w' := by
  obtain ⟨K, hK⟩ := refSolved l (by omega) i
  refine (slotmeshref33_Solved.calls K A0 c0 l i _ _ w hr0 hc0 (hK K (Nat.le_refl K))).mono ?_
  rintro e w' ⟨v, rfl, hN, hb⟩
  obtain ⟨A, c, rfl, h1, h2⟩ := Kd.R_reads hN
  exact ⟨A, c, rfl, ⟨h2, h1⟩, hb⟩
theorem refsum_calls (A0 : Option Addr) (c0 : Nat) (l : List S25) (i : Int) {w : World} (hl : l.length ≤ 1000000) (hr0 : Kd.C k25 w A0 l.length l) (hc0 : l.length ≤ c0) :
    Calls Try.prog 17 #[.slice A0 l.length c0, .int .i64 i] w fun e w' => ∃ (A : Option Addr) (c : Nat), e = .returned (.tuple #[.slice A (sumS l i).1.length c, .bool (sumS l i).2]) ∧ (Kd.C (Kd.int .u8) w' A (sumS l i).1.length (sumS l i).1 ∧ (sumS l i).1.length ≤ c) ∧ Below w.heap.size w w' := by
  obtain ⟨K, hK⟩ := refSum l (by omega) i
  refine (slotmeshref33_Sum.calls K A0 c0 l i _ _ w hr0 hc0 (hK K (Nat.le_refl K))).mono ?_
  rintro e w' ⟨v, rfl, hN, hb⟩
  obtain ⟨A, c, rfl⟩ := Kd.V_slice hN
  obtain ⟨_, h1, h2⟩ := Kd.V_reads' hN
  exact ⟨A, c, rfl, ⟨h2, h1⟩, hb⟩
theorem cells_keep {W W1 : World} {g : Nat} {a b : Value} (h : W.cell? ⟨g, 0, none⟩ = some a ∧ W.cell? ⟨g, 1, none⟩ = some b) (hb : Below W.heap.size W W1) : W1.cell? ⟨g, 0, none⟩ = some a ∧ W1.cell? ⟨g, 1, none⟩ = some b :=
  ⟨(hb.cell (World.block_lt_of_cell? _ _ h.1)).trans h.1, (hb.cell (World.block_lt_of_cell? _ _ h.2)).trans h.2⟩
set_option maxRecDepth 100000 in
set_option maxHeartbeats 4000000 in
theorem match_calls (A : Option Addr) (c : Nat) (l : List S25) (m : Int) (A1 : Option Addr) (c1 : Nat) (d : List Int) (i mask : Int) (w : World) (hr : Kd.C k25 w A l.length l) (hc : l.length ≤ c) (hr1 : Kd.C (Kd.int .u8) w A1 d.length d) (hc1 : d.length ≤ c1) (hb : ∀ x ∈ l, ∀ b ∈ x.f1, isB b) (hd : ∀ b ∈ d, isB b) :
    Calls Try.prog 3 #[.slice A l.length c, .agg #[.int .i64 m, .slice A1 d.length c1], .int .i64 i, .int .i64 mask] w fun e w' => e = .returned (.bool true) ∧ Below w.heap.size w w' := by
  have h0 : (w.alloc (.cells #[.int .i64 m, .slice A1 d.length c1] 25)).cell? ⟨w.heap.size, 0, none⟩ = some (.int .i64 m) ∧ (w.alloc (.cells #[.int .i64 m, .slice A1 d.length c1] 25)).cell? ⟨w.heap.size, 1, none⟩ = some (.slice A1 d.length c1) :=
    ⟨(cell_of_row _ _ 0 _ 25 (0, 0) (blk_new rfl)).trans rfl, (cell_of_row _ _ 1 _ 25 (0, 0) (blk_new rfl)).trans rfl⟩
  have H0 := Lib.hid h0
  have HR := Lib.hid hr
  have HR1 := Lib.hid hr1
  have hba := (Below.refl w.heap.size w).alloc (Nat.le_refl _) (.cells #[.int .i64 m, .slice A1 d.length c1] 25)
  have HBA := Lib.hid hba
  clear h0 hr hr1 hba
  cases hf : fewB l
  · have HF := Lib.hid hf
    clear hf
    go_enter Try.func3, Try.ntmps3
    go_wp2_with (first
      | (go_at_call 10; refine (head_calls _).mono ?_; rintro e w1 ⟨rfl, hb1⟩; have HB1 := Lib.hid (HBA.out.trans (hb1.mono (by simp))); have h1 := cells_keep H0.out hb1; have H1 := Lib.hid h1; clear hb1 h1)
      | (go_at_call 11; refine (few_calls A c l (Kd.C_below HR.out HB1.out) hc).mono ?_; rw [HF.out]; rintro e w2 ⟨rfl, hb2⟩; have HB2 := Lib.hid hb2; clear hb2))
    go_ret
    exact ⟨rfl, HB1.out.trans (HB2.out.mono HB1.out.size)⟩
  · have hlen := few_len hf
    have s1 := addS_short hf hb m d hd
    have HF := Lib.hid hf
    by_cases h100 : d.length ≤ 100
    · have hs1 : ∀ x ∈ (addS l m d).1, x.f1.length < 9223372036854775808 := fun x hx => by have := s1 x hx; omega
      have HS1 := Lib.hid hs1
      clear hf s1 hs1
      obtain ⟨⟨r1, r2, r3⟩, hadd⟩ : ∃ r, addS l m d = r := ⟨_, rfl⟩
      obtain ⟨⟨sd, sf⟩, hsol⟩ : ∃ r, solvedS l i = r := ⟨_, rfl⟩
      obtain ⟨⟨td, tf⟩, hsum⟩ : ∃ r, sumS l mask = r := ⟨_, rfl⟩
      obtain ⟨vb, hvb⟩ : ∃ r, validS l = r := ⟨_, rfl⟩
      have HADD := Lib.hid hadd
      have HSOL := Lib.hid hsol
      have HSUM := Lib.hid hsum
      have HVB := Lib.hid hvb
      clear hadd hsol hsum hvb
      go_enter Try.func3, Try.ntmps3
      go_wp2_with (first
        | (go_at_call 10; refine (head_calls _).mono ?_; rintro e w1 ⟨rfl, hb1⟩; have HB1 := Lib.hid (HBA.out.trans (hb1.mono (by simp))); obtain ⟨k10, k11⟩ := cells_keep H0.out hb1; have H1 := Lib.hid (And.intro k10 k11); clear hb1)
        | (go_at_call 11; refine (few_calls A c l (Kd.C_below HR.out HB1.out) hc).mono ?_; rw [HF.out]; rintro e w2 ⟨rfl, hb2⟩; have HB2 := Lib.hid (HB1.out.trans (hb2.mono HB1.out.size)); obtain ⟨k20, k21⟩ := cells_keep H1.out hb2; have H2 := Lib.hid (And.intro k20 k21); clear hb2)
        | (go_at_call 12; refine (add_calls A c l m A1 c1 d _ (Kd.C_below HR.out HB2.out) (Kd.C_below HR1.out HB2.out) (by omega)).mono ?_; rw [HADD.out]; rintro e w3 ⟨v3, rfl, hS3, hb3⟩; obtain ⟨A3, c3, e3, g3, g4⟩ := Kd.S_reads hS3; subst e3; have HB3 := Lib.hid (HB2.out.trans (hb3.mono HB2.out.size)); obtain ⟨k30, k31⟩ := cells_keep H2.out hb3; have H3 := Lib.hid (And.intro k30 k31); have G3 := Lib.hid (And.intro g4 g3); clear hb3 hS3 g3 g4)
        | (go_at_call 13; refine (refadd_calls A c l m A1 c1 d (by omega) (Kd.C_below HR.out HB3.out) hc (Kd.C_below HR1.out HB3.out) hc1).mono ?_; rw [HADD.out]; rintro e w4 ⟨A4, c4, rfl, g4, hb4⟩; have HB4 := Lib.hid (HB3.out.trans (hb4.mono HB3.out.size)); have HD4 := Lib.hid hb4; have G4 := Lib.hid g4; clear hb4 g4)
        | (go_at_call 14; refine (solved_calls A c l i _ (Kd.C_below HR.out HB4.out)).mono ?_; rw [HSOL.out]; rintro e w5 ⟨v5, rfl, hR5, hb5⟩; obtain ⟨A5, c5, e5, g5, g6⟩ := Kd.R_reads hR5; subst e5; have HB5 := Lib.hid (HB4.out.trans (hb5.mono HB4.out.size)); have HD5 := Lib.hid hb5; have G5 := Lib.hid (And.intro g6 g5); clear hb5 hR5 g5 g6)
        | (go_at_call 15; refine (refsolved_calls A c l i (by omega) (Kd.C_below HR.out HB5.out) hc).mono ?_; rw [HSOL.out]; rintro e w6 ⟨A6, c6, rfl, g6, hb6⟩; have HB6 := Lib.hid (HB5.out.trans (hb6.mono HB5.out.size)); have HD6 := Lib.hid hb6; have G6 := Lib.hid g6; clear hb6 g6)
        | (go_at_call 16; refine (sum_calls A c l mask _ (Kd.C_below HR.out HB6.out)).mono ?_; rw [HSUM.out]; rintro e w7 ⟨v7, rfl, hV7, hb7⟩; obtain ⟨A7, c7, e7⟩ := Kd.V_slice hV7; subst e7; have HB7 := Lib.hid (HB6.out.trans (hb7.mono HB6.out.size)); have HD7 := Lib.hid hb7; have G7 := Lib.hid (And.intro (Kd.V_reads' hV7).2.2 (Kd.V_reads' hV7).2.1); clear hb7 hV7)
        | (go_at_call 17; refine (refsum_calls A c l mask (by omega) (Kd.C_below HR.out HB7.out) hc).mono ?_; rw [HSUM.out]; rintro e w8 ⟨A8, c8, rfl, g8, hb8⟩; have HB8 := Lib.hid (HB7.out.trans (hb8.mono HB7.out.size)); have HD8 := Lib.hid hb8; have G8 := Lib.hid g8; have Z8 := Lib.hid (((HD5.out.trans (HD6.out.mono HD5.out.size)).trans ((HD7.out.trans (HD8.out.mono HD7.out.size)).mono (Nat.le_trans HD5.out.size HD6.out.size)))); have Y8 := Lib.hid (HD6.out.trans ((HD7.out.trans (HD8.out.mono HD7.out.size)).mono HD6.out.size)); have X8 := Lib.hid (HD7.out.trans (HD8.out.mono HD7.out.size)); clear hb8 g8)
        | (go_at_call 18; refine (same_yes2 A3 c3 A4 c4 r1 (by have h_ := HS1.out; rw [HADD.out] at h_; exact h_) (Kd.C_below (Kd.C_below G3.out.1 HD4.out) Z8.out) G3.out.2 (Kd.C_below G4.out.1 Z8.out) G4.out.2).mono ?_; rintro e w9 ⟨rfl, hb9⟩; have HB9 := Lib.hid (HB8.out.trans (hb9.mono HB8.out.size)); have HD9 := Lib.hid hb9; clear hb9)
        | (go_at_call 19; (with_reducible refine (bytes_yes2 A5 c5 A6 c6 sd ?ha1 ?ha2 ?ha3 ?ha4).mono ?_); (case ha1 => exact Kd.C_below (Kd.C_below G5.out.1 Y8.out) HD9.out); (case ha2 => exact G5.out.2); (case ha3 => exact Kd.C_below (Kd.C_below G6.out.1 X8.out) HD9.out); (case ha4 => exact G6.out.2); rintro e w10 ⟨rfl, hb10⟩; have HB10 := Lib.hid (HB9.out.trans (hb10.mono HB9.out.size)); have HD10 := Lib.hid hb10; clear hb10)
        | (go_at_call 19; (with_reducible refine (bytes_yes2 A7 c7 A8 c8 td ?hb1 ?hb2 ?hb3 ?hb4).mono ?_); (case hb1 => exact Kd.C_below (Kd.C_below (Kd.C_below G7.out.1 HD8.out) HD9.out) HD10.out); (case hb2 => exact G7.out.2); (case hb3 => exact Kd.C_below (Kd.C_below G8.out.1 HD9.out) HD10.out); (case hb4 => exact G8.out.2); rintro e w11 ⟨rfl, hb11⟩; have HB11 := Lib.hid (HB10.out.trans (hb11.mono HB10.out.size)); clear hb11)
        | (go_at_call 20; refine (valid_calls A c l _ (Kd.C_below HR.out HB11.out)).mono ?_; rw [HVB.out]; rintro e w12 ⟨rfl, hb12⟩; have HB12 := Lib.hid (HB11.out.trans (hb12.mono HB11.out.size)); clear hb12)
        | (go_at_call 21; refine (refvalid_calls A c l (Kd.C_below HR.out HB12.out) hc).mono ?_; rw [HVB.out]; rintro e w13 ⟨rfl, hb13⟩; have HB13 := Lib.hid (HB12.out.trans (hb13.mono HB12.out.size)); clear hb13))
      go_ret
      exact ⟨by simp, HB13.out⟩
    · clear hf s1
      go_enter Try.func3, Try.ntmps3
      go_wp2_with (first
        | (go_at_call 10; refine (head_calls _).mono ?_; rintro e w1 ⟨rfl, hb1⟩; have HB1 := Lib.hid (HBA.out.trans (hb1.mono (by simp))); obtain ⟨k10, k11⟩ := cells_keep H0.out hb1; have H1 := Lib.hid (And.intro k10 k11); clear hb1)
        | (go_at_call 11; refine (few_calls A c l (Kd.C_below HR.out HB1.out) hc).mono ?_; rw [HF.out]; rintro e w2 ⟨rfl, hb2⟩; have HB2 := Lib.hid (HB1.out.trans (hb2.mono HB1.out.size)); obtain ⟨k20, k21⟩ := cells_keep H1.out hb2; clear hb2))
      go_ret
      exact ⟨rfl, HB2.out⟩
end Go.Proofs.Ytknlbeojdmeljaa.L
