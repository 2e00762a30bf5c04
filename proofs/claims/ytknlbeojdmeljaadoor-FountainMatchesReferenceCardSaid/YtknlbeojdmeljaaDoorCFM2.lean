-- cut by shake.py (own program) out of this session's texts
import Derived.Test.YtknlbeojdmeljaaDoorCFM1
namespace Go.Proofs.YtknlbeojdmeljaaDoor.P
open Go.RowKit Go.Proofs.YtknlbeojdmeljaaDoorW.PrintWords Go.Proofs.YtknlbeojdmeljaaDoorW.PrintLast Go.Proofs.YtknlbeojdmeljaaDoorW.PrintMore
attribute [local go_sem] max2_int min2_int max_two min_two max_three min_three max_four min_four   -- for this text's walks alone
set_option linter.unusedVariables false
set_option linter.unusedSimpArgs false
mutual
def slotmeshref33_Valid.l0 : Nat → List (S25) → Int → Option (Bool)
  | 0, _, _ => none
  | k + 1, x0, x3 => if x3 < (x0.length : Int) then (if 0 ≤ x3 then ((slotmeshref33_Formed.f ((rd_T25 x0 x3).f0) ((rd_T25 x0 x3).f1)).bind fun t111 => (if t111 = true then (if x3 > 0 then (if 0 ≤ (wrap64 (x3 - 1)) then (if (wrap64 (x3 - 1)) < (x0.length : Int) then ((slotmeshref33_Leading.f k ((rd_T25 x0 (wrap64 (x3 - 1))).f0)).bind fun t113 => ((slotmeshref33_Leading.f k ((rd_T25 x0 x3).f0)).bind fun t115 => (if t113 ≤ t115 then (some false) else (slotmeshref33_Valid.l0 k x0 (wrap64 (x3 + 1)))))) else (none)) else (none)) else (slotmeshref33_Valid.l0 k x0 (wrap64 (x3 + 1)))) else (some false))) else (none)) else (slotmeshref33_Valid.l1 k x0 0)
def slotmeshref33_Valid.l1 : Nat → List (S25) → Int → Option (Bool)
  | 0, _, _ => none
  | k + 1, x0, x4 => if x4 < (x0.length : Int) then (slotmeshref33_Valid.l2 k x0 x4 0) else (some true)
def slotmeshref33_Valid.l2 : Nat → List (S25) → Int → Int → Option (Bool)
  | 0, _, _, _ => none
  | k + 1, x0, x4, x5 => if x5 < (x0.length : Int) then (if x4 = x5 then (slotmeshref33_Valid.l2 k x0 x4 (wrap64 (x5 + 1))) else (if 0 ≤ x5 then (if 0 ≤ x4 then (if x4 < (x0.length : Int) then ((slotmeshref33_Leading.f k ((rd_T25 x0 x4).f0)).bind fun t118 => (if (Go.bits .and .i64 ((rd_T25 x0 x5).f0) t118) = 0 then (slotmeshref33_Valid.l2 k x0 x4 (wrap64 (x5 + 1))) else (some false))) else (none)) else (none)) else (none))) else (slotmeshref33_Valid.l1 k x0 (wrap64 (x4 + 1)))
end
def slotmeshref33_Valid.f (k : Nat) (l0 : List (S25)) : Option (Bool) := slotmeshref33_Valid.l0 k l0 0
def slotmeshref33_Valid.T4 : Bool × List (List Nat × List Nat) := (true, [([], []), ([], []), ([0, 1], [0, 1]), ([2], [2]), ([3], [3]), ([4], [4]), ([5, 4], [5]), ([6], [6]), ([7, 6], [6, 7]), ([8, 6, 6], [6, 8]), ([9], [9]), ([9], [9]), ([11, 9], [9, 11]), ([10, 12, 9], [9, 10, 12]), ([13, 9], [9, 13]), ([14, 9], [9, 14]), ([15, 9, 9], [9, 15]), ([9], [9]), ([9], [9]), ([17, 18, 9], [9, 17, 18]), ([19, 9], [9, 19]), ([20, 9], [9, 20]), ([21, 16, 9], [9, 21]), ([16, 22, 9], [9, 16, 22]), ([9, 23, 6], [6, 9, 23]), ([6, 24], [6, 24])])
def slotmeshref33_Valid.B4 : List Nat := [0, 0, 3, 7, 15, 31, 63, 127, 255, 511, 1023, 1023, 3071, 8191, 16383, 32767, 65535, 1023, 1023, 394239, 918527, 1967103, 4194303, 8388607, 16777215, 33554431]
theorem slotmeshref33_Valid.tab4 : rtab .any (opsOf Tryd.f39 4) = slotmeshref33_Valid.T4 := by kernel_rfl
theorem slotmeshref33_Valid.bits4 : waitsOk slotmeshref33_Valid.T4.2 slotmeshref33_Valid.B4 = true := by kernel_rfl
def slotmeshref33_Valid.T12 : Bool × List (List Nat × List Nat) := (true, [([], []), ([], []), ([0, 1], [0, 1]), ([2], [2]), ([3], [3]), ([3], [3]), ([4, 5, 3], [3, 4, 5]), ([6, 3], [3, 6]), ([7, 3], [3, 7]), ([3], [3]), ([3], [3]), ([9, 10, 3], [3, 9, 10]), ([11, 3], [3, 11]), ([12, 3], [3, 12]), ([13, 3, 3], [3, 13]), ([8, 14, 3], [3, 8, 14]), ([15, 3], [3, 15]), ([3, 16], [3, 16])])
def slotmeshref33_Valid.B12 : List Nat := [0, 0, 3, 7, 15, 15, 63, 127, 255, 15, 15, 1551, 3599, 7695, 15887, 32767, 65535, 131071]
theorem slotmeshref33_Valid.tab12 : rtab .any (opsOf Tryd.f39 12) = slotmeshref33_Valid.T12 := by kernel_rfl
theorem slotmeshref33_Valid.bits12 : waitsOk slotmeshref33_Valid.T12.2 slotmeshref33_Valid.B12 = true := by kernel_rfl
set_option maxHeartbeats 8000000 in
set_option maxRecDepth 100000 in
theorem slotmeshref33_Valid.calls (k : Nat) (A0 : Option Addr) (c0 : Nat) (l0 : List (S25)) (r : Bool) (w : World) (hr0 : Kd.C k25 w A0 l0.length l0) (hc0 : l0.length ≤ c0) (h : slotmeshref33_Valid.f k l0 = some r) :
    Calls Tryd.prog 39 #[.slice A0 l0.length c0] w fun e w' => e = .returned (.bool r) ∧ Below w.heap.size w w' := by
  have hu52 := Tryd.underlying52
  have HR0 := Aside0.mk hr0
  have HC0 := Aside0.mk hc0
  clear hr0 hc0
  have HB := Aside0.mk (Below.refl w.heap.size w)
  have H : (slotmeshref33_Valid.l0 k l0 0) = some r := h
  clear h
  have H' := Aside0.mk H
  clear H
  go_enter Tryd.func39, Tryd.ntmps39
  go_wp2
  go_loopg [3] k (fun kq v3 w' => ∃ (x3_1 : Int), v3 = .int .i64 x3_1 ∧ Aside0 (slotmeshref33_Valid.l0 kq l0 x3_1 = some r) ∧ Aside0 (kq ≤ k) ∧ Aside0 (Below w.heap.size w w'))
  case atStart => exact ⟨(0), (by first | rfl | (simp; done) | (simp [*]; done)), H', ⟨Nat.le_refl _⟩, ⟨by repeat (first | (with_reducible first | exact HB.out | apply below_alloc | apply pw_below_drewN | apply below_drew1) | exact HB.out)⟩⟩
  case round =>
    clear H'
    obtain ⟨x3_1, rfl, HA, HK1, HB⟩ := hrel
    cases gk with
    | zero => exact absurd HA.out (by simp [slotmeshref33_Valid.l0])
    | succ k1 =>
      have H := HA.out
      clear HA
      simp only [slotmeshref33_Valid.l0] at H
      by_cases c2 : x3_1 < (l0.length : Int)
      · rw [if_pos c2] at H
        have c2b0 : decide (x3_1 < (l0.length : Int)) = true := decide_eq_true c2
        clear c2
        by_cases c3 : 0 ≤ x3_1
        · rw [if_pos c3] at H
          have c3b0 : decide (0 ≤ x3_1) = true := decide_eq_true c3
          clear c3
          replace H := Option.bind_eq_some_iff.mp H
          obtain ⟨t111, A40, H⟩ := H
          replace H : (if t111 = true then (if x3_1 > 0 then (if 0 ≤ (wrap64 (x3_1 - 1)) then (if (wrap64 (x3_1 - 1)) < (l0.length : Int) then ((slotmeshref33_Leading.f k1 ((rd_T25 l0 (wrap64 (x3_1 - 1))).f0)).bind fun t113 => ((slotmeshref33_Leading.f k1 ((rd_T25 l0 x3_1).f0)).bind fun t115 => (if t113 ≤ t115 then (some false) else (slotmeshref33_Valid.l0 k1 l0 (wrap64 (x3_1 + 1)))))) else (none)) else (none)) else (slotmeshref33_Valid.l0 k1 l0 (wrap64 (x3_1 + 1)))) else (some false)) = some r := H
          have A4 := Aside0.mk A40
          clear A40
          by_cases c5 : t111 = true
          · subst c5
            have H1 : (if x3_1 > 0 then (if 0 ≤ (wrap64 (x3_1 - 1)) then (if (wrap64 (x3_1 - 1)) < (l0.length : Int) then ((slotmeshref33_Leading.f k1 ((rd_T25 l0 (wrap64 (x3_1 - 1))).f0)).bind fun t113 => ((slotmeshref33_Leading.f k1 ((rd_T25 l0 x3_1).f0)).bind fun t115 => (if t113 ≤ t115 then (some false) else (slotmeshref33_Valid.l0 k1 l0 (wrap64 (x3_1 + 1)))))) else (none)) else (none)) else (slotmeshref33_Valid.l0 k1 l0 (wrap64 (x3_1 + 1)))) = some r := by rw [if_pos rfl] at H; exact H
            clear H
            have H := H1
            clear H1
            by_cases c6 : x3_1 > 0
            · rw [if_pos c6] at H
              have c6b0 : decide (0 < x3_1) = true := decide_eq_true c6
              clear c6
              obtain ⟨ji7, hji7⟩ : ∃ j_ : Int, (wrap64 (x3_1 - 1)) = j_ := ⟨_, rfl⟩
              replace H : (if 0 ≤ (ji7) then (if (ji7) < (l0.length : Int) then ((slotmeshref33_Leading.f k1 ((rd_T25 l0 (ji7)).f0)).bind fun t113 => ((slotmeshref33_Leading.f k1 ((rd_T25 l0 x3_1).f0)).bind fun t115 => (if t113 ≤ t115 then (some false) else (slotmeshref33_Valid.l0 k1 l0 (wrap64 (x3_1 + 1)))))) else (none)) else (none)) = some r := by first | (rw [hji7] at H; exact H) | (simp only [hji7] at H ⊢; exact H)
              (try rw [hji7] at A4)
              have hji7w : (IntKind.i64.wrap (x3_1 - 1)) = ji7 := (i64_w _).trans hji7
              by_cases c8 : 0 ≤ (ji7)
              · rw [if_pos c8] at H
                have c8b0 : decide (0 ≤ (ji7)) = true := decide_eq_true c8
                clear c8
                by_cases c9 : (ji7) < (l0.length : Int)
                · rw [if_pos c9] at H
                  have c9b0 : decide ((ji7) < (l0.length : Int)) = true := decide_eq_true c9
                  clear c9
                  replace H := Option.bind_eq_some_iff.mp H
                  obtain ⟨t113, A100, H⟩ := H
                  replace H : ((slotmeshref33_Leading.f k1 ((rd_T25 l0 x3_1).f0)).bind fun t115 => (if t113 ≤ t115 then (some false) else (slotmeshref33_Valid.l0 k1 l0 (wrap64 (x3_1 + 1))))) = some r := H
                  have A10 := Aside0.mk A100
                  clear A100
                  replace H := Option.bind_eq_some_iff.mp H
                  obtain ⟨t115, A110, H⟩ := H
                  replace H : (if t113 ≤ t115 then (some false) else (slotmeshref33_Valid.l0 k1 l0 (wrap64 (x3_1 + 1)))) = some r := H
                  have A11 := Aside0.mk A110
                  clear A110
                  by_cases c12 : t113 ≤ t115
                  · rw [if_pos c12] at H
                    have c12b0 : decide (t113 ≤ t115) = true := decide_eq_true c12
                    clear c12
                    obtain rfl := Option.some.inj H
                    try go_wp2
                    have n0_ := Aside0.mk (below_drew1 HB.out)
                    clear HB
                    have HB := n0_
                    clear n0_
                    have p110 : 0 ≤ (x3_1 : Int) := of_decide_eq_true (by first | (with_reducible assumption) | assumption)
                    have q110 : x3_1 < (l0.length : Int) := of_decide_eq_true (by first | (with_reducible assumption) | assumption)
                    obtain ⟨ad110, A110_1, c110_1, e110, hx110_0, hx110_1, hl110_1, hi110_1⟩ := at_T25 HR0.out x3_1 p110 q110
                    have hw110_1 := hx110_1
                    have hw110_0 := hx110_0
                    cases e110
                    replace hx110_0 := (HB.out.cell (World.block_lt_of_cell? w _ hx110_0)).trans hx110_0
                    replace hx110_1 := (HB.out.cell (World.block_lt_of_cell? w _ hx110_1)).trans hx110_1
                    have HR110_1 := Aside0.mk hi110_1
                    have HC110_1 := Aside0.mk hl110_1
                    clear hi110_1 hl110_1
                    replace p110 := eq_true p110
                    replace q110 := eq_true q110
                    have p112 : 0 ≤ ((ji7) : Int) := of_decide_eq_true (by first | (with_reducible assumption) | assumption)
                    have q112 : (ji7) < (l0.length : Int) := of_decide_eq_true (by first | (with_reducible assumption) | assumption)
                    obtain ⟨ad112, A112_1, c112_1, e112, hx112_0, hx112_1, hl112_1, hi112_1⟩ := at_T25 HR0.out (ji7) p112 q112
                    have hw112_1 := hx112_1
                    have hw112_0 := hx112_0
                    obtain rfl : ad110 = ad112 := (by injection e112)
                    replace hx112_0 := (HB.out.cell (World.block_lt_of_cell? w _ hx112_0)).trans hx112_0
                    replace hx112_1 := (HB.out.cell (World.block_lt_of_cell? w _ hx112_1)).trans hx112_1
                    have HR112_1 := Aside0.mk hi112_1
                    have HC112_1 := Aside0.mk hl112_1
                    clear hi112_1 hl112_1
                    replace p112 := eq_true p112
                    replace q112 := eq_true q112
                    have p114 : 0 ≤ (x3_1 : Int) := of_decide_eq_true (by first | (with_reducible assumption) | assumption)
                    have q114 : x3_1 < (l0.length : Int) := of_decide_eq_true (by first | (with_reducible assumption) | assumption)
                    obtain ⟨ad114, A114_1, c114_1, e114, hx114_0, hx114_1, hl114_1, hi114_1⟩ := at_T25 HR0.out x3_1 p114 q114
                    have hw114_1 := hx114_1
                    have hw114_0 := hx114_0
                    obtain rfl : ad110 = ad114 := (by injection e114)
                    replace hx114_0 := (HB.out.cell (World.block_lt_of_cell? w _ hx114_0)).trans hx114_0
                    replace hx114_1 := (HB.out.cell (World.block_lt_of_cell? w _ hx114_1)).trans hx114_1
                    have HR114_1 := Aside0.mk hi114_1
                    have HC114_1 := Aside0.mk hl114_1
                    clear hi114_1 hl114_1
                    replace p114 := eq_true p114
                    replace q114 := eq_true q114
                    refine start_ (n := 26) (S := fun w' => w'.cell? (ad110.add ((x3_1).toNat * 2)) = some (.int .i64 ((rd_T25 l0 x3_1).f0)) ∧ w'.cell? ⟨(ad110.add ((x3_1).toNat * 2)).block, (ad110.add ((x3_1).toNat * 2)).off + 1, none⟩ = some (.slice A110_1 ((rd_T25 l0 x3_1).f1).length c110_1) ∧ w'.cell? (ad110.add (((ji7)).toNat * 2)) = some (.int .i64 ((rd_T25 l0 (ji7)).f0)) ∧ w'.cell? ⟨(ad110.add (((ji7)).toNat * 2)).block, (ad110.add (((ji7)).toNat * 2)).off + 1, none⟩ = some (.slice A112_1 ((rd_T25 l0 (ji7)).f1).length c112_1) ∧ w'.cell? (ad110.add ((x3_1).toNat * 2)) = some (.int .i64 ((rd_T25 l0 x3_1).f0)) ∧ w'.cell? ⟨(ad110.add ((x3_1).toNat * 2)).block, (ad110.add ((x3_1).toNat * 2)).off + 1, none⟩ = some (.slice A114_1 ((rd_T25 l0 x3_1).f1).length c114_1)) (ds := []) (bl 26 0) (by kernel_rfl) rfl rfl ⟨((HB.out.cell (World.block_lt_of_cell? w _ hw110_0)).trans hw110_0), ((HB.out.cell (World.block_lt_of_cell? w _ hw110_1)).trans hw110_1), ((HB.out.cell (World.block_lt_of_cell? w _ hw112_0)).trans hw112_0), ((HB.out.cell (World.block_lt_of_cell? w _ hw112_1)).trans hw112_1), ((HB.out.cell (World.block_lt_of_cell? w _ hw114_0)).trans hw114_0), ((HB.out.cell (World.block_lt_of_cell? w _ hw114_1)).trans hw114_1)⟩ (fun hHeld => ?_); refine with_tabW slotmeshref33_Valid.tab4 slotmeshref33_Valid.bits4 (fun HT_ HW_ => ?_)
                    generalize wr.drew = w13 at HB HR110_1 HR112_1 HR114_1 hx110_0 hx110_1 hx112_0 hx112_1 hx114_0 hx114_1 hHeld ⊢
                    refine pU 0 12 (bl 26 1) (any_of HT_.out (by kernel_rfl)) (h := ?_)
                    refine pU 1 13 (bl 26 3) (any_of HT_.out (by kernel_rfl)) (h := ?_)
                    refine pU 2 14 (bl 26 7) (any_of HT_.out (by kernel_rfl)) (h := ?_)
                    refine tU 3 15 (bl 26 15) (take_ofW HT_.out HW_.out (by kernel_rfl)) hHeld (hy := by rintro w' ⟨s0, s1, s2, s3, s4, s5⟩; go_simp; with_reducible rfl) (h := ?_)
                    refine one_ (i := 4) (N := some 16) (bl 26 31) rfl rfl (one_of HT_.out (by kernel_rfl)) (by decide) (fun K hK => ?_)
                    refine goes_ Tryd.func52 (by kernel_rfl) rfl #[.agg #[.int .i64 ((rd_T25 l0 x3_1).f0), .slice A110_1 ((rd_T25 l0 x3_1).f1).length c110_1]] (by rfl) rfl rfl (by (try simp only [List.map_toArray, List.map_cons, List.map_nil]); first | done | rfl | (simp only [List.length_drop, List.length_take]; rfl)) ?_
                    with_reducible refine (slotmeshref33_Formed.calls ((rd_T25 l0 x3_1).f0) _ _ ((rd_T25 l0 x3_1).f1) true _ ?side1 ?side2 A4.out).mono ?_
                    (case side1 => repeat (first | exact (Kd.C_below HR110_1.out HB.out) | (with_reducible refine Kd.C_alloc ?_ _) | (with_reducible refine Kd.C_drewN ?_ _) | (with_reducible refine Kd.C_drew ?_)))
                    (case side2 => exact HC110_1.out)
                    rintro e w14 ⟨rfl, hb⟩
                    refine ⟨_, rfl, ?_⟩
                    have n0_ := Aside0.mk (below_step (by repeat (first | (with_reducible first | exact HB.out | apply below_alloc | apply pw_below_drewN | apply below_drew1) | exact HB.out)) hb)
                    clear HB
                    have HB := n0_
                    clear n0_
                    (try clear hb)
                    (try clear hb2)
                    (try clear hk)
                    (try clear hi)
                    refine hK.out _ _ ⟨((HB.out.cell (World.block_lt_of_cell? w _ hw110_0)).trans hw110_0), ((HB.out.cell (World.block_lt_of_cell? w _ hw110_1)).trans hw110_1), ((HB.out.cell (World.block_lt_of_cell? w _ hw112_0)).trans hw112_0), ((HB.out.cell (World.block_lt_of_cell? w _ hw112_1)).trans hw112_1), ((HB.out.cell (World.block_lt_of_cell? w _ hw114_0)).trans hw114_0), ((HB.out.cell (World.block_lt_of_cell? w _ hw114_1)).trans hw114_1)⟩ (fun hHeld => ?_)
                    clear hK K
                    refine nU 16 (h := ?_)
                    refine pU 5 17 (bl 26 63) (any_of HT_.out (by kernel_rfl)) (h := ?_)
                    refine pU 6 18 (bl 26 127) (any_of HT_.out (by kernel_rfl)) (h := ?_)
                    refine pU 7 19 (bl 26 255) (any_of HT_.out (by kernel_rfl)) (h := ?_)
                    refine pU 8 20 (bl 26 511) (any_of HT_.out (by kernel_rfl)) (h := ?_)
                    refine pU 9 21 (bl 26 1023) (any_of HT_.out (by kernel_rfl)) (h := ?_)
                    refine pU 10 22 (bl 26 2047) (any_of HT_.out (by kernel_rfl)) (h := ?_)
                    refine pU 11 23 (bl 26 4095) (any_of HT_.out (by kernel_rfl)) (h := ?_)
                    refine pU 12 24 (bl 26 8191) (any_of HT_.out (by kernel_rfl)) (h := ?_)
                    refine pU 13 25 (bl 26 16383) (any_of HT_.out (by kernel_rfl)) (h := ?_)
                    refine pU 14 26 (bl 26 32767) (any_of HT_.out (by kernel_rfl)) (h := ?_)
                    refine pU 17 29 (bl 26 163839) (any_of HT_.out (by kernel_rfl)) (h := ?_)
                    refine pU 18 30 (bl 26 425983) (any_of HT_.out (by kernel_rfl)) (h := ?_)
                    refine pU 19 31 (bl 26 950271) (any_of HT_.out (by kernel_rfl)) (h := ?_)
                    refine pU 20 32 (bl 26 1998847) (any_of HT_.out (by kernel_rfl)) (h := ?_)
                    refine tU 15 27 (bl 26 2031615) (take_ofW HT_.out HW_.out (by kernel_rfl)) hHeld (hy := by rintro w' ⟨s0, s1, s2, s3, s4, s5⟩; go_simp; with_reducible rfl) (h := ?_)
                    refine tU 21 33 (bl 26 4128767) (take_ofW HT_.out HW_.out (by kernel_rfl)) hHeld (hy := by rintro w' ⟨s0, s1, s2, s3, s4, s5⟩; go_simp; with_reducible rfl) (h := ?_)
                    refine one_ (i := 16) (N := some 28) (bl 26 4194303) rfl rfl (one_of HT_.out (by kernel_rfl)) (by decide) (fun K hK => ?_)
                    refine goes_ Tryd.func56 (by kernel_rfl) rfl #[.int .i64 ((rd_T25 l0 (ji7)).f0)] (by rfl) rfl rfl (by (try simp only [List.map_toArray, List.map_cons, List.map_nil]); first | done | (simp only [hji7]; rfl) | rfl | (simp only [List.length_drop, List.length_take]; rfl)) ?_
                    with_reducible refine (slotmeshref33_Leading.calls k1 ((rd_T25 l0 (ji7)).f0) t113 _ A10.out).mono ?_
                    rintro e w' ⟨rfl, ⟨nd, rfl⟩⟩
                    refine ⟨_, rfl, ?_⟩
                    refine hK.out _ _ ⟨((HB.out.cell (World.block_lt_of_cell? w _ hw110_0)).trans hw110_0), ((HB.out.cell (World.block_lt_of_cell? w _ hw110_1)).trans hw110_1), ((HB.out.cell (World.block_lt_of_cell? w _ hw112_0)).trans hw112_0), ((HB.out.cell (World.block_lt_of_cell? w _ hw112_1)).trans hw112_1), ((HB.out.cell (World.block_lt_of_cell? w _ hw114_0)).trans hw114_0), ((HB.out.cell (World.block_lt_of_cell? w _ hw114_1)).trans hw114_1)⟩ (fun hHeld => ?_)
                    clear hK K
                    refine nU 28 (h := ?_)
                    refine one_ (i := 22) (N := some 34) (bl 26 8388607) rfl rfl (one_of HT_.out (by kernel_rfl)) (by decide) (fun K hK => ?_)
                    refine goes_ Tryd.func56 (by kernel_rfl) rfl #[.int .i64 ((rd_T25 l0 x3_1).f0)] (by rfl) rfl rfl (by (try simp only [List.map_toArray, List.map_cons, List.map_nil]); first | done | rfl | (simp only [List.length_drop, List.length_take]; rfl)) ?_
                    with_reducible refine (slotmeshref33_Leading.calls k1 ((rd_T25 l0 x3_1).f0) t115 _ A11.out).mono ?_
                    rintro e w' ⟨rfl, ⟨nd, rfl⟩⟩
                    refine ⟨_, rfl, ?_⟩
                    refine hK.out _ _ ⟨((HB.out.cell (World.block_lt_of_cell? w _ hw110_0)).trans hw110_0), ((HB.out.cell (World.block_lt_of_cell? w _ hw110_1)).trans hw110_1), ((HB.out.cell (World.block_lt_of_cell? w _ hw112_0)).trans hw112_0), ((HB.out.cell (World.block_lt_of_cell? w _ hw112_1)).trans hw112_1), ((HB.out.cell (World.block_lt_of_cell? w _ hw114_0)).trans hw114_0), ((HB.out.cell (World.block_lt_of_cell? w _ hw114_1)).trans hw114_1)⟩ (fun hHeld => ?_)
                    clear hK K
                    refine nU 34 (h := ?_)
                    refine pU 23 35 (bl 26 16777215) (any_of HT_.out (by kernel_rfl)) (h := ?_)
                    refine pU 24 36 (bl 26 33554431) (any_of HT_.out (by kernel_rfl)) (h := ?_)
                    refine pU 25 37 (bl 26 67108863) (any_of HT_.out (by kernel_rfl)) (h := ?_)
                    refine done_ (done_of HT_.out (by kernel_rfl)) ?_
                    try go_wp2
                    go_ret
                    exact ⟨by first | rfl | (simp [errW_none, errW_some] <;> rfl) | (simp only [← hji7]; first | rfl | (simp [errW_none, errW_some] <;> rfl)) | (simp [*, errW_none, errW_some] <;> rfl), by repeat (first | (with_reducible first | exact HB.out | apply below_alloc | apply pw_below_drewN | apply below_drew1) | exact HB.out)⟩
                  · rw [if_neg c12] at H
                    have c12b0 : decide (t113 ≤ t115) = false := decide_eq_false c12
                    clear c12
                    have H' := Aside0.mk H
                    clear H
                    try go_wp2
                    have n0_ := Aside0.mk (below_drew1 HB.out)
                    clear HB
                    have HB := n0_
                    clear n0_
                    have p110 : 0 ≤ (x3_1 : Int) := of_decide_eq_true (by first | (with_reducible assumption) | assumption)
                    have q110 : x3_1 < (l0.length : Int) := of_decide_eq_true (by first | (with_reducible assumption) | assumption)
                    obtain ⟨ad110, A110_1, c110_1, e110, hx110_0, hx110_1, hl110_1, hi110_1⟩ := at_T25 HR0.out x3_1 p110 q110
                    have hw110_1 := hx110_1
                    have hw110_0 := hx110_0
                    cases e110
                    replace hx110_0 := (HB.out.cell (World.block_lt_of_cell? w _ hx110_0)).trans hx110_0
                    replace hx110_1 := (HB.out.cell (World.block_lt_of_cell? w _ hx110_1)).trans hx110_1
                    have HR110_1 := Aside0.mk hi110_1
                    have HC110_1 := Aside0.mk hl110_1
                    clear hi110_1 hl110_1
                    replace p110 := eq_true p110
                    replace q110 := eq_true q110
                    have p112 : 0 ≤ ((ji7) : Int) := of_decide_eq_true (by first | (with_reducible assumption) | assumption)
                    have q112 : (ji7) < (l0.length : Int) := of_decide_eq_true (by first | (with_reducible assumption) | assumption)
                    obtain ⟨ad112, A112_1, c112_1, e112, hx112_0, hx112_1, hl112_1, hi112_1⟩ := at_T25 HR0.out (ji7) p112 q112
                    have hw112_1 := hx112_1
                    have hw112_0 := hx112_0
                    obtain rfl : ad110 = ad112 := (by injection e112)
                    replace hx112_0 := (HB.out.cell (World.block_lt_of_cell? w _ hx112_0)).trans hx112_0
                    replace hx112_1 := (HB.out.cell (World.block_lt_of_cell? w _ hx112_1)).trans hx112_1
                    have HR112_1 := Aside0.mk hi112_1
                    have HC112_1 := Aside0.mk hl112_1
                    clear hi112_1 hl112_1
                    replace p112 := eq_true p112
                    replace q112 := eq_true q112
                    have p114 : 0 ≤ (x3_1 : Int) := of_decide_eq_true (by first | (with_reducible assumption) | assumption)
                    have q114 : x3_1 < (l0.length : Int) := of_decide_eq_true (by first | (with_reducible assumption) | assumption)
                    obtain ⟨ad114, A114_1, c114_1, e114, hx114_0, hx114_1, hl114_1, hi114_1⟩ := at_T25 HR0.out x3_1 p114 q114
                    have hw114_1 := hx114_1
                    have hw114_0 := hx114_0
                    obtain rfl : ad110 = ad114 := (by injection e114)
                    replace hx114_0 := (HB.out.cell (World.block_lt_of_cell? w _ hx114_0)).trans hx114_0
                    replace hx114_1 := (HB.out.cell (World.block_lt_of_cell? w _ hx114_1)).trans hx114_1
                    have HR114_1 := Aside0.mk hi114_1
                    have HC114_1 := Aside0.mk hl114_1
                    clear hi114_1 hl114_1
                    replace p114 := eq_true p114
                    replace q114 := eq_true q114
                    refine start_ (n := 26) (S := fun w' => w'.cell? (ad110.add ((x3_1).toNat * 2)) = some (.int .i64 ((rd_T25 l0 x3_1).f0)) ∧ w'.cell? ⟨(ad110.add ((x3_1).toNat * 2)).block, (ad110.add ((x3_1).toNat * 2)).off + 1, none⟩ = some (.slice A110_1 ((rd_T25 l0 x3_1).f1).length c110_1) ∧ w'.cell? (ad110.add (((ji7)).toNat * 2)) = some (.int .i64 ((rd_T25 l0 (ji7)).f0)) ∧ w'.cell? ⟨(ad110.add (((ji7)).toNat * 2)).block, (ad110.add (((ji7)).toNat * 2)).off + 1, none⟩ = some (.slice A112_1 ((rd_T25 l0 (ji7)).f1).length c112_1) ∧ w'.cell? (ad110.add ((x3_1).toNat * 2)) = some (.int .i64 ((rd_T25 l0 x3_1).f0)) ∧ w'.cell? ⟨(ad110.add ((x3_1).toNat * 2)).block, (ad110.add ((x3_1).toNat * 2)).off + 1, none⟩ = some (.slice A114_1 ((rd_T25 l0 x3_1).f1).length c114_1)) (ds := []) (bl 26 0) (by kernel_rfl) rfl rfl ⟨((HB.out.cell (World.block_lt_of_cell? w _ hw110_0)).trans hw110_0), ((HB.out.cell (World.block_lt_of_cell? w _ hw110_1)).trans hw110_1), ((HB.out.cell (World.block_lt_of_cell? w _ hw112_0)).trans hw112_0), ((HB.out.cell (World.block_lt_of_cell? w _ hw112_1)).trans hw112_1), ((HB.out.cell (World.block_lt_of_cell? w _ hw114_0)).trans hw114_0), ((HB.out.cell (World.block_lt_of_cell? w _ hw114_1)).trans hw114_1)⟩ (fun hHeld => ?_); refine with_tabW slotmeshref33_Valid.tab4 slotmeshref33_Valid.bits4 (fun HT_ HW_ => ?_)
                    generalize wr.drew = w15 at HB HR110_1 HR112_1 HR114_1 hx110_0 hx110_1 hx112_0 hx112_1 hx114_0 hx114_1 hHeld ⊢
                    refine pU 0 12 (bl 26 1) (any_of HT_.out (by kernel_rfl)) (h := ?_)
                    refine pU 1 13 (bl 26 3) (any_of HT_.out (by kernel_rfl)) (h := ?_)
                    refine pU 2 14 (bl 26 7) (any_of HT_.out (by kernel_rfl)) (h := ?_)
                    refine tU 3 15 (bl 26 15) (take_ofW HT_.out HW_.out (by kernel_rfl)) hHeld (hy := by rintro w' ⟨s0, s1, s2, s3, s4, s5⟩; go_simp; with_reducible rfl) (h := ?_)
                    refine one_ (i := 4) (N := some 16) (bl 26 31) rfl rfl (one_of HT_.out (by kernel_rfl)) (by decide) (fun K hK => ?_)
                    refine goes_ Tryd.func52 (by kernel_rfl) rfl #[.agg #[.int .i64 ((rd_T25 l0 x3_1).f0), .slice A110_1 ((rd_T25 l0 x3_1).f1).length c110_1]] (by rfl) rfl rfl (by (try simp only [List.map_toArray, List.map_cons, List.map_nil]); first | done | rfl | (simp only [List.length_drop, List.length_take]; rfl)) ?_
                    with_reducible refine (slotmeshref33_Formed.calls ((rd_T25 l0 x3_1).f0) _ _ ((rd_T25 l0 x3_1).f1) true _ ?side1 ?side2 A4.out).mono ?_
                    (case side1 => repeat (first | exact (Kd.C_below HR110_1.out HB.out) | (with_reducible refine Kd.C_alloc ?_ _) | (with_reducible refine Kd.C_drewN ?_ _) | (with_reducible refine Kd.C_drew ?_)))
                    (case side2 => exact HC110_1.out)
                    rintro e w16 ⟨rfl, hb⟩
                    refine ⟨_, rfl, ?_⟩
                    have n0_ := Aside0.mk (below_step (by repeat (first | (with_reducible first | exact HB.out | apply below_alloc | apply pw_below_drewN | apply below_drew1) | exact HB.out)) hb)
                    clear HB
                    have HB := n0_
                    clear n0_
                    (try clear hb)
                    (try clear hb2)
                    (try clear hk)
                    (try clear hi)
                    refine hK.out _ _ ⟨((HB.out.cell (World.block_lt_of_cell? w _ hw110_0)).trans hw110_0), ((HB.out.cell (World.block_lt_of_cell? w _ hw110_1)).trans hw110_1), ((HB.out.cell (World.block_lt_of_cell? w _ hw112_0)).trans hw112_0), ((HB.out.cell (World.block_lt_of_cell? w _ hw112_1)).trans hw112_1), ((HB.out.cell (World.block_lt_of_cell? w _ hw114_0)).trans hw114_0), ((HB.out.cell (World.block_lt_of_cell? w _ hw114_1)).trans hw114_1)⟩ (fun hHeld => ?_)
                    clear hK K
                    refine nU 16 (h := ?_)
                    refine pU 5 17 (bl 26 63) (any_of HT_.out (by kernel_rfl)) (h := ?_)
                    refine pU 6 18 (bl 26 127) (any_of HT_.out (by kernel_rfl)) (h := ?_)
                    refine pU 7 19 (bl 26 255) (any_of HT_.out (by kernel_rfl)) (h := ?_)
                    refine pU 8 20 (bl 26 511) (any_of HT_.out (by kernel_rfl)) (h := ?_)
                    refine pU 9 21 (bl 26 1023) (any_of HT_.out (by kernel_rfl)) (h := ?_)
                    refine pU 10 22 (bl 26 2047) (any_of HT_.out (by kernel_rfl)) (h := ?_)
                    refine pU 11 23 (bl 26 4095) (any_of HT_.out (by kernel_rfl)) (h := ?_)
                    refine pU 12 24 (bl 26 8191) (any_of HT_.out (by kernel_rfl)) (h := ?_)
                    refine pU 13 25 (bl 26 16383) (any_of HT_.out (by kernel_rfl)) (h := ?_)
                    refine pU 14 26 (bl 26 32767) (any_of HT_.out (by kernel_rfl)) (h := ?_)
                    refine pU 17 29 (bl 26 163839) (any_of HT_.out (by kernel_rfl)) (h := ?_)
                    refine pU 18 30 (bl 26 425983) (any_of HT_.out (by kernel_rfl)) (h := ?_)
                    refine pU 19 31 (bl 26 950271) (any_of HT_.out (by kernel_rfl)) (h := ?_)
                    refine pU 20 32 (bl 26 1998847) (any_of HT_.out (by kernel_rfl)) (h := ?_)
                    refine tU 15 27 (bl 26 2031615) (take_ofW HT_.out HW_.out (by kernel_rfl)) hHeld (hy := by rintro w' ⟨s0, s1, s2, s3, s4, s5⟩; go_simp; with_reducible rfl) (h := ?_)
                    refine tU 21 33 (bl 26 4128767) (take_ofW HT_.out HW_.out (by kernel_rfl)) hHeld (hy := by rintro w' ⟨s0, s1, s2, s3, s4, s5⟩; go_simp; with_reducible rfl) (h := ?_)
                    refine one_ (i := 16) (N := some 28) (bl 26 4194303) rfl rfl (one_of HT_.out (by kernel_rfl)) (by decide) (fun K hK => ?_)
                    refine goes_ Tryd.func56 (by kernel_rfl) rfl #[.int .i64 ((rd_T25 l0 (ji7)).f0)] (by rfl) rfl rfl (by (try simp only [List.map_toArray, List.map_cons, List.map_nil]); first | done | (simp only [hji7]; rfl) | rfl | (simp only [List.length_drop, List.length_take]; rfl)) ?_
                    with_reducible refine (slotmeshref33_Leading.calls k1 ((rd_T25 l0 (ji7)).f0) t113 _ A10.out).mono ?_
                    rintro e w' ⟨rfl, ⟨nd, rfl⟩⟩
                    refine ⟨_, rfl, ?_⟩
                    refine hK.out _ _ ⟨((HB.out.cell (World.block_lt_of_cell? w _ hw110_0)).trans hw110_0), ((HB.out.cell (World.block_lt_of_cell? w _ hw110_1)).trans hw110_1), ((HB.out.cell (World.block_lt_of_cell? w _ hw112_0)).trans hw112_0), ((HB.out.cell (World.block_lt_of_cell? w _ hw112_1)).trans hw112_1), ((HB.out.cell (World.block_lt_of_cell? w _ hw114_0)).trans hw114_0), ((HB.out.cell (World.block_lt_of_cell? w _ hw114_1)).trans hw114_1)⟩ (fun hHeld => ?_)
                    clear hK K
                    refine nU 28 (h := ?_)
                    refine one_ (i := 22) (N := some 34) (bl 26 8388607) rfl rfl (one_of HT_.out (by kernel_rfl)) (by decide) (fun K hK => ?_)
                    refine goes_ Tryd.func56 (by kernel_rfl) rfl #[.int .i64 ((rd_T25 l0 x3_1).f0)] (by rfl) rfl rfl (by (try simp only [List.map_toArray, List.map_cons, List.map_nil]); first | done | rfl | (simp only [List.length_drop, List.length_take]; rfl)) ?_
                    with_reducible refine (slotmeshref33_Leading.calls k1 ((rd_T25 l0 x3_1).f0) t115 _ A11.out).mono ?_
                    rintro e w' ⟨rfl, ⟨nd, rfl⟩⟩
                    refine ⟨_, rfl, ?_⟩
                    refine hK.out _ _ ⟨((HB.out.cell (World.block_lt_of_cell? w _ hw110_0)).trans hw110_0), ((HB.out.cell (World.block_lt_of_cell? w _ hw110_1)).trans hw110_1), ((HB.out.cell (World.block_lt_of_cell? w _ hw112_0)).trans hw112_0), ((HB.out.cell (World.block_lt_of_cell? w _ hw112_1)).trans hw112_1), ((HB.out.cell (World.block_lt_of_cell? w _ hw114_0)).trans hw114_0), ((HB.out.cell (World.block_lt_of_cell? w _ hw114_1)).trans hw114_1)⟩ (fun hHeld => ?_)
                    clear hK K
                    refine nU 34 (h := ?_)
                    refine pU 23 35 (bl 26 16777215) (any_of HT_.out (by kernel_rfl)) (h := ?_)
                    refine pU 24 36 (bl 26 33554431) (any_of HT_.out (by kernel_rfl)) (h := ?_)
                    refine pU 25 37 (bl 26 67108863) (any_of HT_.out (by kernel_rfl)) (h := ?_)
                    refine done_ (done_of HT_.out (by kernel_rfl)) ?_
                    try go_wp2
                    go_roundg k1
                    case measure => have := HK1.out; omega
                    case rel => exact ⟨(wrap64 (x3_1 + 1)), (by first | rfl | (simp; done) | (simp [*]; done)), H', ⟨by have := HK1.out; omega⟩, ⟨by repeat (first | (with_reducible first | exact HB.out | apply below_alloc | apply pw_below_drewN | apply below_drew1) | exact HB.out)⟩⟩
                · rw [if_neg c9] at H
                  exact absurd H (by simp)
              · rw [if_neg c8] at H
                exact absurd H (by simp)
            · rw [if_neg c6] at H
              have c6b0 : decide (0 < x3_1) = false := decide_eq_false c6
              clear c6
              have H' := Aside0.mk H
              clear H
              try go_wp2
              have n0_ := Aside0.mk (below_drew1 HB.out)
              clear HB
              have HB := n0_
              clear n0_
              have p110 : 0 ≤ (x3_1 : Int) := of_decide_eq_true (by first | (with_reducible assumption) | assumption)
              have q110 : x3_1 < (l0.length : Int) := of_decide_eq_true (by first | (with_reducible assumption) | assumption)
              obtain ⟨ad110, A110_1, c110_1, e110, hx110_0, hx110_1, hl110_1, hi110_1⟩ := at_T25 HR0.out x3_1 p110 q110
              have hw110_1 := hx110_1
              have hw110_0 := hx110_0
              cases e110
              replace hx110_0 := (HB.out.cell (World.block_lt_of_cell? w _ hx110_0)).trans hx110_0
              replace hx110_1 := (HB.out.cell (World.block_lt_of_cell? w _ hx110_1)).trans hx110_1
              have HR110_1 := Aside0.mk hi110_1
              have HC110_1 := Aside0.mk hl110_1
              clear hi110_1 hl110_1
              replace p110 := eq_true p110
              replace q110 := eq_true q110
              refine start_ (n := 26) (S := fun w' => w'.cell? (ad110.add ((x3_1).toNat * 2)) = some (.int .i64 ((rd_T25 l0 x3_1).f0)) ∧ w'.cell? ⟨(ad110.add ((x3_1).toNat * 2)).block, (ad110.add ((x3_1).toNat * 2)).off + 1, none⟩ = some (.slice A110_1 ((rd_T25 l0 x3_1).f1).length c110_1)) (ds := []) (bl 26 0) (by kernel_rfl) rfl rfl ⟨((HB.out.cell (World.block_lt_of_cell? w _ hw110_0)).trans hw110_0), ((HB.out.cell (World.block_lt_of_cell? w _ hw110_1)).trans hw110_1)⟩ (fun hHeld => ?_); refine with_tabW slotmeshref33_Valid.tab4 slotmeshref33_Valid.bits4 (fun HT_ HW_ => ?_)
              generalize wr.drew = w17 at HB HR110_1 hx110_0 hx110_1 hHeld ⊢
              refine pU 0 12 (bl 26 1) (any_of HT_.out (by kernel_rfl)) (h := ?_)
              refine pU 1 13 (bl 26 3) (any_of HT_.out (by kernel_rfl)) (h := ?_)
              refine pU 2 14 (bl 26 7) (any_of HT_.out (by kernel_rfl)) (h := ?_)
              refine tU 3 15 (bl 26 15) (take_ofW HT_.out HW_.out (by kernel_rfl)) hHeld (hy := by rintro w' ⟨s0, s1⟩; go_simp; with_reducible rfl) (h := ?_)
              refine one_ (i := 4) (N := some 16) (bl 26 31) rfl rfl (one_of HT_.out (by kernel_rfl)) (by decide) (fun K hK => ?_)
              refine goes_ Tryd.func52 (by kernel_rfl) rfl #[.agg #[.int .i64 ((rd_T25 l0 x3_1).f0), .slice A110_1 ((rd_T25 l0 x3_1).f1).length c110_1]] (by rfl) rfl rfl (by (try simp only [List.map_toArray, List.map_cons, List.map_nil]); first | done | rfl | (simp only [List.length_drop, List.length_take]; rfl)) ?_
              with_reducible refine (slotmeshref33_Formed.calls ((rd_T25 l0 x3_1).f0) _ _ ((rd_T25 l0 x3_1).f1) true _ ?side1 ?side2 A4.out).mono ?_
              (case side1 => repeat (first | exact (Kd.C_below HR110_1.out HB.out) | (with_reducible refine Kd.C_alloc ?_ _) | (with_reducible refine Kd.C_drewN ?_ _) | (with_reducible refine Kd.C_drew ?_)))
              (case side2 => exact HC110_1.out)
              rintro e w18 ⟨rfl, hb⟩
              refine ⟨_, rfl, ?_⟩
              have n0_ := Aside0.mk (below_step (by repeat (first | (with_reducible first | exact HB.out | apply below_alloc | apply pw_below_drewN | apply below_drew1) | exact HB.out)) hb)
              clear HB
              have HB := n0_
              clear n0_
              (try clear hb)
              (try clear hb2)
              (try clear hk)
              (try clear hi)
              refine hK.out _ _ ⟨((HB.out.cell (World.block_lt_of_cell? w _ hw110_0)).trans hw110_0), ((HB.out.cell (World.block_lt_of_cell? w _ hw110_1)).trans hw110_1)⟩ (fun hHeld => ?_)
              clear hK K
              refine nU 16 (h := ?_)
              refine pU 5 17 (bl 26 63) (any_of HT_.out (by kernel_rfl)) (h := ?_)
              refine pU 6 18 (bl 26 127) (any_of HT_.out (by kernel_rfl)) (h := ?_)
              refine pU 7 19 (bl 26 255) (any_of HT_.out (by kernel_rfl)) (h := ?_)
              refine pU 8 20 (bl 26 511) (any_of HT_.out (by kernel_rfl)) (h := ?_)
              refine pU 9 21 (bl 26 1023) (any_of HT_.out (by kernel_rfl)) (h := ?_)
              refine pV 10 22 (bl 26 2047) (any_of HT_.out (by kernel_rfl)) (h := ?_)
              refine pV 11 23 (bl 26 4095) (any_of HT_.out (by kernel_rfl)) (h := ?_)
              refine pV 12 24 (bl 26 8191) (any_of HT_.out (by kernel_rfl)) (h := ?_)
              refine pV 13 25 (bl 26 16383) (any_of HT_.out (by kernel_rfl)) (h := ?_)
              refine pV 14 26 (bl 26 32767) (any_of HT_.out (by kernel_rfl)) (h := ?_)
              refine pV 15 27 (bl 26 65535) (any_of HT_.out (by kernel_rfl)) (h := ?_)
              refine pV 16 28 (bl 26 131071) (any_of HT_.out (by kernel_rfl)) (h := ?_)
              refine pV 17 29 (bl 26 262143) (any_of HT_.out (by kernel_rfl)) (h := ?_)
              refine pV 18 30 (bl 26 524287) (any_of HT_.out (by kernel_rfl)) (h := ?_)
              refine pV 19 31 (bl 26 1048575) (any_of HT_.out (by kernel_rfl)) (h := ?_)
              refine pV 20 32 (bl 26 2097151) (any_of HT_.out (by kernel_rfl)) (h := ?_)
              refine pV 21 33 (bl 26 4194303) (any_of HT_.out (by kernel_rfl)) (h := ?_)
              refine pV 22 34 (bl 26 8388607) (any_of HT_.out (by kernel_rfl)) (h := ?_)
              refine pV 23 35 (bl 26 16777215) (any_of HT_.out (by kernel_rfl)) (h := ?_)
              refine pU 24 36 (bl 26 33554431) (any_of HT_.out (by kernel_rfl)) (h := ?_)
              refine pU 25 37 (bl 26 67108863) (any_of HT_.out (by kernel_rfl)) (h := ?_)
              refine done_ (done_of HT_.out (by kernel_rfl)) ?_
              try go_wp2
              go_roundg k1
              case measure => have := HK1.out; omega
              case rel => exact ⟨(wrap64 (x3_1 + 1)), (by first | rfl | (simp; done) | (simp [*]; done)), H', ⟨by have := HK1.out; omega⟩, ⟨by repeat (first | (with_reducible first | exact HB.out | apply below_alloc | apply pw_below_drewN | apply below_drew1) | exact HB.out)⟩⟩
          · replace c5 := Bool.eq_false_iff.mpr c5
            subst c5
            have H1 : (some false) = some r := by rw [if_neg (show ¬ (false = true) by decide)] at H; exact H
            clear H
            have H := H1
            clear H1
            obtain rfl := Option.some.inj H
            try go_wp2
            have n0_ := Aside0.mk (below_drew1 HB.out)
            clear HB
            have HB := n0_
            clear n0_
            have p110 : 0 ≤ (x3_1 : Int) := of_decide_eq_true (by first | (with_reducible assumption) | assumption)
            have q110 : x3_1 < (l0.length : Int) := of_decide_eq_true (by first | (with_reducible assumption) | assumption)
            obtain ⟨ad110, A110_1, c110_1, e110, hx110_0, hx110_1, hl110_1, hi110_1⟩ := at_T25 HR0.out x3_1 p110 q110
            have hw110_1 := hx110_1
            have hw110_0 := hx110_0
            cases e110
            replace hx110_0 := (HB.out.cell (World.block_lt_of_cell? w _ hx110_0)).trans hx110_0
            replace hx110_1 := (HB.out.cell (World.block_lt_of_cell? w _ hx110_1)).trans hx110_1
            have HR110_1 := Aside0.mk hi110_1
            have HC110_1 := Aside0.mk hl110_1
            clear hi110_1 hl110_1
            replace p110 := eq_true p110
            replace q110 := eq_true q110
            refine start_ (n := 26) (S := fun w' => w'.cell? (ad110.add ((x3_1).toNat * 2)) = some (.int .i64 ((rd_T25 l0 x3_1).f0)) ∧ w'.cell? ⟨(ad110.add ((x3_1).toNat * 2)).block, (ad110.add ((x3_1).toNat * 2)).off + 1, none⟩ = some (.slice A110_1 ((rd_T25 l0 x3_1).f1).length c110_1)) (ds := []) (bl 26 0) (by kernel_rfl) rfl rfl ⟨((HB.out.cell (World.block_lt_of_cell? w _ hw110_0)).trans hw110_0), ((HB.out.cell (World.block_lt_of_cell? w _ hw110_1)).trans hw110_1)⟩ (fun hHeld => ?_); refine with_tabW slotmeshref33_Valid.tab4 slotmeshref33_Valid.bits4 (fun HT_ HW_ => ?_)
            generalize wr.drew = w19 at HB HR110_1 hx110_0 hx110_1 hHeld ⊢
            refine pU 0 12 (bl 26 1) (any_of HT_.out (by kernel_rfl)) (h := ?_)
            refine pU 1 13 (bl 26 3) (any_of HT_.out (by kernel_rfl)) (h := ?_)
            refine pU 2 14 (bl 26 7) (any_of HT_.out (by kernel_rfl)) (h := ?_)
            refine tU 3 15 (bl 26 15) (take_ofW HT_.out HW_.out (by kernel_rfl)) hHeld (hy := by rintro w' ⟨s0, s1⟩; go_simp; with_reducible rfl) (h := ?_)
            refine one_ (i := 4) (N := some 16) (bl 26 31) rfl rfl (one_of HT_.out (by kernel_rfl)) (by decide) (fun K hK => ?_)
            refine goes_ Tryd.func52 (by kernel_rfl) rfl #[.agg #[.int .i64 ((rd_T25 l0 x3_1).f0), .slice A110_1 ((rd_T25 l0 x3_1).f1).length c110_1]] (by rfl) rfl rfl (by (try simp only [List.map_toArray, List.map_cons, List.map_nil]); first | done | rfl | (simp only [List.length_drop, List.length_take]; rfl)) ?_
            with_reducible refine (slotmeshref33_Formed.calls ((rd_T25 l0 x3_1).f0) _ _ ((rd_T25 l0 x3_1).f1) false _ ?side1 ?side2 A4.out).mono ?_
            (case side1 => repeat (first | exact (Kd.C_below HR110_1.out HB.out) | (with_reducible refine Kd.C_alloc ?_ _) | (with_reducible refine Kd.C_drewN ?_ _) | (with_reducible refine Kd.C_drew ?_)))
            (case side2 => exact HC110_1.out)
            rintro e w20 ⟨rfl, hb⟩
            refine ⟨_, rfl, ?_⟩
            have n0_ := Aside0.mk (below_step (by repeat (first | (with_reducible first | exact HB.out | apply below_alloc | apply pw_below_drewN | apply below_drew1) | exact HB.out)) hb)
            clear HB
            have HB := n0_
            clear n0_
            (try clear hb)
            (try clear hb2)
            (try clear hk)
            (try clear hi)
            refine hK.out _ _ ⟨((HB.out.cell (World.block_lt_of_cell? w _ hw110_0)).trans hw110_0), ((HB.out.cell (World.block_lt_of_cell? w _ hw110_1)).trans hw110_1)⟩ (fun hHeld => ?_)
            clear hK K
            refine nU 16 (h := ?_)
            refine pU 5 17 (bl 26 63) (any_of HT_.out (by kernel_rfl)) (h := ?_)
            refine pU 6 18 (bl 26 127) (any_of HT_.out (by kernel_rfl)) (h := ?_)
            refine pV 7 19 (bl 26 255) (any_of HT_.out (by kernel_rfl)) (h := ?_)
            refine pV 8 20 (bl 26 511) (any_of HT_.out (by kernel_rfl)) (h := ?_)
            refine pV 9 21 (bl 26 1023) (any_of HT_.out (by kernel_rfl)) (h := ?_)
            refine pV 10 22 (bl 26 2047) (any_of HT_.out (by kernel_rfl)) (h := ?_)
            refine pV 11 23 (bl 26 4095) (any_of HT_.out (by kernel_rfl)) (h := ?_)
            refine pV 12 24 (bl 26 8191) (any_of HT_.out (by kernel_rfl)) (h := ?_)
            refine pV 13 25 (bl 26 16383) (any_of HT_.out (by kernel_rfl)) (h := ?_)
            refine pV 14 26 (bl 26 32767) (any_of HT_.out (by kernel_rfl)) (h := ?_)
            refine pV 15 27 (bl 26 65535) (any_of HT_.out (by kernel_rfl)) (h := ?_)
            refine pV 16 28 (bl 26 131071) (any_of HT_.out (by kernel_rfl)) (h := ?_)
            refine pV 17 29 (bl 26 262143) (any_of HT_.out (by kernel_rfl)) (h := ?_)
            refine pV 18 30 (bl 26 524287) (any_of HT_.out (by kernel_rfl)) (h := ?_)
            refine pV 19 31 (bl 26 1048575) (any_of HT_.out (by kernel_rfl)) (h := ?_)
            refine pV 20 32 (bl 26 2097151) (any_of HT_.out (by kernel_rfl)) (h := ?_)
            refine pV 21 33 (bl 26 4194303) (any_of HT_.out (by kernel_rfl)) (h := ?_)
            refine pV 22 34 (bl 26 8388607) (any_of HT_.out (by kernel_rfl)) (h := ?_)
            refine pV 23 35 (bl 26 16777215) (any_of HT_.out (by kernel_rfl)) (h := ?_)
            refine pV 24 36 (bl 26 33554431) (any_of HT_.out (by kernel_rfl)) (h := ?_)
            refine pU 25 37 (bl 26 67108863) (any_of HT_.out (by kernel_rfl)) (h := ?_)
            refine done_ (done_of HT_.out (by kernel_rfl)) ?_
            try go_wp2
            go_ret
            exact ⟨by first | rfl | (simp [errW_none, errW_some] <;> rfl) | (simp [*, errW_none, errW_some] <;> rfl), by repeat (first | (with_reducible first | exact HB.out | apply below_alloc | apply pw_below_drewN | apply below_drew1) | exact HB.out)⟩
        · rw [if_neg c3] at H
          exact absurd H (by simp)
      · rw [if_neg c2] at H
        have c2b0 : decide (x3_1 < (l0.length : Int)) = false := decide_eq_false c2
        clear c2
        have H' := Aside0.mk H
        clear H
        go_wp2
        go_loopg [4] k1 (fun kq v4 w' => ∃ (x4_2 : Int), v4 = .int .i64 x4_2 ∧ Aside0 (slotmeshref33_Valid.l1 kq l0 x4_2 = some r) ∧ Aside0 (kq ≤ k1) ∧ Aside0 (Below w.heap.size w w'))
        case atStart => exact ⟨(0), (by first | rfl | (simp; done) | (simp [*]; done)), H', ⟨Nat.le_refl _⟩, ⟨by repeat (first | (with_reducible first | exact HB.out | apply below_alloc | apply pw_below_drewN | apply below_drew1) | exact HB.out)⟩⟩
        case round =>
          clear H'
          try clear c1
          try clear p1
          try clear q1
          try clear hx1
          try clear c2
          try clear c2b0
          try clear p2
          try clear c3
          try clear c5
          try clear c6
          try clear c6b0
          try clear p6
          try clear c8
          try clear c9
          try clear c11
          try clear p11
          try clear q11
          try clear hx11
          try clear hx110_0
          try clear hx110_1
          try clear p110
          try clear q110
          obtain ⟨x4_2, rfl, HA, HK2, HB⟩ := hrel
          cases gk with
          | zero => exact absurd HA.out (by simp [slotmeshref33_Valid.l1])
          | succ k2 =>
            have H := HA.out
            clear HA
            simp only [slotmeshref33_Valid.l1] at H
            by_cases c21 : x4_2 < (l0.length : Int)
            · rw [if_pos c21] at H
              have c21b0 : decide (x4_2 < (l0.length : Int)) = true := decide_eq_true c21
              clear c21
              have H' := Aside0.mk H
              clear H
              go_wp2
              go_loopg [5] k2 (fun kq v5 w' => ∃ (x5_3 : Int), v5 = .int .i64 x5_3 ∧ Aside0 (slotmeshref33_Valid.l2 kq l0 x4_2 x5_3 = some r) ∧ Aside0 (kq ≤ k2) ∧ Aside0 (Below w.heap.size w w'))
              case atStart => exact ⟨(0), (by first | rfl | (simp; done) | (simp [*]; done)), H', ⟨Nat.le_refl _⟩, ⟨by repeat (first | (with_reducible first | exact HB.out | apply below_alloc | apply pw_below_drewN | apply below_drew1) | exact HB.out)⟩⟩
              case round =>
                clear H'
                try clear c1
                try clear p1
                try clear q1
                try clear hx1
                try clear c2
                try clear c2b0
                try clear p2
                try clear c3
                try clear c5
                try clear c6
                try clear c6b0
                try clear p6
                try clear c8
                try clear c9
                try clear c11
                try clear p11
                try clear q11
                try clear hx11
                try clear c21
                try clear c21b0
                try clear hx110_0
                try clear hx110_1
                try clear p1
                try clear p11
                try clear p110
                try clear p2
                try clear p6
                try clear q1
                try clear q11
                try clear q110
                obtain ⟨x5_3, rfl, HA, HK3, HB⟩ := hrel
                cases gk with
                | zero => exact absurd HA.out (by simp [slotmeshref33_Valid.l2])
                | succ k3 =>
                  have H := HA.out
                  clear HA
                  simp only [slotmeshref33_Valid.l2] at H
                  by_cases c22 : x5_3 < (l0.length : Int)
                  · rw [if_pos c22] at H
                    have c22b0 : decide (x5_3 < (l0.length : Int)) = true := decide_eq_true c22
                    clear c22
                    by_cases c23 : x4_2 = x5_3
                    · rw [if_pos c23] at H
                      have c23b0 : (x4_2 == x5_3) = true := beq_iff_eq.mpr c23
                      have c23b1 : (x4_2 != x5_3) = false := bne_eq_false_iff_eq.mpr c23
                      clear c23
                      have H' := Aside0.mk H
                      clear H
                      try go_wp2
                      have n0_ := Aside0.mk (below_drew1 HB.out)
                      clear HB
                      have HB := n0_
                      clear n0_
                      refine start_ (n := 18) (S := fun w' => True) (ds := []) (bl 18 0) (by kernel_rfl) rfl rfl trivial (fun hHeld => ?_); refine with_tabW slotmeshref33_Valid.tab12 slotmeshref33_Valid.bits12 (fun HT_ HW_ => ?_)
                      generalize wr.drew = w24 at HB hHeld ⊢
                      refine pU 0 50 (bl 18 1) (any_of HT_.out (by kernel_rfl)) (h := ?_)
                      refine pU 1 51 (bl 18 3) (any_of HT_.out (by kernel_rfl)) (h := ?_)
                      refine pU 2 52 (bl 18 7) (any_of HT_.out (by kernel_rfl)) (h := ?_)
                      refine pU 3 53 (bl 18 15) (any_of HT_.out (by kernel_rfl)) (h := ?_)
                      refine pV 4 54 (bl 18 31) (any_of HT_.out (by kernel_rfl)) (h := ?_)
                      refine pV 5 55 (bl 18 63) (any_of HT_.out (by kernel_rfl)) (h := ?_)
                      refine pV 6 56 (bl 18 127) (any_of HT_.out (by kernel_rfl)) (h := ?_)
                      refine pV 7 57 (bl 18 255) (any_of HT_.out (by kernel_rfl)) (h := ?_)
                      refine pV 8 58 (bl 18 511) (any_of HT_.out (by kernel_rfl)) (h := ?_)
                      refine pV 9 59 (bl 18 1023) (any_of HT_.out (by kernel_rfl)) (h := ?_)
                      refine pV 10 60 (bl 18 2047) (any_of HT_.out (by kernel_rfl)) (h := ?_)
                      refine pV 11 61 (bl 18 4095) (any_of HT_.out (by kernel_rfl)) (h := ?_)
                      refine pV 12 62 (bl 18 8191) (any_of HT_.out (by kernel_rfl)) (h := ?_)
                      refine pV 13 63 (bl 18 16383) (any_of HT_.out (by kernel_rfl)) (h := ?_)
                      refine pV 14 64 (bl 18 32767) (any_of HT_.out (by kernel_rfl)) (h := ?_)
                      refine pV 15 65 (bl 18 65535) (any_of HT_.out (by kernel_rfl)) (h := ?_)
                      refine pV 16 66 (bl 18 131071) (any_of HT_.out (by kernel_rfl)) (h := ?_)
                      refine pU 17 67 (bl 18 262143) (any_of HT_.out (by kernel_rfl)) (h := ?_)
                      refine done_ (done_of HT_.out (by kernel_rfl)) ?_
                      try go_wp2
                      go_roundg k3
                      case measure => have := HK1.out; have := HK2.out; have := HK3.out; omega
                      case rel => exact ⟨(wrap64 (x5_3 + 1)), (by first | rfl | (simp; done) | (simp [*]; done)), H', ⟨by have := HK1.out; have := HK2.out; have := HK3.out; omega⟩, ⟨by repeat (first | (with_reducible first | exact HB.out | apply below_alloc | apply pw_below_drewN | apply below_drew1) | exact HB.out)⟩⟩
                    · rw [if_neg c23] at H
                      have c23b0 : (x4_2 == x5_3) = false := beq_eq_false_iff_ne.mpr c23
                      have c23b1 : (x4_2 != x5_3) = true := bne_iff_ne.mpr c23
                      by_cases c25 : 0 ≤ x5_3
                      · rw [if_pos c25] at H
                        have c25b0 : decide (0 ≤ x5_3) = true := decide_eq_true c25
                        clear c25
                        by_cases c26 : 0 ≤ x4_2
                        · rw [if_pos c26] at H
                          have c26b0 : decide (0 ≤ x4_2) = true := decide_eq_true c26
                          clear c26
                          by_cases c27 : x4_2 < (l0.length : Int)
                          · rw [if_pos c27] at H
                            have c27b0 : decide (x4_2 < (l0.length : Int)) = true := decide_eq_true c27
                            clear c27
                            replace H := Option.bind_eq_some_iff.mp H
                            obtain ⟨t118, A280, H⟩ := H
                            replace H : (if (Go.bits .and .i64 ((rd_T25 l0 x5_3).f0) t118) = 0 then (slotmeshref33_Valid.l2 k3 l0 x4_2 (wrap64 (x5_3 + 1))) else (some false)) = some r := H
                            have A28 := Aside0.mk A280
                            clear A280
                            by_cases c29 : (Go.bits .and .i64 ((rd_T25 l0 x5_3).f0) t118) = 0
                            · rw [if_pos c29] at H
                              have c29b0 : ((Go.bits .and .i64 ((rd_T25 l0 x5_3).f0) t118) == 0) = true := beq_iff_eq.mpr c29
                              have c29b1 : ((Go.bits .and .i64 ((rd_T25 l0 x5_3).f0) t118) != 0) = false := bne_eq_false_iff_eq.mpr c29
                              clear c29
                              have H' := Aside0.mk H
                              clear H
                              try go_wp2
                              have n0_ := Aside0.mk (below_drew1 HB.out)
                              clear HB
                              have HB := n0_
                              clear n0_
                              have p116 : 0 ≤ (x5_3 : Int) := of_decide_eq_true (by first | (with_reducible assumption) | assumption)
                              have q116 : x5_3 < (l0.length : Int) := of_decide_eq_true (by first | (with_reducible assumption) | assumption)
                              obtain ⟨ad116, A116_1, c116_1, e116, hx116_0, hx116_1, hl116_1, hi116_1⟩ := at_T25 HR0.out x5_3 p116 q116
                              have hw116_1 := hx116_1
                              have hw116_0 := hx116_0
                              cases e116
                              replace hx116_0 := (HB.out.cell (World.block_lt_of_cell? w _ hx116_0)).trans hx116_0
                              replace hx116_1 := (HB.out.cell (World.block_lt_of_cell? w _ hx116_1)).trans hx116_1
                              have HR116_1 := Aside0.mk hi116_1
                              have HC116_1 := Aside0.mk hl116_1
                              clear hi116_1 hl116_1
                              replace p116 := eq_true p116
                              replace q116 := eq_true q116
                              have p117 : 0 ≤ (x4_2 : Int) := of_decide_eq_true (by first | (with_reducible assumption) | assumption)
                              have q117 : x4_2 < (l0.length : Int) := of_decide_eq_true (by first | (with_reducible assumption) | assumption)
                              obtain ⟨ad117, A117_1, c117_1, e117, hx117_0, hx117_1, hl117_1, hi117_1⟩ := at_T25 HR0.out x4_2 p117 q117
                              have hw117_1 := hx117_1
                              have hw117_0 := hx117_0
                              obtain rfl : ad116 = ad117 := (by injection e117)
                              replace hx117_0 := (HB.out.cell (World.block_lt_of_cell? w _ hx117_0)).trans hx117_0
                              replace hx117_1 := (HB.out.cell (World.block_lt_of_cell? w _ hx117_1)).trans hx117_1
                              have HR117_1 := Aside0.mk hi117_1
                              have HC117_1 := Aside0.mk hl117_1
                              clear hi117_1 hl117_1
                              replace p117 := eq_true p117
                              replace q117 := eq_true q117
                              refine start_ (n := 18) (S := fun w' => w'.cell? (ad116.add ((x5_3).toNat * 2)) = some (.int .i64 ((rd_T25 l0 x5_3).f0)) ∧ w'.cell? ⟨(ad116.add ((x5_3).toNat * 2)).block, (ad116.add ((x5_3).toNat * 2)).off + 1, none⟩ = some (.slice A116_1 ((rd_T25 l0 x5_3).f1).length c116_1) ∧ w'.cell? (ad116.add ((x4_2).toNat * 2)) = some (.int .i64 ((rd_T25 l0 x4_2).f0)) ∧ w'.cell? ⟨(ad116.add ((x4_2).toNat * 2)).block, (ad116.add ((x4_2).toNat * 2)).off + 1, none⟩ = some (.slice A117_1 ((rd_T25 l0 x4_2).f1).length c117_1)) (ds := []) (bl 18 0) (by kernel_rfl) rfl rfl ⟨((HB.out.cell (World.block_lt_of_cell? w _ hw116_0)).trans hw116_0), ((HB.out.cell (World.block_lt_of_cell? w _ hw116_1)).trans hw116_1), ((HB.out.cell (World.block_lt_of_cell? w _ hw117_0)).trans hw117_0), ((HB.out.cell (World.block_lt_of_cell? w _ hw117_1)).trans hw117_1)⟩ (fun hHeld => ?_); refine with_tabW slotmeshref33_Valid.tab12 slotmeshref33_Valid.bits12 (fun HT_ HW_ => ?_)
                              generalize wr.drew = w30 at HB HR116_1 HR117_1 hx116_0 hx116_1 hx117_0 hx117_1 hHeld ⊢
                              refine pU 0 50 (bl 18 1) (any_of HT_.out (by kernel_rfl)) (h := ?_)
                              refine pU 1 51 (bl 18 3) (any_of HT_.out (by kernel_rfl)) (h := ?_)
                              refine pU 2 52 (bl 18 7) (any_of HT_.out (by kernel_rfl)) (h := ?_)
                              refine pU 3 53 (bl 18 15) (any_of HT_.out (by kernel_rfl)) (h := ?_)
                              refine pU 4 54 (bl 18 31) (any_of HT_.out (by kernel_rfl)) (h := ?_)
                              refine pU 5 55 (bl 18 63) (any_of HT_.out (by kernel_rfl)) (h := ?_)
                              refine pU 6 56 (bl 18 127) (any_of HT_.out (by kernel_rfl)) (h := ?_)
                              refine pU 7 57 (bl 18 255) (any_of HT_.out (by kernel_rfl)) (h := ?_)
                              refine pU 9 59 (bl 18 767) (any_of HT_.out (by kernel_rfl)) (h := ?_)
                              refine pU 10 60 (bl 18 1791) (any_of HT_.out (by kernel_rfl)) (h := ?_)
                              refine pU 11 61 (bl 18 3839) (any_of HT_.out (by kernel_rfl)) (h := ?_)
                              refine pU 12 62 (bl 18 7935) (any_of HT_.out (by kernel_rfl)) (h := ?_)
                              refine tU 8 58 (bl 18 8191) (take_ofW HT_.out HW_.out (by kernel_rfl)) hHeld (hy := by rintro w' ⟨s0, s1, s2, s3⟩; go_simp; with_reducible rfl) (h := ?_)
                              refine tU 13 63 (bl 18 16383) (take_ofW HT_.out HW_.out (by kernel_rfl)) hHeld (hy := by rintro w' ⟨s0, s1, s2, s3⟩; go_simp; with_reducible rfl) (h := ?_)
                              refine one_ (i := 14) (N := some 64) (bl 18 32767) rfl rfl (one_of HT_.out (by kernel_rfl)) (by decide) (fun K hK => ?_)
                              refine goes_ Tryd.func56 (by kernel_rfl) rfl #[.int .i64 ((rd_T25 l0 x4_2).f0)] (by rfl) rfl rfl (by (try simp only [List.map_toArray, List.map_cons, List.map_nil]); first | done | rfl | (simp only [List.length_drop, List.length_take]; rfl)) ?_
                              with_reducible refine (slotmeshref33_Leading.calls k3 ((rd_T25 l0 x4_2).f0) t118 _ A28.out).mono ?_
                              rintro e w' ⟨rfl, ⟨nd, rfl⟩⟩
                              refine ⟨_, rfl, ?_⟩
                              refine hK.out _ _ ⟨((HB.out.cell (World.block_lt_of_cell? w _ hw116_0)).trans hw116_0), ((HB.out.cell (World.block_lt_of_cell? w _ hw116_1)).trans hw116_1), ((HB.out.cell (World.block_lt_of_cell? w _ hw117_0)).trans hw117_0), ((HB.out.cell (World.block_lt_of_cell? w _ hw117_1)).trans hw117_1)⟩ (fun hHeld => ?_)
                              clear hK K
                              refine nU 64 (h := ?_)
                              refine pU 15 65 (bl 18 65535) (any_of HT_.out (by kernel_rfl)) (h := ?_)
                              refine pU 16 66 (bl 18 131071) (any_of HT_.out (by kernel_rfl)) (h := ?_)
                              refine pU 17 67 (bl 18 262143) (any_of HT_.out (by kernel_rfl)) (h := ?_)
                              refine done_ (done_of HT_.out (by kernel_rfl)) ?_
                              try go_wp2
                              go_roundg k3
                              case measure => have := HK1.out; have := HK2.out; have := HK3.out; omega
                              case rel => exact ⟨(wrap64 (x5_3 + 1)), (by first | rfl | (simp; done) | (simp [*]; done)), H', ⟨by have := HK1.out; have := HK2.out; have := HK3.out; omega⟩, ⟨by repeat (first | (with_reducible first | exact HB.out | apply below_alloc | apply pw_below_drewN | apply below_drew1) | exact HB.out)⟩⟩
                            · rw [if_neg c29] at H
                              have c29b0 : ((Go.bits .and .i64 ((rd_T25 l0 x5_3).f0) t118) == 0) = false := beq_eq_false_iff_ne.mpr c29
                              have c29b1 : ((Go.bits .and .i64 ((rd_T25 l0 x5_3).f0) t118) != 0) = true := bne_iff_ne.mpr c29
                              obtain rfl := Option.some.inj H
                              try go_wp2
                              have n0_ := Aside0.mk (below_drew1 HB.out)
                              clear HB
                              have HB := n0_
                              clear n0_
                              have p116 : 0 ≤ (x5_3 : Int) := of_decide_eq_true (by first | (with_reducible assumption) | assumption)
                              have q116 : x5_3 < (l0.length : Int) := of_decide_eq_true (by first | (with_reducible assumption) | assumption)
                              obtain ⟨ad116, A116_1, c116_1, e116, hx116_0, hx116_1, hl116_1, hi116_1⟩ := at_T25 HR0.out x5_3 p116 q116
                              have hw116_1 := hx116_1
                              have hw116_0 := hx116_0
                              cases e116
                              replace hx116_0 := (HB.out.cell (World.block_lt_of_cell? w _ hx116_0)).trans hx116_0
                              replace hx116_1 := (HB.out.cell (World.block_lt_of_cell? w _ hx116_1)).trans hx116_1
                              have HR116_1 := Aside0.mk hi116_1
                              have HC116_1 := Aside0.mk hl116_1
                              clear hi116_1 hl116_1
                              replace p116 := eq_true p116
                              replace q116 := eq_true q116
                              have p117 : 0 ≤ (x4_2 : Int) := of_decide_eq_true (by first | (with_reducible assumption) | assumption)
                              have q117 : x4_2 < (l0.length : Int) := of_decide_eq_true (by first | (with_reducible assumption) | assumption)
                              obtain ⟨ad117, A117_1, c117_1, e117, hx117_0, hx117_1, hl117_1, hi117_1⟩ := at_T25 HR0.out x4_2 p117 q117
                              have hw117_1 := hx117_1
                              have hw117_0 := hx117_0
                              obtain rfl : ad116 = ad117 := (by injection e117)
                              replace hx117_0 := (HB.out.cell (World.block_lt_of_cell? w _ hx117_0)).trans hx117_0
                              replace hx117_1 := (HB.out.cell (World.block_lt_of_cell? w _ hx117_1)).trans hx117_1
                              have HR117_1 := Aside0.mk hi117_1
                              have HC117_1 := Aside0.mk hl117_1
                              clear hi117_1 hl117_1
                              replace p117 := eq_true p117
                              replace q117 := eq_true q117
                              refine start_ (n := 18) (S := fun w' => w'.cell? (ad116.add ((x5_3).toNat * 2)) = some (.int .i64 ((rd_T25 l0 x5_3).f0)) ∧ w'.cell? ⟨(ad116.add ((x5_3).toNat * 2)).block, (ad116.add ((x5_3).toNat * 2)).off + 1, none⟩ = some (.slice A116_1 ((rd_T25 l0 x5_3).f1).length c116_1) ∧ w'.cell? (ad116.add ((x4_2).toNat * 2)) = some (.int .i64 ((rd_T25 l0 x4_2).f0)) ∧ w'.cell? ⟨(ad116.add ((x4_2).toNat * 2)).block, (ad116.add ((x4_2).toNat * 2)).off + 1, none⟩ = some (.slice A117_1 ((rd_T25 l0 x4_2).f1).length c117_1)) (ds := []) (bl 18 0) (by kernel_rfl) rfl rfl ⟨((HB.out.cell (World.block_lt_of_cell? w _ hw116_0)).trans hw116_0), ((HB.out.cell (World.block_lt_of_cell? w _ hw116_1)).trans hw116_1), ((HB.out.cell (World.block_lt_of_cell? w _ hw117_0)).trans hw117_0), ((HB.out.cell (World.block_lt_of_cell? w _ hw117_1)).trans hw117_1)⟩ (fun hHeld => ?_); refine with_tabW slotmeshref33_Valid.tab12 slotmeshref33_Valid.bits12 (fun HT_ HW_ => ?_)
                              generalize wr.drew = w31 at HB HR116_1 HR117_1 hx116_0 hx116_1 hx117_0 hx117_1 hHeld ⊢
                              refine pU 0 50 (bl 18 1) (any_of HT_.out (by kernel_rfl)) (h := ?_)
                              refine pU 1 51 (bl 18 3) (any_of HT_.out (by kernel_rfl)) (h := ?_)
                              refine pU 2 52 (bl 18 7) (any_of HT_.out (by kernel_rfl)) (h := ?_)
                              refine pU 3 53 (bl 18 15) (any_of HT_.out (by kernel_rfl)) (h := ?_)
                              refine pU 4 54 (bl 18 31) (any_of HT_.out (by kernel_rfl)) (h := ?_)
                              refine pU 5 55 (bl 18 63) (any_of HT_.out (by kernel_rfl)) (h := ?_)
                              refine pU 6 56 (bl 18 127) (any_of HT_.out (by kernel_rfl)) (h := ?_)
                              refine pU 7 57 (bl 18 255) (any_of HT_.out (by kernel_rfl)) (h := ?_)
                              refine pU 9 59 (bl 18 767) (any_of HT_.out (by kernel_rfl)) (h := ?_)
                              refine pU 10 60 (bl 18 1791) (any_of HT_.out (by kernel_rfl)) (h := ?_)
                              refine pU 11 61 (bl 18 3839) (any_of HT_.out (by kernel_rfl)) (h := ?_)
                              refine pU 12 62 (bl 18 7935) (any_of HT_.out (by kernel_rfl)) (h := ?_)
                              refine tU 8 58 (bl 18 8191) (take_ofW HT_.out HW_.out (by kernel_rfl)) hHeld (hy := by rintro w' ⟨s0, s1, s2, s3⟩; go_simp; with_reducible rfl) (h := ?_)
                              refine tU 13 63 (bl 18 16383) (take_ofW HT_.out HW_.out (by kernel_rfl)) hHeld (hy := by rintro w' ⟨s0, s1, s2, s3⟩; go_simp; with_reducible rfl) (h := ?_)
                              refine one_ (i := 14) (N := some 64) (bl 18 32767) rfl rfl (one_of HT_.out (by kernel_rfl)) (by decide) (fun K hK => ?_)
                              refine goes_ Tryd.func56 (by kernel_rfl) rfl #[.int .i64 ((rd_T25 l0 x4_2).f0)] (by rfl) rfl rfl (by (try simp only [List.map_toArray, List.map_cons, List.map_nil]); first | done | rfl | (simp only [List.length_drop, List.length_take]; rfl)) ?_
                              with_reducible refine (slotmeshref33_Leading.calls k3 ((rd_T25 l0 x4_2).f0) t118 _ A28.out).mono ?_
                              rintro e w' ⟨rfl, ⟨nd, rfl⟩⟩
                              refine ⟨_, rfl, ?_⟩
                              refine hK.out _ _ ⟨((HB.out.cell (World.block_lt_of_cell? w _ hw116_0)).trans hw116_0), ((HB.out.cell (World.block_lt_of_cell? w _ hw116_1)).trans hw116_1), ((HB.out.cell (World.block_lt_of_cell? w _ hw117_0)).trans hw117_0), ((HB.out.cell (World.block_lt_of_cell? w _ hw117_1)).trans hw117_1)⟩ (fun hHeld => ?_)
                              clear hK K
                              refine nU 64 (h := ?_)
                              refine pU 15 65 (bl 18 65535) (any_of HT_.out (by kernel_rfl)) (h := ?_)
                              refine pU 16 66 (bl 18 131071) (any_of HT_.out (by kernel_rfl)) (h := ?_)
                              refine pU 17 67 (bl 18 262143) (any_of HT_.out (by kernel_rfl)) (h := ?_)
                              refine done_ (done_of HT_.out (by kernel_rfl)) ?_
                              try go_wp2
                              go_ret
                              exact ⟨by first | rfl | (simp [errW_none, errW_some] <;> rfl) | (simp [*, errW_none, errW_some] <;> rfl), by repeat (first | (with_reducible first | exact HB.out | apply below_alloc | apply pw_below_drewN | apply below_drew1) | exact HB.out)⟩
                          · rw [if_neg c27] at H
                            exact absurd H (by simp)
                        · rw [if_neg c26] at H
                          exact absurd H (by simp)
                      · rw [if_neg c25] at H
                        exact absurd H (by simp)
                  · rw [if_neg c22] at H
                    have c22b0 : decide (x5_3 < (l0.length : Int)) = false := decide_eq_false c22
                    clear c22
                    have H' := Aside0.mk H
                    clear H
                    go_wp2
                    go_roundg k3
                    case measure => have := HK1.out; have := HK2.out; have := HK3.out; omega
                    case rel => exact ⟨(wrap64 (x4_2 + 1)), (by first | rfl | (simp; done) | (simp [*]; done)), H', ⟨by have := HK1.out; have := HK2.out; have := HK3.out; omega⟩, ⟨by repeat (first | (with_reducible first | exact HB.out | apply below_alloc | apply pw_below_drewN | apply below_drew1) | exact HB.out)⟩⟩
            · rw [if_neg c21] at H
              have c21b0 : decide (x4_2 < (l0.length : Int)) = false := decide_eq_false c21
              clear c21
              obtain rfl := Option.some.inj H
              go_wp2
              go_ret
              exact ⟨by first | rfl | (simp [errW_none, errW_some] <;> rfl) | (simp [*, errW_none, errW_some] <;> rfl), by repeat (first | (with_reducible first | exact HB.out | apply below_alloc | apply pw_below_drewN | apply below_drew1) | exact HB.out)⟩
end Go.Proofs.YtknlbeojdmeljaaDoor.P
