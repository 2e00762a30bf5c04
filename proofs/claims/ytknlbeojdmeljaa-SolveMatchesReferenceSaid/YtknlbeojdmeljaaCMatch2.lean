-- cut by shake.py (own program) out of this session's texts
import Derived.Test.YtknlbeojdmeljaaCMatch1
namespace Go.Proofs.Ytknlbeojdmeljaa.P
open Go.RowKit Go.Proofs.YtknlbeojdmeljaaW.PrintWords Go.Proofs.YtknlbeojdmeljaaW.PrintLast Go.Proofs.YtknlbeojdmeljaaW.PrintMore
attribute [local go_sem] max2_int min2_int max_two min_two max_three min_three max_four min_four   -- for this text's walks alone
set_option linter.unusedVariables false
set_option linter.unusedSimpArgs false
mutual
def slotmeshref33_Solved.j0 : Nat → List (S25) → Int → Bool → Option (List Int × Bool)
  | 0, _, _, _ => none
  | k + 1, x0, x1, x18 => if x18 = true then (some (([] : List Int), false)) else ((slotmeshref33_Copy.f k x0).bind fun t143 => (slotmeshref33_Solved.l0 k x1 t143 0))
def slotmeshref33_Solved.l0 : Nat → Int → List (S25) → Int → Option (List Int × Bool)
  | 0, _, _, _ => none
  | k + 1, x1, x6, x7 => if x7 < (x6.length : Int) then (if 0 ≤ x7 then (if 0 ≤ (IntKind.u64.wrap (x1)) then (if ((rd_T25 x6 x7).f0) = (shl .i64 1 (IntKind.u64.wrap (x1))) then (some ((rd_T25 x6 x7).f1, true)) else (slotmeshref33_Solved.l0 k x1 x6 (wrap64 (x7 + 1)))) else (none)) else (none)) else (some (([] : List Int), false))
end
def slotmeshref33_Solved.f (k : Nat) (l0 : List (S25)) (a1 : Int) : Option (List Int × Bool) := (slotmeshref33_Valid.f k l0).bind fun t142 => (if t142 = true then (if a1 < 0 then (slotmeshref33_Solved.j0 k l0 a1 true) else (slotmeshref33_Solved.j0 k l0 a1 (decide (a1 ≥ 16)))) else (slotmeshref33_Solved.j0 k l0 a1 true))
set_option maxHeartbeats 8000000 in
set_option maxRecDepth 100000 in
theorem slotmeshref33_Solved.calls (k : Nat) (A0 : Option Addr) (c0 : Nat) (l0 : List (S25)) (a1 : Int) (r1 : List Int) (r2 : Bool) (w : World) (hr0 : Kd.C k25 w A0 l0.length l0) (hc0 : l0.length ≤ c0) (h : slotmeshref33_Solved.f k l0 a1 = some (r1, r2)) :
    Calls Try.prog 15 #[.slice A0 l0.length c0, .int .i64 a1] w fun e w' => ∃ v0_ : Value, e = .returned (.tuple #[v0_, .bool r2]) ∧ Kd.R (Kd.int .u8) 5 w' w.heap.size (fun _ => True) v0_ r1 ∧ Below w.heap.size w w' := by
  have HR0 := Aside0.mk hr0
  have HC0 := Aside0.mk hc0
  clear hr0 hc0
  have HB := Aside0.mk (Below.refl w.heap.size w)
  have H : ((slotmeshref33_Valid.f k l0).bind fun t142 => (if t142 = true then (if a1 < 0 then (slotmeshref33_Solved.j0 k l0 a1 true) else (slotmeshref33_Solved.j0 k l0 a1 (decide (a1 ≥ 16)))) else (slotmeshref33_Solved.j0 k l0 a1 true))) = some (r1, r2) := h
  clear h
  have HC3 := Aside0.mk H
  clear H
  go_enter Try.func15, Try.ntmps15
  go_upto_region 1 with (fail)
  go_cut [18] (fun v18 wc => ∃ (kq : Nat) (x18_2 : Bool), v18 = .bool x18_2 ∧ Aside0 (slotmeshref33_Solved.j0 kq l0 a1 x18_2 = some (r1, r2)) ∧ Aside0 (kq ≤ k) ∧ Aside0 (Below w.heap.size w wc))
  case first =>
    have H := HC3.out
    clear HC3
    replace H := Option.bind_eq_some_iff.mp H
    obtain ⟨t142, A40, H⟩ := H
    replace H : (if t142 = true then (if a1 < 0 then (slotmeshref33_Solved.j0 k l0 a1 true) else (slotmeshref33_Solved.j0 k l0 a1 (decide (a1 ≥ 16)))) else (slotmeshref33_Solved.j0 k l0 a1 true)) = some (r1, r2) := H
    have A4 := Aside0.mk A40
    clear A40
    by_cases c5 : t142 = true
    · subst c5
      have H1 : (if a1 < 0 then (slotmeshref33_Solved.j0 k l0 a1 true) else (slotmeshref33_Solved.j0 k l0 a1 (decide (a1 ≥ 16)))) = some (r1, r2) := by rw [if_pos rfl] at H; exact H
      clear H
      have H := H1
      clear H1
      by_cases c6 : a1 < 0
      · rw [if_pos c6] at H
        have c6b0 : decide (a1 < 0) = true := decide_eq_true c6
        clear c6
        (first | rw [c6b0] | (simp only [i64_w, i32_w]; rw [c6b0]) | skip)
        have H' := Aside0.mk H
        clear H
        go_wp2_with (first | ((with_reducible refine gate_callee (f := 21) rfl ?_); refine goesL_ (some 9) rfl rfl Try.func21 (by kernel_rfl) rfl #[.slice A0 l0.length c0] rfl (by (try simp only [List.map_toArray, List.map_cons, List.map_nil]); first | done | rfl | (simp only [List.length_drop, List.length_take]; rfl)) ?_; (with_reducible refine (slotmeshref33_Valid.calls k _ _ l0 true _ ?side1 ?side2 A4.out).mono ?_); (case side1 => repeat (first | exact (Kd.C_below HR0.out HB.out) | (with_reducible refine Kd.C_alloc ?_ _) | (with_reducible refine Kd.C_drewN ?_ _) | (with_reducible refine Kd.C_drew ?_))); (case side2 => exact HC0.out); rintro e w7 ⟨rfl, hb⟩; refine ⟨_, rfl, ?_⟩; have n0_ := Aside0.mk (below_step (by repeat (first | (with_reducible first | exact HB.out | apply below_alloc | apply pw_below_drewN | apply below_drew1) | exact HB.out)) hb); clear HB; have HB := n0_; clear n0_; (try clear hb); (try clear hb2); (try clear hk); (try clear hi)))
        go_meet
        case rel => exact ⟨_, (true), (by first | rfl | (simp; done) | (simp [*]; done)), H', ⟨by first | omega | exact Nat.le_refl _⟩, ⟨by repeat (first | (with_reducible first | exact HB.out | apply below_alloc | apply pw_below_drewN | apply below_drew1) | exact HB.out)⟩⟩
      · rw [if_neg c6] at H
        have c6b0 : decide (a1 < 0) = false := decide_eq_false c6
        clear c6
        (first | rw [c6b0] | (simp only [i64_w, i32_w]; rw [c6b0]) | skip)
        have H' := Aside0.mk H
        clear H
        go_wp2_with (first | ((with_reducible refine gate_callee (f := 21) rfl ?_); refine goesL_ (some 9) rfl rfl Try.func21 (by kernel_rfl) rfl #[.slice A0 l0.length c0] rfl (by (try simp only [List.map_toArray, List.map_cons, List.map_nil]); first | done | rfl | (simp only [List.length_drop, List.length_take]; rfl)) ?_; (with_reducible refine (slotmeshref33_Valid.calls k _ _ l0 true _ ?side1 ?side2 A4.out).mono ?_); (case side1 => repeat (first | exact (Kd.C_below HR0.out HB.out) | (with_reducible refine Kd.C_alloc ?_ _) | (with_reducible refine Kd.C_drewN ?_ _) | (with_reducible refine Kd.C_drew ?_))); (case side2 => exact HC0.out); rintro e w8 ⟨rfl, hb⟩; refine ⟨_, rfl, ?_⟩; have n0_ := Aside0.mk (below_step (by repeat (first | (with_reducible first | exact HB.out | apply below_alloc | apply pw_below_drewN | apply below_drew1) | exact HB.out)) hb); clear HB; have HB := n0_; clear n0_; (try clear hb); (try clear hb2); (try clear hk); (try clear hi)))
        go_meet
        case rel => exact ⟨_, (decide (a1 ≥ 16)), (by first | rfl | (simp; done) | (simp [*]; done)), H', ⟨by first | omega | exact Nat.le_refl _⟩, ⟨by repeat (first | (with_reducible first | exact HB.out | apply below_alloc | apply pw_below_drewN | apply below_drew1) | exact HB.out)⟩⟩
    · replace c5 := Bool.eq_false_iff.mpr c5
      subst c5
      have H1 : (slotmeshref33_Solved.j0 k l0 a1 true) = some (r1, r2) := by rw [if_neg (show ¬ (false = true) by decide)] at H; exact H
      clear H
      have H := H1
      clear H1
      have H' := Aside0.mk H
      clear H
      go_wp2_with (first | ((with_reducible refine gate_callee (f := 21) rfl ?_); refine goesL_ (some 9) rfl rfl Try.func21 (by kernel_rfl) rfl #[.slice A0 l0.length c0] rfl (by (try simp only [List.map_toArray, List.map_cons, List.map_nil]); first | done | rfl | (simp only [List.length_drop, List.length_take]; rfl)) ?_; (with_reducible refine (slotmeshref33_Valid.calls k _ _ l0 false _ ?side1 ?side2 A4.out).mono ?_); (case side1 => repeat (first | exact (Kd.C_below HR0.out HB.out) | (with_reducible refine Kd.C_alloc ?_ _) | (with_reducible refine Kd.C_drewN ?_ _) | (with_reducible refine Kd.C_drew ?_))); (case side2 => exact HC0.out); rintro e w9 ⟨rfl, hb⟩; refine ⟨_, rfl, ?_⟩; have n0_ := Aside0.mk (below_step (by repeat (first | (with_reducible first | exact HB.out | apply below_alloc | apply pw_below_drewN | apply below_drew1) | exact HB.out)) hb); clear HB; have HB := n0_; clear n0_; (try clear hb); (try clear hb2); (try clear hk); (try clear hi)))
      go_meet
      case rel => exact ⟨_, (true), (by first | rfl | (simp; done) | (simp [*]; done)), H', ⟨by first | omega | exact Nat.le_refl _⟩, ⟨by repeat (first | (with_reducible first | exact HB.out | apply below_alloc | apply pw_below_drewN | apply below_drew1) | exact HB.out)⟩⟩
  case rest =>
    clear HC3
    try clear c1
    try clear c2
    try clear p2
    try clear c5
    try clear c6
    try clear c6b0
    obtain ⟨kq, x18_2, rfl, HA, HJ2, HB⟩ := hcut
    cases kq with
    | zero => exact absurd HA.out (by simp [slotmeshref33_Solved.j0])
    | succ kj2 =>
      have H := HA.out
      clear HA
      simp only [slotmeshref33_Solved.j0] at H
      by_cases c10 : x18_2 = true
      · subst c10
        have H1 : (some (([] : List Int), false)) = some (r1, r2) := by rw [if_pos rfl] at H; exact H
        clear H
        have H := H1
        clear H1
        simp only [Option.some.injEq, Prod.mk.injEq] at H
        obtain ⟨rfl, rfl⟩ := H
        go_wp2
        go_ret2
        exact ⟨_, by first | rfl | (simp [errW_none, errW_some] <;> rfl) | (simp [*, errW_none, errW_some] <;> rfl), by first | exact Kd.R_nil _ _ _ _ _ | exact Kd.N_nil _ _ _ _ _ | exact Kd.V_nil _ _ _ _ _ | exact Kd.Q_nil _ _ _ _ _ | exact Kd.S_nil _ _ _ _ _, by repeat (first | (with_reducible first | exact HB.out | apply below_alloc | apply pw_below_drewN | apply below_drew1) | exact HB.out)⟩
      · replace c10 := Bool.eq_false_iff.mpr c10
        subst c10
        have H1 : ((slotmeshref33_Copy.f kj2 l0).bind fun t143 => (slotmeshref33_Solved.l0 kj2 a1 t143 0)) = some (r1, r2) := by rw [if_neg (show ¬ (false = true) by decide)] at H; exact H
        clear H
        have H := H1
        clear H1
        replace H := Option.bind_eq_some_iff.mp H
        obtain ⟨t143, A110, H⟩ := H
        replace H : (slotmeshref33_Solved.l0 kj2 a1 t143 0) = some (r1, r2) := H
        have A11 := Aside0.mk A110
        clear A110
        have H' := Aside0.mk H
        clear H
        go_wp2_with (first | ((with_reducible refine gate_callee (f := 36) rfl ?_); refine goesL_ (some 20) rfl rfl Try.func36 (by kernel_rfl) rfl #[.slice A0 l0.length c0] rfl (by (try simp only [List.map_toArray, List.map_cons, List.map_nil]); first | done | rfl | (simp only [List.length_drop, List.length_take]; rfl)) ?_; (with_reducible refine (slotmeshref33_Copy.calls kj2 _ _ l0 t143 _ ?side1 ?side2 A11.out).mono ?_); (case side1 => repeat (first | exact (Kd.C_below HR0.out HB.out) | (with_reducible refine Kd.C_alloc ?_ _) | (with_reducible refine Kd.C_drewN ?_ _) | (with_reducible refine Kd.C_drew ?_))); (case side2 => exact HC0.out); rintro e w12 ⟨v144, rfl, ho0, hb⟩; refine ⟨_, rfl, ?_⟩; have n0_ := Aside0.mk (Kd.S_lower ho0 (below_size (by repeat (first | (with_reducible first | exact HB.out | apply below_alloc | apply pw_below_drewN | apply below_drew1) | exact HB.out)))); have n1_ := Aside0.mk (below_step (by repeat (first | (with_reducible first | exact HB.out | apply below_alloc | apply pw_below_drewN | apply below_drew1) | exact HB.out)) hb); clear HB; have HO145 := n0_; have HB := n1_; clear n0_ n1_; (try clear hb); (try clear hb2); (try clear hk); (try clear hi); (try clear ho0)))
        go_loopg [7] kj2 (fun kq v7 w' => ∃ (x7_2 : Int), v7 = .int .i64 x7_2 ∧ Aside0 (slotmeshref33_Solved.l0 kq a1 t143 x7_2 = some (r1, r2)) ∧ Aside0 (kq ≤ kj2) ∧ Aside0 (Kd.S k25 25 w' w.heap.size (fun _ => True) v144 t143) ∧ Aside0 (Below w.heap.size w w'))
        case atStart => exact ⟨(0), (by first | rfl | (simp; done) | (simp [*]; done)), H', ⟨Nat.le_refl _⟩, ⟨by (with_reducible repeat (first | apply Kd.S_alloc | apply Kd.S_drewN | apply Kd.S_drew)); exact HO145.out⟩, ⟨by repeat (first | (with_reducible first | exact HB.out | apply below_alloc | apply pw_below_drewN | apply below_drew1) | exact HB.out)⟩⟩
        case round =>
          clear H'
          try clear c1
          try clear c2
          try clear p2
          try clear c3
          try clear c5
          try clear c6
          try clear c6b0
          try clear c10
          try clear p2
          obtain ⟨x7_2, rfl, HA, HK2, HO_6, HB⟩ := hrel
          cases gk with
          | zero => exact absurd HA.out (by simp [slotmeshref33_Solved.l0])
          | succ k2 =>
            have H := HA.out
            clear HA
            simp only [slotmeshref33_Solved.l0] at H
            by_cases c13 : x7_2 < (t143.length : Int)
            · rw [if_pos c13] at H
              have c13b0 : decide (x7_2 < (t143.length : Int)) = true := decide_eq_true c13
              clear c13
              by_cases c14 : 0 ≤ x7_2
              · rw [if_pos c14] at H
                have c14b0 : decide (0 ≤ x7_2) = true := decide_eq_true c14
                clear c14
                obtain ⟨ji15, hji15⟩ : ∃ j_ : Int, (IntKind.u64.wrap (a1)) = j_ := ⟨_, rfl⟩
                replace H : (if 0 ≤ (ji15) then (if ((rd_T25 t143 x7_2).f0) = (shl .i64 1 (ji15)) then (some ((rd_T25 t143 x7_2).f1, true)) else (slotmeshref33_Solved.l0 k2 a1 t143 (wrap64 (x7_2 + 1)))) else (none)) = some (r1, r2) := by first | (rw [hji15] at H; exact H) | (simp only [hji15] at H ⊢; exact H)
                by_cases c16 : 0 ≤ (ji15)
                · rw [if_pos c16] at H
                  have c16b0 := eq_true c16
                  have c16b1 : decide (0 ≤ (ji15)) = true := decide_eq_true c16
                  clear c16
                  obtain ⟨ji17, hji17⟩ : ∃ j_ : Int, (shl .i64 1 (ji15)) = j_ := ⟨_, rfl⟩
                  replace H : (if ((rd_T25 t143 x7_2).f0) = (ji17) then (some ((rd_T25 t143 x7_2).f1, true)) else (slotmeshref33_Solved.l0 k2 a1 t143 (wrap64 (x7_2 + 1)))) = some (r1, r2) := by first | (rw [hji17] at H; exact H) | (simp only [hji17] at H ⊢; exact H)
                  have hji17_ : (IntKind.i64.wrap (1 * 2 ^ min (ji15).toNat 64)) = ji17 := hji17
                  have hji17z : (ji15) ≤ 64 → (IntKind.i64.wrap (1 * 2 ^ (ji15).toNat)) = ji17 := shl_small hji17
                  have hji17u : (IntKind.i64.wrap (2 ^ min (ji15).toNat 64)) = ji17 := by have h_ := hji17_; rw [Int.one_mul] at h_; exact h_
                  have hji17v : (ji15) ≤ 64 → (IntKind.i64.wrap (2 ^ (ji15).toNat)) = ji17 := fun hle_ => by have h_ := hji17z hle_; rw [Int.one_mul] at h_; exact h_
                  have hji17y : (wrap64 (1 * 2 ^ min (ji15).toNat 64)) = ji17 := (i64_w _).symm.trans hji17_
                  have hji17x : (ji15) ≤ 64 → (wrap64 (1 * 2 ^ (ji15).toNat)) = ji17 := fun h_ => (i64_w _).symm.trans (hji17z h_)
                  by_cases c18 : ((rd_T25 t143 x7_2).f0) = (ji17)
                  · rw [if_pos c18] at H
                    have c18b0 : (((rd_T25 t143 x7_2).f0) == (ji17)) = true := beq_iff_eq.mpr c18
                    have c18b1 : (((rd_T25 t143 x7_2).f0) != (ji17)) = false := bne_eq_false_iff_eq.mpr c18
                    clear c18
                    simp only [Option.some.injEq, Prod.mk.injEq] at H
                    obtain ⟨rfl, rfl⟩ := H
                    obtain ⟨Ao19, co19, eo19⟩ := Kd.S_slice HO_6.out
                    subst eo19
                    have p146 : 0 ≤ (x7_2 : Int) := of_decide_eq_true (by first | (with_reducible assumption) | assumption)
                    have q146 : x7_2 < (t143.length : Int) := of_decide_eq_true (by first | (with_reducible assumption) | assumption)
                    obtain ⟨ad146, A146_1, c146_1, e146, hx146_0, hx146_1, hl146_1, hi146_1⟩ := at_T25 (Kd.S_reads' HO_6.out).2.2 x7_2 p146 q146
                    cases e146
                    obtain ⟨ce146, hce146, hMe146, hcc146⟩ := Kd.S_get HO_6.out z25 x7_2 p146 (by first | exact q146 | exact of_decide_eq_true (by first | (with_reducible assumption) | assumption) | (have e_ := (Kd.S_reads' HO_6.out).1; omega))
                    obtain ⟨ve146_1, rfl, ge146_1⟩ := k25_openM hMe146
                    have hv146_1 := hcc146 1 _ rfl
                    rw [add_field _ _ 1 (by omega)] at hv146_1
                    replace hv146_1 := Option.some.inj (hv146_1.symm.trans hx146_1)
                    rw [hv146_1] at ge146_1
                    have HL146_1 := Aside0.mk (show Kd.R (Kd.int .u8) 5 _ _ _ _ ((rd_T25 t143 x7_2).f1) from ge146_1)
                    clear hv146_1 ge146_1
                    clear hcc146 hce146
                    have HR146_1 := Aside0.mk hi146_1
                    have HC146_1 := Aside0.mk hl146_1
                    clear hi146_1 hl146_1
                    replace p146 := eq_true p146
                    replace q146 := eq_true q146
                    have p147 : 0 ≤ (x7_2 : Int) := of_decide_eq_true (by first | (with_reducible assumption) | assumption)
                    have q147 : x7_2 < (t143.length : Int) := of_decide_eq_true (by first | (with_reducible assumption) | assumption)
                    obtain ⟨ad147, A147_1, c147_1, e147, hx147_0, hx147_1, hl147_1, hi147_1⟩ := at_T25 (Kd.S_reads' HO_6.out).2.2 x7_2 p147 q147
                    obtain rfl : ad146 = ad147 := (by injection e147)
                    obtain ⟨ce147, hce147, hMe147, hcc147⟩ := Kd.S_get HO_6.out z25 x7_2 p147 (by first | exact q147 | exact of_decide_eq_true (by first | (with_reducible assumption) | assumption) | (have e_ := (Kd.S_reads' HO_6.out).1; omega))
                    obtain ⟨ve147_1, rfl, ge147_1⟩ := k25_openM hMe147
                    have hv147_1 := hcc147 1 _ rfl
                    rw [add_field _ _ 1 (by omega)] at hv147_1
                    replace hv147_1 := Option.some.inj (hv147_1.symm.trans hx147_1)
                    rw [hv147_1] at ge147_1
                    have HL147_1 := Aside0.mk (show Kd.R (Kd.int .u8) 5 _ _ _ _ ((rd_T25 t143 x7_2).f1) from ge147_1)
                    clear hv147_1 ge147_1
                    clear hcc147 hce147
                    have HR147_1 := Aside0.mk hi147_1
                    have HC147_1 := Aside0.mk hl147_1
                    clear hi147_1 hl147_1
                    replace p147 := eq_true p147
                    replace q147 := eq_true q147
                    have ea_ := Option.some.inj (hx146_1.symm.trans hx147_1)
                    injection ea_ with ea_ en_ ec_
                    subst ea_
                    subst ec_
                    clear en_
                    go_wp2
                    go_ret2
                    exact ⟨_, by first | rfl | (simp [errW_none, errW_some] <;> rfl) | (simp only [← hji15, ← hji17]; first | rfl | (simp [errW_none, errW_some] <;> rfl)) | (simp [*, errW_none, errW_some] <;> rfl), by (with_reducible repeat (first | apply Kd.R_alloc | apply Kd.R_drewN | apply Kd.R_drew)); exact Kd.R_mono HL147_1.out (fun _ hk => trivial), by repeat (first | (with_reducible first | exact HB.out | apply below_alloc | apply pw_below_drewN | apply below_drew1) | exact HB.out)⟩
                  · rw [if_neg c18] at H
                    have c18b0 : (((rd_T25 t143 x7_2).f0) == (ji17)) = false := beq_eq_false_iff_ne.mpr c18
                    have c18b1 : (((rd_T25 t143 x7_2).f0) != (ji17)) = true := bne_iff_ne.mpr c18
                    have H' := Aside0.mk H
                    clear H
                    obtain ⟨Ao20, co20, eo20⟩ := Kd.S_slice HO_6.out
                    subst eo20
                    have p146 : 0 ≤ (x7_2 : Int) := of_decide_eq_true (by first | (with_reducible assumption) | assumption)
                    have q146 : x7_2 < (t143.length : Int) := of_decide_eq_true (by first | (with_reducible assumption) | assumption)
                    obtain ⟨ad146, A146_1, c146_1, e146, hx146_0, hx146_1, hl146_1, hi146_1⟩ := at_T25 (Kd.S_reads' HO_6.out).2.2 x7_2 p146 q146
                    cases e146
                    obtain ⟨ce146, hce146, hMe146, hcc146⟩ := Kd.S_get HO_6.out z25 x7_2 p146 (by first | exact q146 | exact of_decide_eq_true (by first | (with_reducible assumption) | assumption) | (have e_ := (Kd.S_reads' HO_6.out).1; omega))
                    obtain ⟨ve146_1, rfl, ge146_1⟩ := k25_openM hMe146
                    have hv146_1 := hcc146 1 _ rfl
                    rw [add_field _ _ 1 (by omega)] at hv146_1
                    replace hv146_1 := Option.some.inj (hv146_1.symm.trans hx146_1)
                    rw [hv146_1] at ge146_1
                    have HL146_1 := Aside0.mk (show Kd.R (Kd.int .u8) 5 _ _ _ _ ((rd_T25 t143 x7_2).f1) from ge146_1)
                    clear hv146_1 ge146_1
                    clear hcc146 hce146
                    have HR146_1 := Aside0.mk hi146_1
                    have HC146_1 := Aside0.mk hl146_1
                    clear hi146_1 hl146_1
                    replace p146 := eq_true p146
                    replace q146 := eq_true q146
                    go_wp2
                    go_roundg k2
                    case measure => have := HJ2.out; have := HK2.out; omega
                    case rel => exact ⟨(wrap64 (x7_2 + 1)), (by first | rfl | (simp; done) | (simp [*]; done)), H', ⟨by have := HJ2.out; have := HK2.out; omega⟩, ⟨by (with_reducible repeat (first | apply Kd.S_alloc | apply Kd.S_drewN | apply Kd.S_drew)); exact HO_6.out⟩, ⟨by repeat (first | (with_reducible first | exact HB.out | apply below_alloc | apply pw_below_drewN | apply below_drew1) | exact HB.out)⟩⟩
                · rw [if_neg c16] at H
                  exact absurd H (by simp)
              · rw [if_neg c14] at H
                exact absurd H (by simp)
            · rw [if_neg c13] at H
              have c13b0 : decide (x7_2 < (t143.length : Int)) = false := decide_eq_false c13
              clear c13
              simp only [Option.some.injEq, Prod.mk.injEq] at H
              obtain ⟨rfl, rfl⟩ := H
              obtain ⟨Ao21, co21, eo21⟩ := Kd.S_slice HO_6.out
              subst eo21
              go_wp2
              go_ret2
              exact ⟨_, by first | rfl | (simp [errW_none, errW_some] <;> rfl) | (simp [*, errW_none, errW_some] <;> rfl), by first | exact Kd.R_nil _ _ _ _ _ | exact Kd.N_nil _ _ _ _ _ | exact Kd.V_nil _ _ _ _ _ | exact Kd.Q_nil _ _ _ _ _ | exact Kd.S_nil _ _ _ _ _, by repeat (first | (with_reducible first | exact HB.out | apply below_alloc | apply pw_below_drewN | apply below_drew1) | exact HB.out)⟩
def slotmeshref33_Sum.j0 : Nat → List (S25) → Int → Bool → Option (List Int × Bool)
  | 0, _, _, _ => none
  | k + 1, x0, x1, x17 => if x17 = true then (some (([] : List Int), false)) else (if 16 ≤ 281474976710656 then ((slotmeshref33_reduce.f k x0 x1 (List.replicate 16 0)).bind fun bt152 => (if bt152.1 = 0 then (some (bt152.2, true)) else (some (([] : List Int), false)))) else (none))
def slotmeshref33_Sum.f (k : Nat) (l0 : List (S25)) (a1 : Int) : Option (List Int × Bool) := (slotmeshref33_Valid.f k l0).bind fun t148 => (if t148 = true then (if a1 < 0 then (slotmeshref33_Sum.j0 k l0 a1 true) else (slotmeshref33_Sum.j0 k l0 a1 (decide (a1 ≥ 65536)))) else (slotmeshref33_Sum.j0 k l0 a1 true))
set_option maxHeartbeats 8000000 in
set_option maxRecDepth 100000 in
theorem slotmeshref33_Sum.calls (k : Nat) (A0 : Option Addr) (c0 : Nat) (l0 : List (S25)) (a1 : Int) (r1 : List Int) (r2 : Bool) (w : World) (hr0 : Kd.C k25 w A0 l0.length l0) (hc0 : l0.length ≤ c0) (h : slotmeshref33_Sum.f k l0 a1 = some (r1, r2)) :
    Calls Try.prog 17 #[.slice A0 l0.length c0, .int .i64 a1] w fun e w' => ∃ v0_ : Value, e = .returned (.tuple #[v0_, .bool r2]) ∧ Kd.V (Kd.int .u8) 5 w' w.heap.size (fun k_ => (w.heap.size ≤ k_)) v0_ r1 ∧ Below w.heap.size w w' := by
  have hu25 := Try.underlying25
  have HR0 := Aside0.mk hr0
  have HC0 := Aside0.mk hc0
  clear hr0 hc0
  have HB := Aside0.mk (Below.refl w.heap.size w)
  have H : ((slotmeshref33_Valid.f k l0).bind fun t148 => (if t148 = true then (if a1 < 0 then (slotmeshref33_Sum.j0 k l0 a1 true) else (slotmeshref33_Sum.j0 k l0 a1 (decide (a1 ≥ 65536)))) else (slotmeshref33_Sum.j0 k l0 a1 true))) = some (r1, r2) := h
  clear h
  have HC3 := Aside0.mk H
  clear H
  go_enter Try.func17, Try.ntmps17
  go_upto_region 1 with (fail)
  go_cut [17] (fun v17 wc => ∃ (kq : Nat) (x17_2 : Bool), v17 = .bool x17_2 ∧ Aside0 (slotmeshref33_Sum.j0 kq l0 a1 x17_2 = some (r1, r2)) ∧ Aside0 (kq ≤ k) ∧ Aside0 (Below w.heap.size w wc))
  case first =>
    have H := HC3.out
    clear HC3
    replace H := Option.bind_eq_some_iff.mp H
    obtain ⟨t148, A40, H⟩ := H
    replace H : (if t148 = true then (if a1 < 0 then (slotmeshref33_Sum.j0 k l0 a1 true) else (slotmeshref33_Sum.j0 k l0 a1 (decide (a1 ≥ 65536)))) else (slotmeshref33_Sum.j0 k l0 a1 true)) = some (r1, r2) := H
    have A4 := Aside0.mk A40
    clear A40
    by_cases c5 : t148 = true
    · subst c5
      have H1 : (if a1 < 0 then (slotmeshref33_Sum.j0 k l0 a1 true) else (slotmeshref33_Sum.j0 k l0 a1 (decide (a1 ≥ 65536)))) = some (r1, r2) := by rw [if_pos rfl] at H; exact H
      clear H
      have H := H1
      clear H1
      by_cases c6 : a1 < 0
      · rw [if_pos c6] at H
        have c6b0 : decide (a1 < 0) = true := decide_eq_true c6
        clear c6
        (first | rw [c6b0] | (simp only [i64_w, i32_w]; rw [c6b0]) | skip)
        have H' := Aside0.mk H
        clear H
        go_wp2_with (first | ((with_reducible refine gate_callee (f := 21) rfl ?_); refine goesL_ (some 8) rfl rfl Try.func21 (by kernel_rfl) rfl #[.slice A0 l0.length c0] rfl (by (try simp only [List.map_toArray, List.map_cons, List.map_nil]); first | done | rfl | (simp only [List.length_drop, List.length_take]; rfl)) ?_; (with_reducible refine (slotmeshref33_Valid.calls k _ _ l0 true _ ?side1 ?side2 A4.out).mono ?_); (case side1 => repeat (first | exact (Kd.C_below HR0.out HB.out) | (with_reducible refine Kd.C_alloc ?_ _) | (with_reducible refine Kd.C_drewN ?_ _) | (with_reducible refine Kd.C_drew ?_))); (case side2 => exact HC0.out); rintro e w7 ⟨rfl, hb⟩; refine ⟨_, rfl, ?_⟩; have n0_ := Aside0.mk (below_step (by repeat (first | (with_reducible first | exact HB.out | apply below_alloc | apply pw_below_drewN | apply below_drew1) | exact HB.out)) hb); clear HB; have HB := n0_; clear n0_; (try clear hb); (try clear hb2); (try clear hk); (try clear hi)))
        go_meet
        case rel => exact ⟨_, (true), (by first | rfl | (simp; done) | (simp [*]; done)), H', ⟨by first | omega | exact Nat.le_refl _⟩, ⟨by repeat (first | (with_reducible first | exact HB.out | apply below_alloc | apply pw_below_drewN | apply below_drew1) | exact HB.out)⟩⟩
      · rw [if_neg c6] at H
        have c6b0 : decide (a1 < 0) = false := decide_eq_false c6
        clear c6
        (first | rw [c6b0] | (simp only [i64_w, i32_w]; rw [c6b0]) | skip)
        have H' := Aside0.mk H
        clear H
        go_wp2_with (first | ((with_reducible refine gate_callee (f := 21) rfl ?_); refine goesL_ (some 8) rfl rfl Try.func21 (by kernel_rfl) rfl #[.slice A0 l0.length c0] rfl (by (try simp only [List.map_toArray, List.map_cons, List.map_nil]); first | done | rfl | (simp only [List.length_drop, List.length_take]; rfl)) ?_; (with_reducible refine (slotmeshref33_Valid.calls k _ _ l0 true _ ?side1 ?side2 A4.out).mono ?_); (case side1 => repeat (first | exact (Kd.C_below HR0.out HB.out) | (with_reducible refine Kd.C_alloc ?_ _) | (with_reducible refine Kd.C_drewN ?_ _) | (with_reducible refine Kd.C_drew ?_))); (case side2 => exact HC0.out); rintro e w8 ⟨rfl, hb⟩; refine ⟨_, rfl, ?_⟩; have n0_ := Aside0.mk (below_step (by repeat (first | (with_reducible first | exact HB.out | apply below_alloc | apply pw_below_drewN | apply below_drew1) | exact HB.out)) hb); clear HB; have HB := n0_; clear n0_; (try clear hb); (try clear hb2); (try clear hk); (try clear hi)))
        go_meet
        case rel => exact ⟨_, (decide (a1 ≥ 65536)), (by first | rfl | (simp; done) | (simp [*]; done)), H', ⟨by first | omega | exact Nat.le_refl _⟩, ⟨by repeat (first | (with_reducible first | exact HB.out | apply below_alloc | apply pw_below_drewN | apply below_drew1) | exact HB.out)⟩⟩
    · replace c5 := Bool.eq_false_iff.mpr c5
      subst c5
      have H1 : (slotmeshref33_Sum.j0 k l0 a1 true) = some (r1, r2) := by rw [if_neg (show ¬ (false = true) by decide)] at H; exact H
      clear H
      have H := H1
      clear H1
      have H' := Aside0.mk H
      clear H
      go_wp2_with (first | ((with_reducible refine gate_callee (f := 21) rfl ?_); refine goesL_ (some 8) rfl rfl Try.func21 (by kernel_rfl) rfl #[.slice A0 l0.length c0] rfl (by (try simp only [List.map_toArray, List.map_cons, List.map_nil]); first | done | rfl | (simp only [List.length_drop, List.length_take]; rfl)) ?_; (with_reducible refine (slotmeshref33_Valid.calls k _ _ l0 false _ ?side1 ?side2 A4.out).mono ?_); (case side1 => repeat (first | exact (Kd.C_below HR0.out HB.out) | (with_reducible refine Kd.C_alloc ?_ _) | (with_reducible refine Kd.C_drewN ?_ _) | (with_reducible refine Kd.C_drew ?_))); (case side2 => exact HC0.out); rintro e w9 ⟨rfl, hb⟩; refine ⟨_, rfl, ?_⟩; have n0_ := Aside0.mk (below_step (by repeat (first | (with_reducible first | exact HB.out | apply below_alloc | apply pw_below_drewN | apply below_drew1) | exact HB.out)) hb); clear HB; have HB := n0_; clear n0_; (try clear hb); (try clear hb2); (try clear hk); (try clear hi)))
      go_meet
      case rel => exact ⟨_, (true), (by first | rfl | (simp; done) | (simp [*]; done)), H', ⟨by first | omega | exact Nat.le_refl _⟩, ⟨by repeat (first | (with_reducible first | exact HB.out | apply below_alloc | apply pw_below_drewN | apply below_drew1) | exact HB.out)⟩⟩
  case rest =>
    clear HC3
    try clear c1
    try clear c2
    try clear p2
    try clear c5
    try clear c6
    try clear c6b0
    obtain ⟨kq, x17_2, rfl, HA, HJ2, HB⟩ := hcut
    cases kq with
    | zero => exact absurd HA.out (by simp [slotmeshref33_Sum.j0])
    | succ kj2 =>
      have H := HA.out
      clear HA
      simp only [slotmeshref33_Sum.j0] at H
      by_cases c10 : x17_2 = true
      · subst c10
        have H1 : (some (([] : List Int), false)) = some (r1, r2) := by rw [if_pos rfl] at H; exact H
        clear H
        have H := H1
        clear H1
        simp only [Option.some.injEq, Prod.mk.injEq] at H
        obtain ⟨rfl, rfl⟩ := H
        go_wp2
        go_ret2
        exact ⟨_, by first | rfl | (simp [errW_none, errW_some] <;> rfl) | (simp [*, errW_none, errW_some] <;> rfl), Kd.R_V (base := w.heap.size) (by exact Kd.R_nil _ _ _ _ _), by repeat (first | (with_reducible first | exact HB.out | apply below_alloc | apply pw_below_drewN | apply below_drew1) | exact HB.out)⟩
      · replace c10 := Bool.eq_false_iff.mpr c10
        subst c10
        have H1 : (if 16 ≤ 281474976710656 then ((slotmeshref33_reduce.f kj2 l0 a1 (List.replicate 16 0)).bind fun bt152 => (if bt152.1 = 0 then (some (bt152.2, true)) else (some (([] : List Int), false)))) else (none)) = some (r1, r2) := by rw [if_neg (show ¬ (false = true) by decide)] at H; exact H
        clear H
        have H := H1
        clear H1
        by_cases c11 : 16 ≤ 281474976710656
        · rw [if_pos c11] at H
          have c11b0 := eq_true c11
          have c11b1 : decide (16 ≤ 281474976710656) = true := decide_eq_true c11
          clear c11
          obtain ⟨y149, hy149⟩ : ∃ y_ : List Int, y_ = (List.replicate 16 0) := ⟨_, rfl⟩
          replace H : ((slotmeshref33_reduce.f kj2 l0 a1 y149).bind fun bt152 => (if bt152.1 = 0 then (some (bt152.2, true)) else (some (([] : List Int), false)))) = some (r1, r2) := by first | (rw [hy149]; with_reducible exact H) | (have H2_ := (Option.bind_some _ _).symm.trans H; rw [hy149]; with_reducible exact H2_) | (have H2_ := (Option.bind_some _ _).symm.trans H; with_reducible exact H2_) | with_reducible exact H | (rw [hy149]; exact H) | exact H
          have Ny149 := Aside0.mk hy149
          clear hy149
          replace H := Option.bind_eq_some_iff.mp H
          obtain ⟨⟨t152, t153⟩, A120, H⟩ := H
          replace H : (if t152 = 0 then (some (t153, true)) else (some (([] : List Int), false))) = some (r1, r2) := H
          have A12 := Aside0.mk A120
          clear A120
          by_cases c13 : t152 = 0
          · rw [if_pos c13] at H
            have c13b0 : (t152 == 0) = true := beq_iff_eq.mpr c13
            have c13b1 : (t152 != 0) = false := bne_eq_false_iff_eq.mpr c13
            clear c13
            simp only [Option.some.injEq, Prod.mk.injEq] at H
            obtain ⟨rfl, rfl⟩ := H
            go_wp2_with (first | ((with_reducible refine gate_dst (N := 20) rfl ?_); refine Kd.R_make (Kd.int .u8) _ 5 rfl (N := 20) rfl 23 _ _ rfl 16 rfl rfl Try.underlying23 (.int .u8 0) 1 info5 rfl (by decide) (by omega) 0 (ok := fun _ => True) (okp := fun _ => True) rfl (fun _ hk => hk) trivial (by omega) (by omega) (Below.refl _ _) (Nat.le_refl _) ?_; intro v150 w14 ho15 hb hg_ hnew_; clear hg_ hnew_; (first | rw [← Ny149.out] at ho15 | (simp only [Int.reduceToNat] at ho15; rw [← Ny149.out] at ho15)); have n0_ := Aside0.mk (Kd.R_lower (Kd.R_newM (M := fun k_ => (w.heap.size ≤ k_)) ho15 (below_size (by repeat (first | (with_reducible first | exact HB.out | apply below_alloc | apply pw_below_drewN | apply below_drew1) | exact HB.out))) (fun k_ h_ => h_)) (below_size (by repeat (first | (with_reducible first | exact HB.out | apply below_alloc | apply pw_below_drewN | apply below_drew1) | exact HB.out)))); have n1_ := Aside0.mk (below_step (by repeat (first | (with_reducible first | exact HB.out | apply below_alloc | apply pw_below_drewN | apply below_drew1) | exact HB.out)) hb); clear HB; have HO151 := n0_; have HB := n1_; clear n0_ n1_; clear hb ho15; obtain ⟨Ao16, co16, eo16⟩ := Kd.R_slice HO151.out; subst eo16) | ((with_reducible refine gate_callee (f := 34) rfl ?_); refine goesL_ (some 22) rfl rfl Try.func34 (by kernel_rfl) rfl #[.slice A0 l0.length c0, .agg #[.int .i64 a1, .slice Ao16 y149.length co16]] rfl (by (try simp only [List.map_toArray, List.map_cons, List.map_nil]); first | done | rfl | (simp only [List.length_drop, List.length_take]; rfl)) ?_; (with_reducible refine (slotmeshref33_reduce.calls kj2 _ _ l0 a1 (fun k_ => some k_ = (.slice Ao16 y149.length co16 : Value).ownBlock) _ _ y149 t152 t153 _ ?side1 ?side2 ?side3 A12.out).mono ?_); (case side1 => repeat (first | exact (Kd.C_below HR0.out HB.out) | (with_reducible refine Kd.C_alloc ?_ _) | (with_reducible refine Kd.C_drewN ?_ _) | (with_reducible refine Kd.C_drew ?_))); (case side2 => exact HC0.out); (case side3 => exact Kd.R_V (Kd.R_tight rfl (HO151.out))); rintro e w17 ⟨v154, rfl, ho0, hb⟩; refine ⟨_, rfl, ?_⟩; have n0_ := Aside0.mk (Kd.R_below (by (with_reducible repeat (first | apply Kd.R_alloc | apply Kd.R_drewN | apply Kd.R_drew)); exact HO151.out) hb); have n1_ := Aside0.mk (Kd.V_lower (Kd.V_mono (ok' := fun k_ => (w.heap.size ≤ k_)) ho0 (fun k_ hk_ => Or.elim hk_ (fun hs_ => ((HO151.out).1 k_ hs_.symm).1) (fun hn_ => (Nat.le_trans (below_size (by repeat (first | (with_reducible first | exact HB.out | apply below_alloc | apply pw_below_drewN | apply below_drew1) | exact HB.out))) hn_)))) (below_size (by repeat (first | (with_reducible first | exact HB.out | apply below_alloc | apply pw_below_drewN | apply below_drew1) | exact HB.out)))); have n2_ := Aside0.mk (below_step (by repeat (first | (with_reducible first | exact HB.out | apply below_alloc | apply pw_below_drewN | apply below_drew1) | exact HB.out)) hb); clear HO151; clear HB; have HO151 := n0_; have HO155 := n1_; have HB := n2_; clear n0_ n1_ n2_; (try clear hb); (try clear hb2); (try clear hk); (try clear hi); (try clear ho0)) | ((with_reducible refine gate_dst (N := 6) rfl ?_); refine box_event ?hg (N := 6) ?hd (cs := #[.int .i64 0, .slice none 0 0]) (t := 25) ?hr ?_; (case hd => rfl); (case hg => rfl); (case hr => first | (go_simp; done) | (go_simp; rfl)); intro gb156 hg w18 hbox hb; have n0_ := Aside0.mk (Kd.R_below (by (with_reducible repeat (first | apply Kd.R_alloc | apply Kd.R_drewN | apply Kd.R_drew)); exact HO151.out) hb); have n1_ := Aside0.mk (Kd.V_below (Kd.V_elderB (by (with_reducible repeat (first | apply Kd.V_alloc | apply Kd.V_drewN | apply Kd.V_drew)); exact HO155.out) gb156 (Nat.le_of_eq hg.symm)) hb); have n2_ := Aside0.mk (below_step (by repeat (first | (with_reducible first | exact HB.out | apply below_alloc | apply pw_below_drewN | apply below_drew1) | exact HB.out)) hb); have n3_ := Aside0.mk (hbox); have n4_ := Aside0.mk ((by rw [hg]; exact (below_size (by repeat (first | (with_reducible first | exact HB.out | apply below_alloc | apply pw_below_drewN | apply below_drew1) | exact HB.out))) : w.heap.size ≤ gb156)); have n5_ := Aside0.mk ((by rw [hg]; exact (below_size (by repeat (first | (with_reducible first | exact HB.out | apply below_alloc | apply pw_below_drewN | apply below_drew1) | exact HB.out))) : w.heap.size ≤ gb156)); clear HO151; clear HO155; clear HB; have HO151 := n0_; have HO155 := n1_; have HB := n2_; have BK156 := n3_; have GW156 := n4_; have GE156 := n5_; clear n0_ n1_ n2_ n3_ n4_ n5_; clear hb hbox hg; have hcz19_0 : w18.cell? ⟨gb156, 0, none⟩ = some (.int .i64 0) := (blk_cell BK156.out 0).trans rfl; have hcz19_1 : w18.cell? ⟨gb156, 1, none⟩ = some (.slice none 0 0) := (blk_cell BK156.out 1).trans rfl; have hfz19_0 := blk_frozen BK156.out 0; have hfz19_1 := blk_frozen BK156.out 1; obtain ⟨Ao20, co20, eo20⟩ := Kd.V_slice HO155.out; subst eo20))
            go_ret2
            exact ⟨_, by first | rfl | (simp [errW_none, errW_some] <;> rfl) | (simp [*, errW_none, errW_some] <;> rfl), by (with_reducible repeat (first | apply Kd.V_alloc | apply Kd.V_drewN | apply Kd.V_drew)); exact Kd.V_mono (Kd.V_far (p := ⟨gb156, 1, none⟩) (Kd.V_far (p := ⟨gb156, 0, none⟩) (Kd.V_mono HO155.out (fun k_ hk => (⟨hk, hk.2⟩ : _ ∧ k_ ≠ gb156))) (fun _ hk => hk.2) (.int .i64 t152)) (fun _ hk => hk.2) (.slice Ao20 t153.length co20)) (fun _ hk => hk.1.1), by repeat (first | (with_reducible first | exact HB.out | apply below_alloc | apply pw_below_drewN | apply below_drew1 | refine below_set ?_ GE156.out) | exact HB.out)⟩
          · rw [if_neg c13] at H
            have c13b0 : (t152 == 0) = false := beq_eq_false_iff_ne.mpr c13
            have c13b1 : (t152 != 0) = true := bne_iff_ne.mpr c13
            simp only [Option.some.injEq, Prod.mk.injEq] at H
            obtain ⟨rfl, rfl⟩ := H
            go_wp2_with (first | ((with_reducible refine gate_dst (N := 20) rfl ?_); refine Kd.R_make (Kd.int .u8) _ 5 rfl (N := 20) rfl 23 _ _ rfl 16 rfl rfl Try.underlying23 (.int .u8 0) 1 info5 rfl (by decide) (by omega) 0 (ok := fun _ => True) (okp := fun _ => True) rfl (fun _ hk => hk) trivial (by omega) (by omega) (Below.refl _ _) (Nat.le_refl _) ?_; intro v150 w21 ho22 hb hg_ hnew_; clear hg_ hnew_; (first | rw [← Ny149.out] at ho22 | (simp only [Int.reduceToNat] at ho22; rw [← Ny149.out] at ho22)); have n0_ := Aside0.mk (Kd.R_lower (Kd.R_newM (M := fun k_ => (w.heap.size ≤ k_)) ho22 (below_size (by repeat (first | (with_reducible first | exact HB.out | apply below_alloc | apply pw_below_drewN | apply below_drew1) | exact HB.out))) (fun k_ h_ => h_)) (below_size (by repeat (first | (with_reducible first | exact HB.out | apply below_alloc | apply pw_below_drewN | apply below_drew1) | exact HB.out)))); have n1_ := Aside0.mk (below_step (by repeat (first | (with_reducible first | exact HB.out | apply below_alloc | apply pw_below_drewN | apply below_drew1) | exact HB.out)) hb); clear HB; have HO151 := n0_; have HB := n1_; clear n0_ n1_; clear hb ho22; obtain ⟨Ao23, co23, eo23⟩ := Kd.R_slice HO151.out; subst eo23) | ((with_reducible refine gate_callee (f := 34) rfl ?_); refine goesL_ (some 22) rfl rfl Try.func34 (by kernel_rfl) rfl #[.slice A0 l0.length c0, .agg #[.int .i64 a1, .slice Ao23 y149.length co23]] rfl (by (try simp only [List.map_toArray, List.map_cons, List.map_nil]); first | done | rfl | (simp only [List.length_drop, List.length_take]; rfl)) ?_; (with_reducible refine (slotmeshref33_reduce.calls kj2 _ _ l0 a1 (fun k_ => some k_ = (.slice Ao23 y149.length co23 : Value).ownBlock) _ _ y149 t152 t153 _ ?side1 ?side2 ?side3 A12.out).mono ?_); (case side1 => repeat (first | exact (Kd.C_below HR0.out HB.out) | (with_reducible refine Kd.C_alloc ?_ _) | (with_reducible refine Kd.C_drewN ?_ _) | (with_reducible refine Kd.C_drew ?_))); (case side2 => exact HC0.out); (case side3 => exact Kd.R_V (Kd.R_tight rfl (HO151.out))); rintro e w24 ⟨v154, rfl, ho0, hb⟩; refine ⟨_, rfl, ?_⟩; have n0_ := Aside0.mk (Kd.R_below (by (with_reducible repeat (first | apply Kd.R_alloc | apply Kd.R_drewN | apply Kd.R_drew)); exact HO151.out) hb); have n1_ := Aside0.mk (Kd.V_lower (Kd.V_mono (ok' := fun k_ => (w.heap.size ≤ k_)) ho0 (fun k_ hk_ => Or.elim hk_ (fun hs_ => ((HO151.out).1 k_ hs_.symm).1) (fun hn_ => (Nat.le_trans (below_size (by repeat (first | (with_reducible first | exact HB.out | apply below_alloc | apply pw_below_drewN | apply below_drew1) | exact HB.out))) hn_)))) (below_size (by repeat (first | (with_reducible first | exact HB.out | apply below_alloc | apply pw_below_drewN | apply below_drew1) | exact HB.out)))); have n2_ := Aside0.mk (below_step (by repeat (first | (with_reducible first | exact HB.out | apply below_alloc | apply pw_below_drewN | apply below_drew1) | exact HB.out)) hb); clear HO151; clear HB; have HO151 := n0_; have HO155 := n1_; have HB := n2_; clear n0_ n1_ n2_; (try clear hb); (try clear hb2); (try clear hk); (try clear hi); (try clear ho0)) | ((with_reducible refine gate_dst (N := 6) rfl ?_); refine box_event ?hg (N := 6) ?hd (cs := #[.int .i64 0, .slice none 0 0]) (t := 25) ?hr ?_; (case hd => rfl); (case hg => rfl); (case hr => first | (go_simp; done) | (go_simp; rfl)); intro gb156 hg w25 hbox hb; have n0_ := Aside0.mk (Kd.R_below (by (with_reducible repeat (first | apply Kd.R_alloc | apply Kd.R_drewN | apply Kd.R_drew)); exact HO151.out) hb); have n1_ := Aside0.mk (Kd.V_below (Kd.V_elderB (by (with_reducible repeat (first | apply Kd.V_alloc | apply Kd.V_drewN | apply Kd.V_drew)); exact HO155.out) gb156 (Nat.le_of_eq hg.symm)) hb); have n2_ := Aside0.mk (below_step (by repeat (first | (with_reducible first | exact HB.out | apply below_alloc | apply pw_below_drewN | apply below_drew1) | exact HB.out)) hb); have n3_ := Aside0.mk (hbox); have n4_ := Aside0.mk ((by rw [hg]; exact (below_size (by repeat (first | (with_reducible first | exact HB.out | apply below_alloc | apply pw_below_drewN | apply below_drew1) | exact HB.out))) : w.heap.size ≤ gb156)); have n5_ := Aside0.mk ((by rw [hg]; exact (below_size (by repeat (first | (with_reducible first | exact HB.out | apply below_alloc | apply pw_below_drewN | apply below_drew1) | exact HB.out))) : w.heap.size ≤ gb156)); clear HO151; clear HO155; clear HB; have HO151 := n0_; have HO155 := n1_; have HB := n2_; have BK156 := n3_; have GW156 := n4_; have GE156 := n5_; clear n0_ n1_ n2_ n3_ n4_ n5_; clear hb hbox hg; have hcz26_0 : w25.cell? ⟨gb156, 0, none⟩ = some (.int .i64 0) := (blk_cell BK156.out 0).trans rfl; have hcz26_1 : w25.cell? ⟨gb156, 1, none⟩ = some (.slice none 0 0) := (blk_cell BK156.out 1).trans rfl; have hfz26_0 := blk_frozen BK156.out 0; have hfz26_1 := blk_frozen BK156.out 1; obtain ⟨Ao27, co27, eo27⟩ := Kd.V_slice HO155.out; subst eo27))
            go_ret2
            exact ⟨_, by first | rfl | (simp [errW_none, errW_some] <;> rfl) | (simp [*, errW_none, errW_some] <;> rfl), Kd.R_V (base := w.heap.size) (by exact Kd.R_nil _ _ _ _ _), by repeat (first | (with_reducible first | exact HB.out | apply below_alloc | apply pw_below_drewN | apply below_drew1 | refine below_set ?_ GE156.out) | exact HB.out)⟩
        · rw [if_neg c11] at H
          exact absurd H (by simp)
def slotmeshref33_Bytes.l0 : Nat → List Int → List Int → Int → Option (Bool)
  | 0, _, _, _ => none
  | k + 1, x0, x1, x5 => if x5 < (x0.length : Int) then (if 0 ≤ x5 then (if x5 < (x1.length : Int) then (if (rd x0 x5) = (rd x1 x5) then (slotmeshref33_Bytes.l0 k x0 x1 (wrap64 (x5 + 1))) else (some false)) else (none)) else (none)) else (some true)
def slotmeshref33_Bytes.f (k : Nat) (l0 : List Int) (l1 : List Int) : Option (Bool) := if (l0.length : Int) = (l1.length : Int) then (slotmeshref33_Bytes.l0 k l0 l1 0) else (some false)
set_option maxHeartbeats 8000000 in
set_option maxRecDepth 100000 in
theorem slotmeshref33_Bytes.calls (k : Nat) (A0 : Option Addr) (c0 : Nat) (l0 : List Int) (A1 : Option Addr) (c1 : Nat) (l1 : List Int) (r : Bool) (w : World) (hr0 : Kd.C (Kd.int .u8) w A0 l0.length l0) (hc0 : l0.length ≤ c0) (hr1 : Kd.C (Kd.int .u8) w A1 l1.length l1) (hc1 : l1.length ≤ c1) (h : slotmeshref33_Bytes.f k l0 l1 = some r) :
    Calls Try.prog 19 #[.slice A0 l0.length c0, .slice A1 l1.length c1] w fun e w' => e = .returned (.bool r) ∧ Drawn0 w w' := by
  have HR0 := Aside0.mk hr0
  have HC0 := Aside0.mk hc0
  clear hr0 hc0
  have HR1 := Aside0.mk hr1
  have HC1 := Aside0.mk hc1
  clear hr1 hc1
  have H : (if (l0.length : Int) = (l1.length : Int) then (slotmeshref33_Bytes.l0 k l0 l1 0) else (some false)) = some r := h
  clear h
  by_cases c3 : (l0.length : Int) = (l1.length : Int)
  · rw [if_pos c3] at H
    have c3b0 : ((l0.length : Int) == (l1.length : Int)) = true := beq_iff_eq.mpr c3
    have c3b1 : ((l0.length : Int) != (l1.length : Int)) = false := bne_eq_false_iff_eq.mpr c3
    have c3b2 : (l0.length == l1.length) = true := by first | simpa using c3 | (simp at c3 ⊢; omega)
    clear c3
    have H' := Aside0.mk H
    clear H
    go_enter Try.func19, Try.ntmps19
    go_wp2
    repeat (go_quiet (fail); try go_wp2)
    go_loopg [5] k (fun kq v5 w' => ∃ (x5_1 : Int), v5 = .int .i64 x5_1 ∧ Aside0 (slotmeshref33_Bytes.l0 kq l0 l1 x5_1 = some r) ∧ Aside0 (kq ≤ k) ∧ Drawn0 w w')
    case atStart => exact ⟨(0), (by first | rfl | (simp; done) | (simp [*]; done)), H', ⟨Nat.le_refl _⟩, by repeat (first | exact Drawn0.refl _ | apply Drawn0.step)⟩
    case round =>
      clear H'
      try clear c1
      try clear p2
      try clear c3
      try clear c3b0
      try clear c3b1
      try clear c3b2
      obtain ⟨x5_1, rfl, HA, HK1, ⟨m1, rfl⟩⟩ := hrel
      cases gk with
      | zero => exact absurd HA.out (by simp [slotmeshref33_Bytes.l0])
      | succ k1 =>
        have H := HA.out
        clear HA
        simp only [slotmeshref33_Bytes.l0] at H
        by_cases c4 : x5_1 < (l0.length : Int)
        · rw [if_pos c4] at H
          have c4b0 : decide (x5_1 < (l0.length : Int)) = true := decide_eq_true c4
          clear c4
          by_cases c5 : 0 ≤ x5_1
          · rw [if_pos c5] at H
            have c5b0 : decide (0 ≤ x5_1) = true := decide_eq_true c5
            clear c5
            by_cases c6 : x5_1 < (l1.length : Int)
            · rw [if_pos c6] at H
              have c6b0 : decide (x5_1 < (l1.length : Int)) = true := decide_eq_true c6
              clear c6
              by_cases c7 : (rd l0 x5_1) = (rd l1 x5_1)
              · rw [if_pos c7] at H
                have c7b0 : ((rd l0 x5_1) == (rd l1 x5_1)) = true := beq_iff_eq.mpr c7
                have c7b1 : ((rd l0 x5_1) != (rd l1 x5_1)) = false := bne_eq_false_iff_eq.mpr c7
                clear c7
                have H' := Aside0.mk H
                clear H
                have p157 : 0 ≤ (x5_1 : Int) := of_decide_eq_true (by first | (with_reducible assumption) | assumption)
                have q157 : x5_1 < (l0.length : Int) := of_decide_eq_true (by first | (with_reducible assumption) | assumption)
                obtain ⟨ad157, e157, hx157_0⟩ := Kd.at_int HR0.out x5_1 p157 q157
                cases e157
                replace p157 := eq_true p157
                replace q157 := eq_true q157
                have p158 : 0 ≤ (x5_1 : Int) := of_decide_eq_true (by first | (with_reducible assumption) | assumption)
                have q158 : x5_1 < (l1.length : Int) := of_decide_eq_true (by first | (with_reducible assumption) | assumption)
                obtain ⟨ad158, e158, hx158_0⟩ := Kd.at_int HR1.out x5_1 p158 q158
                cases e158
                replace p158 := eq_true p158
                replace q158 := eq_true q158
                go_wp2
                repeat (go_quiet (fail); try go_wp2)
                go_roundg k1
                case measure => have := HK1.out; omega
                case rel => exact ⟨(wrap64 (x5_1 + 1)), (by first | rfl | (simp; done) | (simp [*]; done)), H', ⟨by have := HK1.out; omega⟩, by repeat (first | exact Drawn0.refl _ | apply Drawn0.step)⟩
              · rw [if_neg c7] at H
                have c7b0 : ((rd l0 x5_1) == (rd l1 x5_1)) = false := beq_eq_false_iff_ne.mpr c7
                have c7b1 : ((rd l0 x5_1) != (rd l1 x5_1)) = true := bne_iff_ne.mpr c7
                obtain rfl := Option.some.inj H
                have p157 : 0 ≤ (x5_1 : Int) := of_decide_eq_true (by first | (with_reducible assumption) | assumption)
                have q157 : x5_1 < (l0.length : Int) := of_decide_eq_true (by first | (with_reducible assumption) | assumption)
                obtain ⟨ad157, e157, hx157_0⟩ := Kd.at_int HR0.out x5_1 p157 q157
                cases e157
                replace p157 := eq_true p157
                replace q157 := eq_true q157
                have p158 : 0 ≤ (x5_1 : Int) := of_decide_eq_true (by first | (with_reducible assumption) | assumption)
                have q158 : x5_1 < (l1.length : Int) := of_decide_eq_true (by first | (with_reducible assumption) | assumption)
                obtain ⟨ad158, e158, hx158_0⟩ := Kd.at_int HR1.out x5_1 p158 q158
                cases e158
                replace p158 := eq_true p158
                replace q158 := eq_true q158
                go_wp2
                repeat (go_quiet (fail); try go_wp2)
                go_ret
                exact ⟨by first | rfl | (simp; done) | (simp [*]; done), by repeat (first | exact Drawn0.refl _ | apply Drawn0.step)⟩
            · rw [if_neg c6] at H
              exact absurd H (by simp)
          · rw [if_neg c5] at H
            exact absurd H (by simp)
        · rw [if_neg c4] at H
          have c4b0 : decide (x5_1 < (l0.length : Int)) = false := decide_eq_false c4
          clear c4
          obtain rfl := Option.some.inj H
          go_wp2
          repeat (go_quiet (fail); try go_wp2)
          go_ret
          exact ⟨by first | rfl | (simp; done) | (simp [*]; done), by repeat (first | exact Drawn0.refl _ | apply Drawn0.step)⟩
  · rw [if_neg c3] at H
    have c3b0 : ((l0.length : Int) == (l1.length : Int)) = false := beq_eq_false_iff_ne.mpr c3
    have c3b1 : ((l0.length : Int) != (l1.length : Int)) = true := bne_iff_ne.mpr c3
    have c3b2 : (l0.length == l1.length) = false := by first | simpa using c3 | (simp at c3 ⊢; omega)
    obtain rfl := Option.some.inj H
    go_enter Try.func19, Try.ntmps19
    go_wp2
    repeat (go_quiet (fail); try go_wp2)
    go_ret
    exact ⟨by first | rfl | (simp; done) | (simp [*]; done), by repeat (first | exact Drawn0.refl _ | apply Drawn0.step)⟩
def slotmeshref33_Same.l0 : Nat → List (S25) → List (S25) → Int → Option (Bool)
  | 0, _, _, _ => none
  | k + 1, x0, x1, x5 => if x5 < (x0.length : Int) then (if 0 ≤ x5 then (if x5 < (x1.length : Int) then (if ((rd_T25 x0 x5).f0) = ((rd_T25 x1 x5).f0) then ((slotmeshref33_Bytes.f k ((rd_T25 x0 x5).f1) ((rd_T25 x1 x5).f1)).bind fun t163 => (if t163 = true then (slotmeshref33_Same.l0 k x0 x1 (wrap64 (x5 + 1))) else (some false))) else (some false)) else (none)) else (none)) else (some true)
def slotmeshref33_Same.f (k : Nat) (l0 : List (S25)) (l1 : List (S25)) : Option (Bool) := if (l0.length : Int) = (l1.length : Int) then (slotmeshref33_Same.l0 k l0 l1 0) else (some false)
set_option maxHeartbeats 8000000 in
set_option maxRecDepth 100000 in
theorem slotmeshref33_Same.calls (k : Nat) (A0 : Option Addr) (c0 : Nat) (l0 : List (S25)) (A1 : Option Addr) (c1 : Nat) (l1 : List (S25)) (r : Bool) (w : World) (hr0 : Kd.C k25 w A0 l0.length l0) (hc0 : l0.length ≤ c0) (hr1 : Kd.C k25 w A1 l1.length l1) (hc1 : l1.length ≤ c1) (h : slotmeshref33_Same.f k l0 l1 = some r) :
    Calls Try.prog 18 #[.slice A0 l0.length c0, .slice A1 l1.length c1] w fun e w' => e = .returned (.bool r) ∧ Drawn0 w w' := by
  have HR0 := Aside0.mk hr0
  have HC0 := Aside0.mk hc0
  clear hr0 hc0
  have HR1 := Aside0.mk hr1
  have HC1 := Aside0.mk hc1
  clear hr1 hc1
  have H : (if (l0.length : Int) = (l1.length : Int) then (slotmeshref33_Same.l0 k l0 l1 0) else (some false)) = some r := h
  clear h
  by_cases c3 : (l0.length : Int) = (l1.length : Int)
  · rw [if_pos c3] at H
    have c3b0 : ((l0.length : Int) == (l1.length : Int)) = true := beq_iff_eq.mpr c3
    have c3b1 : ((l0.length : Int) != (l1.length : Int)) = false := bne_eq_false_iff_eq.mpr c3
    have c3b2 : (l0.length == l1.length) = true := by first | simpa using c3 | (simp at c3 ⊢; omega)
    clear c3
    have H' := Aside0.mk H
    clear H
    go_enter Try.func18, Try.ntmps18
    go_wp2
    repeat (go_quiet (fail); try go_wp2)
    go_loopg [5] k (fun kq v5 w' => ∃ (x5_1 : Int), v5 = .int .i64 x5_1 ∧ Aside0 (slotmeshref33_Same.l0 kq l0 l1 x5_1 = some r) ∧ Aside0 (kq ≤ k) ∧ Drawn0 w w')
    case atStart => exact ⟨(0), (by first | rfl | (simp; done) | (simp [*]; done)), H', ⟨Nat.le_refl _⟩, by repeat (first | exact Drawn0.refl _ | apply Drawn0.step)⟩
    case round =>
      clear H'
      try clear c1
      try clear p2
      try clear c3
      try clear c3b0
      try clear c3b1
      try clear c3b2
      obtain ⟨x5_1, rfl, HA, HK1, ⟨m1, rfl⟩⟩ := hrel
      cases gk with
      | zero => exact absurd HA.out (by simp [slotmeshref33_Same.l0])
      | succ k1 =>
        have H := HA.out
        clear HA
        simp only [slotmeshref33_Same.l0] at H
        by_cases c4 : x5_1 < (l0.length : Int)
        · rw [if_pos c4] at H
          have c4b0 : decide (x5_1 < (l0.length : Int)) = true := decide_eq_true c4
          clear c4
          by_cases c5 : 0 ≤ x5_1
          · rw [if_pos c5] at H
            have c5b0 : decide (0 ≤ x5_1) = true := decide_eq_true c5
            clear c5
            by_cases c6 : x5_1 < (l1.length : Int)
            · rw [if_pos c6] at H
              have c6b0 : decide (x5_1 < (l1.length : Int)) = true := decide_eq_true c6
              clear c6
              by_cases c7 : ((rd_T25 l0 x5_1).f0) = ((rd_T25 l1 x5_1).f0)
              · rw [if_pos c7] at H
                have c7b0 : (((rd_T25 l0 x5_1).f0) == ((rd_T25 l1 x5_1).f0)) = true := beq_iff_eq.mpr c7
                have c7b1 : (((rd_T25 l0 x5_1).f0) != ((rd_T25 l1 x5_1).f0)) = false := bne_eq_false_iff_eq.mpr c7
                clear c7
                replace H := Option.bind_eq_some_iff.mp H
                obtain ⟨t163, A80, H⟩ := H
                replace H : (if t163 = true then (slotmeshref33_Same.l0 k1 l0 l1 (wrap64 (x5_1 + 1))) else (some false)) = some r := H
                have A8 := Aside0.mk A80
                clear A80
                by_cases c9 : t163 = true
                · subst c9
                  have H1 : (slotmeshref33_Same.l0 k1 l0 l1 (wrap64 (x5_1 + 1))) = some r := by rw [if_pos rfl] at H; exact H
                  clear H
                  have H := H1
                  clear H1
                  have H' := Aside0.mk H
                  clear H
                  have p159 : 0 ≤ (x5_1 : Int) := of_decide_eq_true (by first | (with_reducible assumption) | assumption)
                  have q159 : x5_1 < (l0.length : Int) := of_decide_eq_true (by first | (with_reducible assumption) | assumption)
                  obtain ⟨ad159, A159_1, c159_1, e159, hx159_0, hx159_1, hl159_1, hi159_1⟩ := at_T25 HR0.out x5_1 p159 q159
                  cases e159
                  have HR159_1 := Aside0.mk hi159_1
                  have HC159_1 := Aside0.mk hl159_1
                  clear hi159_1 hl159_1
                  replace p159 := eq_true p159
                  replace q159 := eq_true q159
                  have p160 : 0 ≤ (x5_1 : Int) := of_decide_eq_true (by first | (with_reducible assumption) | assumption)
                  have q160 : x5_1 < (l1.length : Int) := of_decide_eq_true (by first | (with_reducible assumption) | assumption)
                  obtain ⟨ad160, A160_1, c160_1, e160, hx160_0, hx160_1, hl160_1, hi160_1⟩ := at_T25 HR1.out x5_1 p160 q160
                  cases e160
                  have HR160_1 := Aside0.mk hi160_1
                  have HC160_1 := Aside0.mk hl160_1
                  clear hi160_1 hl160_1
                  replace p160 := eq_true p160
                  replace q160 := eq_true q160
                  have p161 : 0 ≤ (x5_1 : Int) := of_decide_eq_true (by first | (with_reducible assumption) | assumption)
                  have q161 : x5_1 < (l0.length : Int) := of_decide_eq_true (by first | (with_reducible assumption) | assumption)
                  obtain ⟨ad161, A161_1, c161_1, e161, hx161_0, hx161_1, hl161_1, hi161_1⟩ := at_T25 HR0.out x5_1 p161 q161
                  obtain rfl : ad159 = ad161 := (by injection e161)
                  have HR161_1 := Aside0.mk hi161_1
                  have HC161_1 := Aside0.mk hl161_1
                  clear hi161_1 hl161_1
                  replace p161 := eq_true p161
                  replace q161 := eq_true q161
                  have ea_ := Option.some.inj (hx159_1.symm.trans hx161_1)
                  injection ea_ with ea_ en_ ec_
                  subst ea_
                  subst ec_
                  clear en_
                  have p162 : 0 ≤ (x5_1 : Int) := of_decide_eq_true (by first | (with_reducible assumption) | assumption)
                  have q162 : x5_1 < (l1.length : Int) := of_decide_eq_true (by first | (with_reducible assumption) | assumption)
                  obtain ⟨ad162, A162_1, c162_1, e162, hx162_0, hx162_1, hl162_1, hi162_1⟩ := at_T25 HR1.out x5_1 p162 q162
                  obtain rfl : ad160 = ad162 := (by injection e162)
                  have HR162_1 := Aside0.mk hi162_1
                  have HC162_1 := Aside0.mk hl162_1
                  clear hi162_1 hl162_1
                  replace p162 := eq_true p162
                  replace q162 := eq_true q162
                  have ea_ := Option.some.inj (hx160_1.symm.trans hx162_1)
                  injection ea_ with ea_ en_ ec_
                  subst ea_
                  subst ec_
                  clear en_
                  go_wp2_with (first | (go_at_call 19; (with_reducible refine (slotmeshref33_Bytes.calls k1 _ _ ((rd_T25 l0 x5_1).f1) _ _ ((rd_T25 l1 x5_1).f1) true _ ?side1 ?side2 ?side3 ?side4 A8.out).mono ?_); (case side1 => repeat (first | exact HR161_1.out | (with_reducible refine Kd.C_alloc ?_ _) | (with_reducible refine Kd.C_drewN ?_ _) | (with_reducible refine Kd.C_drew ?_))); (case side2 => exact HC161_1.out); (case side3 => repeat (first | exact HR162_1.out | (with_reducible refine Kd.C_alloc ?_ _) | (with_reducible refine Kd.C_drewN ?_ _) | (with_reducible refine Kd.C_drew ?_))); (case side4 => exact HC162_1.out); rintro e w' ⟨rfl, ⟨nd, rfl⟩⟩; (try first | exact ⟨rfl, _, World.drewN_drewN _ _ _⟩ | exact ⟨rfl, _, Eq.trans (World.drewN_drewN _ _ _) (congrArg (World.drewN _) (Nat.add_assoc _ _ _))⟩)))
                  repeat (go_quiet (first | (go_at_call 19; (with_reducible refine (slotmeshref33_Bytes.calls k1 _ _ ((rd_T25 l0 x5_1).f1) _ _ ((rd_T25 l1 x5_1).f1) true _ ?side1 ?side2 ?side3 ?side4 A8.out).mono ?_); (case side1 => repeat (first | exact HR161_1.out | (with_reducible refine Kd.C_alloc ?_ _) | (with_reducible refine Kd.C_drewN ?_ _) | (with_reducible refine Kd.C_drew ?_))); (case side2 => exact HC161_1.out); (case side3 => repeat (first | exact HR162_1.out | (with_reducible refine Kd.C_alloc ?_ _) | (with_reducible refine Kd.C_drewN ?_ _) | (with_reducible refine Kd.C_drew ?_))); (case side4 => exact HC162_1.out); rintro e w' ⟨rfl, ⟨nd, rfl⟩⟩; (try first | exact ⟨rfl, _, World.drewN_drewN _ _ _⟩ | exact ⟨rfl, _, Eq.trans (World.drewN_drewN _ _ _) (congrArg (World.drewN _) (Nat.add_assoc _ _ _))⟩))); try go_wp2_with (first | (go_at_call 19; (with_reducible refine (slotmeshref33_Bytes.calls k1 _ _ ((rd_T25 l0 x5_1).f1) _ _ ((rd_T25 l1 x5_1).f1) true _ ?side1 ?side2 ?side3 ?side4 A8.out).mono ?_); (case side1 => repeat (first | exact HR161_1.out | (with_reducible refine Kd.C_alloc ?_ _) | (with_reducible refine Kd.C_drewN ?_ _) | (with_reducible refine Kd.C_drew ?_))); (case side2 => exact HC161_1.out); (case side3 => repeat (first | exact HR162_1.out | (with_reducible refine Kd.C_alloc ?_ _) | (with_reducible refine Kd.C_drewN ?_ _) | (with_reducible refine Kd.C_drew ?_))); (case side4 => exact HC162_1.out); rintro e w' ⟨rfl, ⟨nd, rfl⟩⟩; (try first | exact ⟨rfl, _, World.drewN_drewN _ _ _⟩ | exact ⟨rfl, _, Eq.trans (World.drewN_drewN _ _ _) (congrArg (World.drewN _) (Nat.add_assoc _ _ _))⟩))))
                  go_roundg k1
                  case measure => have := HK1.out; omega
                  case rel => exact ⟨(wrap64 (x5_1 + 1)), (by first | rfl | (simp; done) | (simp [*]; done)), H', ⟨by have := HK1.out; omega⟩, by repeat (first | exact Drawn0.refl _ | apply Drawn0.step)⟩
                · replace c9 := Bool.eq_false_iff.mpr c9
                  subst c9
                  have H1 : (some false) = some r := by rw [if_neg (show ¬ (false = true) by decide)] at H; exact H
                  clear H
                  have H := H1
                  clear H1
                  obtain rfl := Option.some.inj H
                  have p159 : 0 ≤ (x5_1 : Int) := of_decide_eq_true (by first | (with_reducible assumption) | assumption)
                  have q159 : x5_1 < (l0.length : Int) := of_decide_eq_true (by first | (with_reducible assumption) | assumption)
                  obtain ⟨ad159, A159_1, c159_1, e159, hx159_0, hx159_1, hl159_1, hi159_1⟩ := at_T25 HR0.out x5_1 p159 q159
                  cases e159
                  have HR159_1 := Aside0.mk hi159_1
                  have HC159_1 := Aside0.mk hl159_1
                  clear hi159_1 hl159_1
                  replace p159 := eq_true p159
                  replace q159 := eq_true q159
                  have p160 : 0 ≤ (x5_1 : Int) := of_decide_eq_true (by first | (with_reducible assumption) | assumption)
                  have q160 : x5_1 < (l1.length : Int) := of_decide_eq_true (by first | (with_reducible assumption) | assumption)
                  obtain ⟨ad160, A160_1, c160_1, e160, hx160_0, hx160_1, hl160_1, hi160_1⟩ := at_T25 HR1.out x5_1 p160 q160
                  cases e160
                  have HR160_1 := Aside0.mk hi160_1
                  have HC160_1 := Aside0.mk hl160_1
                  clear hi160_1 hl160_1
                  replace p160 := eq_true p160
                  replace q160 := eq_true q160
                  have p161 : 0 ≤ (x5_1 : Int) := of_decide_eq_true (by first | (with_reducible assumption) | assumption)
                  have q161 : x5_1 < (l0.length : Int) := of_decide_eq_true (by first | (with_reducible assumption) | assumption)
                  obtain ⟨ad161, A161_1, c161_1, e161, hx161_0, hx161_1, hl161_1, hi161_1⟩ := at_T25 HR0.out x5_1 p161 q161
                  obtain rfl : ad159 = ad161 := (by injection e161)
                  have HR161_1 := Aside0.mk hi161_1
                  have HC161_1 := Aside0.mk hl161_1
                  clear hi161_1 hl161_1
                  replace p161 := eq_true p161
                  replace q161 := eq_true q161
                  have ea_ := Option.some.inj (hx159_1.symm.trans hx161_1)
                  injection ea_ with ea_ en_ ec_
                  subst ea_
                  subst ec_
                  clear en_
                  have p162 : 0 ≤ (x5_1 : Int) := of_decide_eq_true (by first | (with_reducible assumption) | assumption)
                  have q162 : x5_1 < (l1.length : Int) := of_decide_eq_true (by first | (with_reducible assumption) | assumption)
                  obtain ⟨ad162, A162_1, c162_1, e162, hx162_0, hx162_1, hl162_1, hi162_1⟩ := at_T25 HR1.out x5_1 p162 q162
                  obtain rfl : ad160 = ad162 := (by injection e162)
                  have HR162_1 := Aside0.mk hi162_1
                  have HC162_1 := Aside0.mk hl162_1
                  clear hi162_1 hl162_1
                  replace p162 := eq_true p162
                  replace q162 := eq_true q162
                  have ea_ := Option.some.inj (hx160_1.symm.trans hx162_1)
                  injection ea_ with ea_ en_ ec_
                  subst ea_
                  subst ec_
                  clear en_
                  go_wp2_with (first | (go_at_call 19; (with_reducible refine (slotmeshref33_Bytes.calls k1 _ _ ((rd_T25 l0 x5_1).f1) _ _ ((rd_T25 l1 x5_1).f1) false _ ?side1 ?side2 ?side3 ?side4 A8.out).mono ?_); (case side1 => repeat (first | exact HR161_1.out | (with_reducible refine Kd.C_alloc ?_ _) | (with_reducible refine Kd.C_drewN ?_ _) | (with_reducible refine Kd.C_drew ?_))); (case side2 => exact HC161_1.out); (case side3 => repeat (first | exact HR162_1.out | (with_reducible refine Kd.C_alloc ?_ _) | (with_reducible refine Kd.C_drewN ?_ _) | (with_reducible refine Kd.C_drew ?_))); (case side4 => exact HC162_1.out); rintro e w' ⟨rfl, ⟨nd, rfl⟩⟩; (try first | exact ⟨rfl, _, World.drewN_drewN _ _ _⟩ | exact ⟨rfl, _, Eq.trans (World.drewN_drewN _ _ _) (congrArg (World.drewN _) (Nat.add_assoc _ _ _))⟩)))
                  repeat (go_quiet (first | (go_at_call 19; (with_reducible refine (slotmeshref33_Bytes.calls k1 _ _ ((rd_T25 l0 x5_1).f1) _ _ ((rd_T25 l1 x5_1).f1) false _ ?side1 ?side2 ?side3 ?side4 A8.out).mono ?_); (case side1 => repeat (first | exact HR161_1.out | (with_reducible refine Kd.C_alloc ?_ _) | (with_reducible refine Kd.C_drewN ?_ _) | (with_reducible refine Kd.C_drew ?_))); (case side2 => exact HC161_1.out); (case side3 => repeat (first | exact HR162_1.out | (with_reducible refine Kd.C_alloc ?_ _) | (with_reducible refine Kd.C_drewN ?_ _) | (with_reducible refine Kd.C_drew ?_))); (case side4 => exact HC162_1.out); rintro e w' ⟨rfl, ⟨nd, rfl⟩⟩; (try first | exact ⟨rfl, _, World.drewN_drewN _ _ _⟩ | exact ⟨rfl, _, Eq.trans (World.drewN_drewN _ _ _) (congrArg (World.drewN _) (Nat.add_assoc _ _ _))⟩))); try go_wp2_with (first | (go_at_call 19; (with_reducible refine (slotmeshref33_Bytes.calls k1 _ _ ((rd_T25 l0 x5_1).f1) _ _ ((rd_T25 l1 x5_1).f1) false _ ?side1 ?side2 ?side3 ?side4 A8.out).mono ?_); (case side1 => repeat (first | exact HR161_1.out | (with_reducible refine Kd.C_alloc ?_ _) | (with_reducible refine Kd.C_drewN ?_ _) | (with_reducible refine Kd.C_drew ?_))); (case side2 => exact HC161_1.out); (case side3 => repeat (first | exact HR162_1.out | (with_reducible refine Kd.C_alloc ?_ _) | (with_reducible refine Kd.C_drewN ?_ _) | (with_reducible refine Kd.C_drew ?_))); (case side4 => exact HC162_1.out); rintro e w' ⟨rfl, ⟨nd, rfl⟩⟩; (try first | exact ⟨rfl, _, World.drewN_drewN _ _ _⟩ | exact ⟨rfl, _, Eq.trans (World.drewN_drewN _ _ _) (congrArg (World.drewN _) (Nat.add_assoc _ _ _))⟩))))
                  go_ret
                  exact ⟨by first | rfl | (simp; done) | (simp [*]; done), by repeat (first | exact Drawn0.refl _ | apply Drawn0.step)⟩
              · rw [if_neg c7] at H
                have c7b0 : (((rd_T25 l0 x5_1).f0) == ((rd_T25 l1 x5_1).f0)) = false := beq_eq_false_iff_ne.mpr c7
                have c7b1 : (((rd_T25 l0 x5_1).f0) != ((rd_T25 l1 x5_1).f0)) = true := bne_iff_ne.mpr c7
                obtain rfl := Option.some.inj H
                have p159 : 0 ≤ (x5_1 : Int) := of_decide_eq_true (by first | (with_reducible assumption) | assumption)
                have q159 : x5_1 < (l0.length : Int) := of_decide_eq_true (by first | (with_reducible assumption) | assumption)
                obtain ⟨ad159, A159_1, c159_1, e159, hx159_0, hx159_1, hl159_1, hi159_1⟩ := at_T25 HR0.out x5_1 p159 q159
                cases e159
                have HR159_1 := Aside0.mk hi159_1
                have HC159_1 := Aside0.mk hl159_1
                clear hi159_1 hl159_1
                replace p159 := eq_true p159
                replace q159 := eq_true q159
                have p160 : 0 ≤ (x5_1 : Int) := of_decide_eq_true (by first | (with_reducible assumption) | assumption)
                have q160 : x5_1 < (l1.length : Int) := of_decide_eq_true (by first | (with_reducible assumption) | assumption)
                obtain ⟨ad160, A160_1, c160_1, e160, hx160_0, hx160_1, hl160_1, hi160_1⟩ := at_T25 HR1.out x5_1 p160 q160
                cases e160
                have HR160_1 := Aside0.mk hi160_1
                have HC160_1 := Aside0.mk hl160_1
                clear hi160_1 hl160_1
                replace p160 := eq_true p160
                replace q160 := eq_true q160
                go_wp2
                repeat (go_quiet (fail); try go_wp2)
                go_ret
                exact ⟨by first | rfl | (simp; done) | (simp [*]; done), by repeat (first | exact Drawn0.refl _ | apply Drawn0.step)⟩
            · rw [if_neg c6] at H
              exact absurd H (by simp)
          · rw [if_neg c5] at H
            exact absurd H (by simp)
        · rw [if_neg c4] at H
          have c4b0 : decide (x5_1 < (l0.length : Int)) = false := decide_eq_false c4
          clear c4
          obtain rfl := Option.some.inj H
          go_wp2
          repeat (go_quiet (fail); try go_wp2)
          go_ret
          exact ⟨by first | rfl | (simp; done) | (simp [*]; done), by repeat (first | exact Drawn0.refl _ | apply Drawn0.step)⟩
  · rw [if_neg c3] at H
    have c3b0 : ((l0.length : Int) == (l1.length : Int)) = false := beq_eq_false_iff_ne.mpr c3
    have c3b1 : ((l0.length : Int) != (l1.length : Int)) = true := bne_iff_ne.mpr c3
    have c3b2 : (l0.length == l1.length) = false := by first | simpa using c3 | (simp at c3 ⊢; omega)
    obtain rfl := Option.some.inj H
    go_enter Try.func18, Try.ntmps18
    go_wp2
    repeat (go_quiet (fail); try go_wp2)
    go_ret
    exact ⟨by first | rfl | (simp; done) | (simp [*]; done), by repeat (first | exact Drawn0.refl _ | apply Drawn0.step)⟩
end Go.Proofs.Ytknlbeojdmeljaa.P
namespace Go.Proofs.Ytknlbeojdmeljaa.L
open Go.RowKit Go.Proofs.YtknlbeojdmeljaaW.PrintWords Go.Proofs.YtknlbeojdmeljaaW.PrintLast Go.Proofs.YtknlbeojdmeljaaW.PrintMore Go.Proofs.Ytknlbeojdmeljaa.P Go.Proofs.Ytknlbeojdmeljaa.H
set_option linter.unusedVariables false
set_option linter.unusedSimpArgs false
/-- with fuel enough -/
def Ev {α : Type} (f : Nat → Option α) (r : α) : Prop := ∃ K, ∀ k, K ≤ k → f k = some r
theorem Ev.succ {α β : Type} {f : Nat → Option α} {g : Nat → Option β} {r : α} {s : β} (h : Ev f r) (e : ∀ k, f k = some r → g (k + 1) = some s) : Ev g s := by
  obtain ⟨K, h⟩ := h
  refine ⟨K + 1, fun k hk => ?_⟩
  obtain ⟨j, rfl⟩ : ∃ j, k = j + 1 := ⟨k - 1, by omega⟩
  exact e j (h j (by omega))
theorem Ev.map {α β : Type} {f : Nat → Option α} {g : Nat → Option β} {r : α} {s : β} (h : Ev f r) (e : ∀ k, f k = some r → g k = some s) : Ev g s := by
  obtain ⟨K, h⟩ := h
  exact ⟨K, fun k hk => e k (h k hk)⟩
theorem Ev.succ2 {α β γ : Type} {f : Nat → Option α} {g : Nat → Option β} {r : α} {s : β} {h : Nat → Option γ} (h1 : Ev f r) (h2 : Ev g s) {t : γ} (e : ∀ k, f k = some r → g k = some s → h (k + 1) = some t) : Ev h t := by
  obtain ⟨K1, h1⟩ := h1
  obtain ⟨K2, h2⟩ := h2
  refine ⟨K1 + K2 + 1, fun k hk => ?_⟩
  obtain ⟨j, rfl⟩ : ∃ j, k = j + 1 := ⟨k - 1, by omega⟩
  exact e j (h1 j (by omega)) (h2 j (by omega))
theorem Ev.one {α : Type} {f : Nat → Option α} {r : α} (e : ∀ k, f (k + 1) = some r) : Ev f r := ⟨1, fun k hk => by
  obtain ⟨j, rfl⟩ : ∃ j, k = j + 1 := ⟨k - 1, by omega⟩
  exact e j⟩
theorem Ev.and {α β : Type} {f : Nat → Option α} {g : Nat → Option β} {r : α} {s : β} (h1 : Ev f r) (h2 : Ev g s) : ∃ K, ∀ k, K ≤ k → f k = some r ∧ g k = some s := by
  obtain ⟨K1, h1⟩ := h1
  obtain ⟨K2, h2⟩ := h2
  exact ⟨K1 + K2, fun k hk => ⟨h1 k (by omega), h2 k (by omega)⟩⟩
theorem wrap_succ (i : Nat) (h : i < 9223372036854775807) : wrap64 ((i : Int) + 1) = ((i + 1 : Nat) : Int) := by unfold wrap64; omega
theorem wrap_pred (i : Nat) (h0 : 0 < i) (h : i < 9223372036854775808) : wrap64 ((i : Int) - 1) = ((i - 1 : Nat) : Int) := by unfold wrap64; omega
theorem lead_spec (m : Nat) (h1 : 1 ≤ m) (h : m < 65536) : ∃ j, j < 16 ∧ lead m = 2 ^ j ∧ 2 ^ j ≤ m ∧ m < 2 ^ (j + 1) := by
  obtain ⟨h2, h3, h4⟩ := Lib.bitLenAux_bounds 64 m (by omega) (by omega)
  have h5 := bitLen16 m h
  have e : Lib.bitLen m = Lib.bitLenAux 64 m := rfl
  rw [← e] at h2 h3 h4
  refine ⟨Lib.bitLen m - 1, by omega, ?_, h3, ?_⟩
  · unfold lead
    have : 2 ^ Lib.bitLen m = 2 * 2 ^ (Lib.bitLen m - 1) := by rw [← Nat.pow_succ']; congr 1; omega
    omega
  · rwa [show Lib.bitLen m - 1 + 1 = Lib.bitLen m by omega]
theorem leading_l0 (m j : Nat) (hj : j < 16) (h1 : 2 ^ j ≤ m) (h2 : m < 2 ^ (j + 1)) (hm : m < 65536) : ∀ n i, i + n = j → Ev (fun k => slotmeshref33_Leading.l0 k (m : Int) ((2 ^ i : Nat) : Int)) ((2 ^ j : Nat) : Int) := by
  intro n
  induction n with
  | zero =>
    intro i hi
    have : i = j := by omega
    subst this
    refine Ev.one (fun k => ?_)
    have hp : 2 ^ (i + 1) = 2 ^ i * 2 := Nat.pow_succ 2 i
    have hw : wrap64 (((2 ^ i : Nat) : Int) * 2) = ((2 ^ i * 2 : Nat) : Int) := by unfold wrap64; omega
    rw [slotmeshref33_Leading.l0, hw, if_neg (by omega)]
  | succ n ih =>
    intro i hi
    refine (ih (i + 1) (by omega)).succ (fun k hk => ?_)
    have hp : 2 ^ (i + 1) = 2 ^ i * 2 := Nat.pow_succ 2 i
    have hle : 2 ^ (i + 1) ≤ 2 ^ j := Nat.pow_le_pow_right (by omega) (by omega)
    have hw : wrap64 (((2 ^ i : Nat) : Int) * 2) = ((2 ^ (i + 1) : Nat) : Int) := by rw [hp]; unfold wrap64; omega
    rw [slotmeshref33_Leading.l0, hw, if_pos (by omega)]
    exact hk
theorem leading_ev (m : Nat) (h1 : 1 ≤ m) (h : m < 65536) : Ev (fun k => slotmeshref33_Leading.f k (m : Int)) (lead m : Int) := by
  obtain ⟨j, hj, e, h2, h3⟩ := lead_spec m h1 h
  rw [e]
  exact leading_l0 m j hj h2 h3 h j 0 (by omega)
/-- the same at a mask as it stands -/
theorem leading_ev' (z : Int) (h1 : 1 ≤ z) (h : z < 65536) : Ev (fun k => slotmeshref33_Leading.f k z) (lead z.toNat : Int) := by
  obtain ⟨m, rfl⟩ := Int.eq_ofNat_of_zero_le (show 0 ≤ z by omega)
  exact leading_ev m (by omega) (by omega)
theorem formed_eq (m : Int) (d : List Int) : slotmeshref33_Formed.f m d = some (fineB m d) := by
  unfold slotmeshref33_Formed.f fineB
  by_cases h1 : m ≥ 1
  · rw [if_pos h1]
    by_cases h2 : m < 65536
    · rw [if_pos h2]
      have e1 : decide (1 ≤ m) = true := decide_eq_true h1
      have e2 : decide (m < 65536) = true := decide_eq_true h2
      rw [e1, e2]
      simp only [Bool.true_and]
      congr 1
      rw [Bool.eq_iff_iff]
      simp
      omega
    · rw [if_neg h2]
      have e2 : decide (m < 65536) = false := decide_eq_false h2
      rw [e2]
      simp
  · rw [if_neg h1]
    have e1 : decide (1 ≤ m) = false := decide_eq_false h1
    rw [e1]
    simp
def allFrom (p : Nat → Bool) : Nat → Nat → Bool
  | _, 0 => true
  | i, n + 1 => p i && allFrom p (i + 1) n
theorem allFrom_iff (p : Nat → Bool) : ∀ n i, allFrom p i n = true ↔ ∀ j, i ≤ j → j < i + n → p j = true := by
  intro n
  induction n with
  | zero => intro i; simp [allFrom]; intro j h1 h2; omega
  | succ n ih =>
    intro i
    simp only [allFrom, Bool.and_eq_true, ih]
    constructor
    · rintro ⟨h1, h2⟩ j h3 h4
      by_cases e : j = i
      · rw [e]; exact h1
      · exact h2 j (by omega) (by omega)
    · intro h
      exact ⟨h i (by omega) (by omega), fun j h1 h2 => h j (by omega) (by omega)⟩
def at_ (l : List S25) (i : Nat) : S25 := l.getD i z25
def mk (l : List S25) (i : Nat) : Nat := (at_ l i).f0.toNat
theorem rd_at (l : List S25) (i : Nat) : rd_T25 l (i : Int) = at_ l i := by simp [rd_T25, at_]
def okAt (l : List S25) (i : Nat) : Bool := fineB (at_ l i).f0 (at_ l i).f1 && (i == 0 || decide (lead (mk l i) < lead (mk l (i - 1))))
def okPair (l : List S25) (i k : Nat) : Bool := i == k || (mk l k &&& lead (mk l i)) == 0
theorem fine_spec {m : Int} {d : List Int} (h : fineB m d = true) : 1 ≤ m ∧ m < 65536 ∧ d.length = 16 := FRow.spec ⟨⟨m, d⟩, h⟩
theorem okAt_fine {l : List S25} {i : Nat} (h : okAt l i = true) : 1 ≤ (at_ l i).f0 ∧ (at_ l i).f0 < 65536 ∧ (at_ l i).f1.length = 16 := by
  unfold okAt at h
  simp only [Bool.and_eq_true] at h
  exact fine_spec h.1
theorem i64_and_int (a : Int) (ha : 1 ≤ a ∧ a < 65536) (b : Nat) (hb : b < 65536) : Go.bits .and .i64 a (b : Int) = ((a.toNat &&& b : Nat) : Int) := by
  obtain ⟨m, rfl⟩ := Int.eq_ofNat_of_zero_le (show 0 ≤ a by omega)
  exact i64_and_nat m b (by omega) (by omega)
/-- the inner loop, and what comes behind it -/
theorem valid_l2 (l : List S25) (hl : l.length < 9223372036854775808) (hok : ∀ j, j < l.length → okAt l j = true) (i : Nat) (hi : i < l.length) (rest : Bool) (hrest : Ev (fun k => slotmeshref33_Valid.l1 k l ((i + 1 : Nat) : Int)) rest) :
    ∀ n c, c + n = l.length → Ev (fun k => slotmeshref33_Valid.l2 k l (i : Int) (c : Int)) (allFrom (okPair l i) c n && rest) := by
  intro n
  induction n with
  | zero =>
    intro c hc
    refine hrest.succ (fun k hk => ?_)
    rw [slotmeshref33_Valid.l2, if_neg (by omega), wrap_succ i (by omega)]
    simpa [allFrom] using hk
  | succ n ih =>
    intro c hc
    have hlt : (c : Int) < (l.length : Int) := by omega
    by_cases hic : i = c
    · refine (ih (c + 1) (by omega)).succ (fun k hk => ?_)
      rw [slotmeshref33_Valid.l2, if_pos hlt, if_pos (by omega), wrap_succ c (by omega)]
      have hp : okPair l i c = true := by simp [okPair, hic]
      simpa [allFrom, hp] using hk
    · have hfi := okAt_fine (hok i hi)
      have hfc := okAt_fine (hok c (by omega))
      have hle := leading_ev' (at_ l i).f0 hfi.1 hfi.2.1
      have hll := lead_lt (at_ l i).f0.toNat (by omega)
      have hand := i64_and_int (at_ l c).f0 ⟨hfc.1, hfc.2.1⟩ _ hll
      by_cases hz : (mk l c &&& lead (mk l i)) = 0
      · refine hle.succ2 (ih (c + 1) (by omega)) (fun k h1 h2 => ?_)
        rw [slotmeshref33_Valid.l2, if_pos hlt, if_neg (by omega), if_pos (by omega), if_pos (by omega), if_pos (by omega), rd_at, rd_at, h1]
        simp only [Option.bind_some]
        rw [hand, if_pos (by show ((mk l c &&& lead (mk l i) : Nat) : Int) = 0; rw [hz]; rfl), wrap_succ c (by omega)]
        have hp : okPair l i c = true := by simp [okPair, hz]
        simpa [allFrom, hp] using h2
      · refine hle.succ (fun k h1 => ?_)
        rw [slotmeshref33_Valid.l2, if_pos hlt, if_neg (by omega), if_pos (by omega), if_pos (by omega), if_pos (by omega), rd_at, rd_at, h1]
        simp only [Option.bind_some]
        have hp : okPair l i c = false := by simp [okPair, hic, hz]
        rw [hand, if_neg (by show ¬ ((mk l c &&& lead (mk l i) : Nat) : Int) = 0; omega)]
        simp [allFrom, hp]
theorem valid_l1 (l : List S25) (hl : l.length < 9223372036854775808) (hok : ∀ j, j < l.length → okAt l j = true) :
    ∀ n i, i + n = l.length → Ev (fun k => slotmeshref33_Valid.l1 k l (i : Int)) (allFrom (fun a => allFrom (okPair l a) 0 l.length) i n) := by
  intro n
  induction n with
  | zero =>
    intro i hi
    refine Ev.one (fun k => ?_)
    rw [slotmeshref33_Valid.l1, if_neg (by omega)]
    rfl
  | succ n ih =>
    intro i hi
    refine (valid_l2 l hl hok i (by omega) _ (ih (i + 1) (by omega)) l.length 0 (by omega)).succ (fun k hk => ?_)
    rw [slotmeshref33_Valid.l1, if_pos (by omega)]
    exact hk
def refB (l : List S25) : Bool := allFrom (okAt l) 0 l.length && allFrom (fun a => allFrom (okPair l a) 0 l.length) 0 l.length
theorem valid_l0 (l : List S25) (hl : l.length < 9223372036854775808) :
    ∀ n i, i + n = l.length → (∀ j, j < i → okAt l j = true) → Ev (fun k => slotmeshref33_Valid.l0 k l (i : Int)) (allFrom (okAt l) i n && allFrom (fun a => allFrom (okPair l a) 0 l.length) 0 l.length) := by
  intro n
  induction n with
  | zero =>
    intro i hi hb
    refine (valid_l1 l hl (fun j hj => hb j (by omega)) l.length 0 (by omega)).succ (fun k hk => ?_)
    rw [slotmeshref33_Valid.l0, if_neg (by omega)]
    simpa [allFrom] using hk
  | succ n ih =>
    intro i hi hb
    have hlt : (i : Int) < (l.length : Int) := by omega
    by_cases hf : fineB (at_ l i).f0 (at_ l i).f1 = true
    · have hfi := fine_spec hf
      have hle := leading_ev' (at_ l i).f0 hfi.1 hfi.2.1
      by_cases h0 : i = 0
      · subst h0
        have hp : okAt l 0 = true := by simp [okAt, hf]
        refine (ih 1 (by omega) (fun j hj => by rw [show j = 0 by omega]; exact hp)).succ (fun k hk => ?_)
        rw [slotmeshref33_Valid.l0, if_pos hlt, if_pos (by omega), rd_at, formed_eq, hf]
        simp only [Option.bind_some, if_true]
        rw [if_neg (by omega), show wrap64 (((0 : Nat) : Int) + 1) = ((0 + 1 : Nat) : Int) from wrap_succ 0 (by omega)]
        simpa [allFrom, hp] using hk
      · have hfp := okAt_fine (hb (i - 1) (by omega))
        have hlp := leading_ev' (at_ l (i - 1)).f0 hfp.1 hfp.2.1
        by_cases hc : lead (mk l i) < lead (mk l (i - 1))
        · have hp : okAt l i = true := by simp [okAt, hf, hc]
          obtain ⟨K, hK⟩ := hle.and hlp
          have hev2 : Ev (fun k => if slotmeshref33_Leading.f k (at_ l i).f0 = some (lead (at_ l i).f0.toNat : Int) ∧ slotmeshref33_Leading.f k (at_ l (i - 1)).f0 = some (lead (at_ l (i - 1)).f0.toNat : Int) then some () else none) () := ⟨K, fun k hk => if_pos (hK k hk)⟩
          refine hev2.succ2 (ih (i + 1) (by omega) (fun j hj => by
            by_cases e : j = i
            · rw [e]; exact hp
            · exact hb j (by omega))) (fun k h1 h2 => ?_)
          have h1' : slotmeshref33_Leading.f k (at_ l i).f0 = some (lead (at_ l i).f0.toNat : Int) ∧ slotmeshref33_Leading.f k (at_ l (i - 1)).f0 = some (lead (at_ l (i - 1)).f0.toNat : Int) := by
            by_cases hh : slotmeshref33_Leading.f k (at_ l i).f0 = some (lead (at_ l i).f0.toNat : Int) ∧ slotmeshref33_Leading.f k (at_ l (i - 1)).f0 = some (lead (at_ l (i - 1)).f0.toNat : Int)
            · exact hh
            · rw [if_neg hh] at h1; cases h1
          rw [slotmeshref33_Valid.l0, if_pos hlt, if_pos (by omega), rd_at, formed_eq, hf]
          simp only [Option.bind_some, if_true]
          rw [if_pos (by omega), wrap_pred i (by omega) (by omega), if_pos (by omega), if_pos (by omega), rd_at, h1'.1, h1'.2]
          simp only [Option.bind_some]
          rw [if_neg (by have : lead (at_ l i).f0.toNat < lead (at_ l (i - 1)).f0.toNat := hc; omega), wrap_succ i (by omega)]
          simpa [allFrom, hp] using h2
        · have hp : okAt l i = false := by simp [okAt, hc, h0]
          refine hle.succ2 hlp (fun k h1 h2 => ?_)
          rw [slotmeshref33_Valid.l0, if_pos hlt, if_pos (by omega), rd_at, formed_eq, hf]
          simp only [Option.bind_some, if_true]
          rw [if_pos (by omega), wrap_pred i (by omega) (by omega), if_pos (by omega), if_pos (by omega), rd_at, h1, h2]
          simp only [Option.bind_some]
          rw [if_pos (by have : ¬ lead (at_ l i).f0.toNat < lead (at_ l (i - 1)).f0.toNat := hc; omega)]
          simp [allFrom, hp]
    · have hp : okAt l i = false := by simp [okAt, hf]
      refine Ev.one (fun k => ?_)
      rw [slotmeshref33_Valid.l0, if_pos hlt, if_pos (by omega), rd_at, formed_eq]
      simp only [Option.bind_some]
      rw [if_neg hf]
      simp [allFrom, hp]
theorem refValid (l : List S25) (hl : l.length < 9223372036854775808) : Ev (fun k => slotmeshref33_Valid.f k l) (refB l) :=
  valid_l0 l hl l.length 0 (by omega) (fun j hj => by omega)
theorem and_two_pow (m j : Nat) : m &&& 2 ^ j = if m.testBit j then 2 ^ j else 0 := by
  apply Nat.eq_of_testBit_eq
  intro i
  rw [Nat.testBit_and, Nat.testBit_two_pow]
  by_cases h : m.testBit j = true
  · rw [if_pos h, Nat.testBit_two_pow]
    by_cases e : j = i
    · subst e; simp [h]
    · simp [e]
  · rw [if_neg h]
    by_cases e : j = i
    · subst e; simpa using h
    · simp [e]
theorem top_bit {m j : Nat} (h1 : 2 ^ j ≤ m) (h2 : m < 2 ^ (j + 1)) : m.testBit j = true := by
  obtain ⟨i, hi, hb⟩ := Nat.exists_ge_and_testBit_of_ge_two_pow h1
  by_cases e : i = j
  · rw [← e]; exact hb
  · have := Nat.testBit_lt_two_pow (x := m) (i := i) (Nat.lt_of_lt_of_le h2 (Nat.pow_le_pow_right (by omega) (by omega)))
    rw [this] at hb
    cases hb
/-- the leads of a list, together -/
def orL (l : List S25) : Nat := l.foldl (fun a x => a ||| lead x.f0.toNat) 0
theorem val1_val (l : List S25) : ∀ st, (∀ x ∈ l, fineB x.f0 x.f1 = true) → ((st.2 :: l.map (fun x => lead x.f0.toNat)).Pairwise (· > ·)) → val1 l st = some (l.foldl (fun a x => a ||| lead x.f0.toNat) st.1, (l.map (fun x => lead x.f0.toNat)).getLast?.getD st.2) := by
  induction l with
  | nil => intro st _ _; rfl
  | cons x l ih =>
    intro st hf hp
    simp only [List.map_cons, List.pairwise_cons] at hp
    have h1 : fineB x.f0 x.f1 = true ∧ lead x.f0.toNat < st.2 := ⟨hf x (by simp), hp.1 _ (by simp)⟩
    rw [val1, if_pos h1, ih _ (fun y hy => hf y (by simp [hy]))]
    · simp only [List.foldl_cons, List.map_cons, List.getLast?_cons]
      simp
    · simp only [List.pairwise_cons]
      exact ⟨hp.2.1, hp.2.2⟩
theorem val1_conv (l : List S25) : ∀ st st', val1 l st = some st' → (∀ x ∈ l, fineB x.f0 x.f1 = true) ∧ ((st.2 :: l.map (fun x => lead x.f0.toNat)).Pairwise (· > ·)) := by
  induction l with
  | nil => intro st st' _; simp
  | cons x l ih =>
    intro st st' h
    rw [val1] at h
    split at h
    · rename_i hc
      obtain ⟨h1, h2⟩ := ih _ _ h
      refine ⟨fun y hy => ?_, ?_⟩
      · rcases List.mem_cons.1 hy with rfl | hy
        · exact hc.1
        · exact h1 y hy
      · simp only [List.map_cons, List.pairwise_cons] at h2 ⊢
        refine ⟨fun b hb => ?_, h2⟩
        rcases List.mem_cons.1 hb with rfl | hb
        · exact hc.2
        · exact Nat.lt_trans (h2.1 b hb) hc.2
    · cases h
/-- what valid rows are, in plain words -/
structure VP (l : List S25) : Prop where
  fine : ∀ x ∈ l, fineB x.f0 x.f1 = true
  desc : (l.map (fun x => lead x.f0.toNat)).Pairwise (· > ·)
  red : ∀ i k, i < l.length → k < l.length → i ≠ k → mk l k &&& lead (mk l i) = 0
theorem lead_lt16 (x : S25) (h : fineB x.f0 x.f1 = true) : lead x.f0.toNat < 65536 := lead_lt _ (by have := fine_spec h; omega)
theorem testBit_foldl_or (l : List S25) (i : Nat) : ∀ a : Nat, (l.foldl (fun a x => a ||| lead x.f0.toNat) a).testBit i = (a.testBit i || l.any (fun x => (lead x.f0.toNat).testBit i)) := by
  induction l with
  | nil => intro a; simp
  | cons x l ih => intro a; rw [List.foldl_cons, ih, Nat.testBit_or]; simp [Bool.or_assoc]
theorem mem_at {l : List S25} {i : Nat} (h : i < l.length) : at_ l i ∈ l := by
  unfold at_
  rw [List.getD_eq_getElem?_getD, List.getElem?_eq_getElem h]
  exact List.getElem_mem h
theorem at_mem {l : List S25} {x : S25} (h : x ∈ l) : ∃ i, i < l.length ∧ at_ l i = x := by
  obtain ⟨i, hi, e⟩ := List.getElem_of_mem h
  exact ⟨i, hi, by unfold at_; rw [List.getD_eq_getElem?_getD, List.getElem?_eq_getElem hi]; exact e⟩
theorem lead_inj_at {l : List S25} (hd : (l.map (fun x => lead x.f0.toNat)).Pairwise (· > ·)) {i k : Nat} (hi : i < l.length) (hk : k < l.length) (hne : i ≠ k) : lead (mk l i) ≠ lead (mk l k) := by
  have key : ∀ a b, a < b → b < l.length → lead (mk l b) < lead (mk l a) := by
    intro a b hab hb
    have := List.pairwise_iff_getElem.1 hd a b (by simp; omega) (by simpa using hb) hab
    simp only [List.getElem_map] at this
    unfold mk at_
    rw [List.getD_eq_getElem?_getD, List.getD_eq_getElem?_getD, List.getElem?_eq_getElem hb, List.getElem?_eq_getElem (show a < l.length by omega)]
    exact this
  rcases Nat.lt_or_gt_of_ne hne with h | h
  · have := key i k h hk; omega
  · have := key k i h hi; omega
theorem validS_iff (l : List S25) : validS l = true ↔ VP l := by
  have lead2 : ∀ x ∈ l, fineB x.f0 x.f1 = true → ∃ j, j < 16 ∧ lead x.f0.toNat = 2 ^ j ∧ x.f0.toNat.testBit j = true := by
    intro x hx hf
    have := fine_spec hf
    obtain ⟨j, h1, h2, h3, h4⟩ := lead_spec x.f0.toNat (by omega) (by omega)
    exact ⟨j, h1, h2, top_bit h3 h4⟩
  -- the test of the second loop, bit by bit
  have second : ∀ (hf : ∀ x ∈ l, fineB x.f0 x.f1 = true) (hd : (l.map (fun x => lead x.f0.toNat)).Pairwise (· > ·)), ((l.all fun x => x.f0.toNat &&& orL l == lead x.f0.toNat) = true ↔ ∀ i k, i < l.length → k < l.length → i ≠ k → mk l k &&& lead (mk l i) = 0) := by
    intro hf hd
    rw [List.all_eq_true]
    constructor
    · intro h i k hi hk hne
      have hx := h (at_ l k) (mem_at hk)
      simp only [beq_iff_eq] at hx
      obtain ⟨j, hj, e, _⟩ := lead2 _ (mem_at hi) (hf _ (mem_at hi))
      show (at_ l k).f0.toNat &&& lead (at_ l i).f0.toNat = 0
      rw [e, and_two_pow]
      by_cases hb : (at_ l k).f0.toNat.testBit j = true
      · exfalso
        have ht : ((at_ l k).f0.toNat &&& orL l).testBit j = true := by
          rw [Nat.testBit_and, hb, orL, testBit_foldl_or]
          simp only [Bool.true_and, Nat.zero_testBit, Bool.false_or, List.any_eq_true]
          exact ⟨at_ l i, mem_at hi, by rw [e, Nat.testBit_two_pow_self]⟩
        rw [hx] at ht
        obtain ⟨j2, _, e2, _⟩ := lead2 _ (mem_at hk) (hf _ (mem_at hk))
        rw [e2, Nat.testBit_two_pow] at ht
        have : j2 = j := by simpa using ht
        exact lead_inj_at hd hi hk hne (by show lead (at_ l i).f0.toNat = lead (at_ l k).f0.toNat; rw [e, e2, this])
      · rw [if_neg hb]
    · intro h x hx
      obtain ⟨k, hk, rfl⟩ := at_mem hx
      obtain ⟨j, hj, e, hb⟩ := lead2 _ hx (hf _ hx)
      simp only [beq_iff_eq]
      apply Nat.eq_of_testBit_eq
      intro i
      rw [Nat.testBit_and, orL, testBit_foldl_or, e, Nat.testBit_two_pow]
      simp only [Nat.zero_testBit, Bool.false_or]
      by_cases hij : j = i
      · subst hij
        rw [hb]
        simp only [Bool.true_and, decide_true, List.any_eq_true]
        exact ⟨_, hx, by rw [e, Nat.testBit_two_pow_self]⟩
      · simp only [hij, decide_false, Bool.and_eq_false_iff]
        by_cases hbi : (at_ l k).f0.toNat.testBit i = true
        · right
          rw [List.any_eq_false]
          intro y hy ht
          obtain ⟨k2, hk2, rfl⟩ := at_mem hy
          obtain ⟨j2, _, e2, _⟩ := lead2 _ hy (hf _ hy)
          rw [e2, Nat.testBit_two_pow] at ht
          have hji : j2 = i := by simpa using ht
          by_cases hkk : k2 = k
          · subst hkk
            rw [e] at e2
            have := (Nat.pow_right_inj (show 1 < 2 by omega)).1 e2
            omega
          · have := h k2 k hk2 hk hkk
            have h3 : (at_ l k).f0.toNat &&& lead (at_ l k2).f0.toNat = 0 := this
            rw [e2, and_two_pow, hji, if_pos hbi] at h3
            have := Nat.two_pow_pos i
            omega
        · left
          simpa using hbi
  constructor
  · intro h
    unfold validS at h
    split at h
    · cases h
    · rename_i st hv
      obtain ⟨h1, h2⟩ := val1_conv _ _ _ hv
      have h3 := val1_val l (0, 65536) h1 h2
      rw [hv] at h3
      injection h3 with h3
      simp only [List.pairwise_cons] at h2
      rw [h3] at h
      exact ⟨h1, h2.2, (second h1 h2.2).1 h⟩
  · rintro ⟨h1, h2, h3⟩
    have hp : (((0, 65536) : Nat × Nat).2 :: l.map (fun x => lead x.f0.toNat)).Pairwise (· > ·) := by
      rw [List.pairwise_cons]
      refine ⟨fun b hb => ?_, h2⟩
      obtain ⟨x, hx, rfl⟩ := List.mem_map.1 hb
      exact lead_lt16 x (h1 x hx)
    unfold validS
    rw [val1_val l (0, 65536) h1 hp]
    exact (second h1 h2).2 h3
theorem refB_iff (l : List S25) : refB l = true ↔ VP l := by
  unfold refB
  rw [Bool.and_eq_true, allFrom_iff, allFrom_iff]
  constructor
  · rintro ⟨h1, h2⟩
    have hf : ∀ x ∈ l, fineB x.f0 x.f1 = true := by
      intro x hx
      obtain ⟨i, hi, rfl⟩ := at_mem hx
      have := h1 i (by omega) (by omega)
      unfold okAt at this
      simp only [Bool.and_eq_true] at this
      exact this.1
    have hstep : ∀ i, i + 1 < l.length → lead (mk l (i + 1)) < lead (mk l i) := by
      intro i hi
      have := h1 (i + 1) (by omega) (by omega)
      unfold okAt at this
      simp at this
      exact this.2
    have hmono : ∀ d i, i + d + 1 < l.length → lead (mk l (i + d + 1)) < lead (mk l i) := by
      intro d
      induction d with
      | zero => intro i hi; exact hstep i hi
      | succ d ih => intro i hi; exact Nat.lt_trans (hstep (i + d + 1) hi) (ih i (by omega))
    refine ⟨hf, ?_, fun i k hi hk hne => ?_⟩
    · rw [List.pairwise_iff_getElem]
      intro i j hi hj hij
      simp only [List.length_map] at hi hj
      simp only [List.getElem_map]
      have := hmono (j - i - 1) i (by omega)
      rw [show i + (j - i - 1) + 1 = j by omega] at this
      unfold mk at_ at this
      rw [List.getD_eq_getElem?_getD, List.getD_eq_getElem?_getD, List.getElem?_eq_getElem hj, List.getElem?_eq_getElem hi] at this
      exact this
    · have := (allFrom_iff _ _ _).1 (h2 i (by omega) (by omega)) k (by omega) (by omega)
      unfold okPair at this
      simp [hne] at this
      exact this
  · rintro ⟨h1, h2, h3⟩
    refine ⟨fun i _ hi => ?_, fun i _ hi => (allFrom_iff _ _ _).2 (fun k _ hk => ?_)⟩
    · unfold okAt
      rw [h1 _ (mem_at (by omega)), Bool.true_and]
      by_cases e : i = 0
      · simp [e]
      · have := List.pairwise_iff_getElem.1 h2 (i - 1) i (by simp; omega) (by simp; omega) (by omega)
        simp only [List.getElem_map] at this
        have h4 : lead (mk l i) < lead (mk l (i - 1)) := by
          unfold mk at_
          rw [List.getD_eq_getElem?_getD, List.getD_eq_getElem?_getD, List.getElem?_eq_getElem (show i < l.length by omega), List.getElem?_eq_getElem (show i - 1 < l.length by omega)]
          exact this
        simp [h4]
    · unfold okPair
      by_cases e : i = k
      · simp [e]
      · rw [h3 i k (by omega) (by omega) e]
        simp
theorem refB_validS (l : List S25) : refB l = validS l := by
  rw [Bool.eq_iff_iff, refB_iff, validS_iff]
theorem refValid' (l : List S25) (hl : l.length < 9223372036854775808) : Ev (fun k => slotmeshref33_Valid.f k l) (validS l) := by
  rw [← refB_validS]
  exact refValid l hl
end Go.Proofs.Ytknlbeojdmeljaa.L
namespace Go.Proofs.Ytknlbeojdmeljaa.L
open Go.RowKit Go.Proofs.YtknlbeojdmeljaaW.PrintWords Go.Proofs.YtknlbeojdmeljaaW.PrintLast Go.Proofs.YtknlbeojdmeljaaW.PrintMore Go.Proofs.Ytknlbeojdmeljaa.P Go.Proofs.Ytknlbeojdmeljaa.H
set_option linter.unusedVariables false
set_option linter.unusedSimpArgs false
theorem rd_nat (l : List Int) (i : Nat) : rd l (i : Int) = l.getD i 0 := by simp [rd]
theorem xorD_snoc (a b : List Int) (i : Nat) (ha : i < a.length) (hb : i < b.length) : xorD (a.take i) (b.take i) ++ [xorB (a.getD i 0) (b.getD i 0)] = xorD (a.take (i + 1)) (b.take (i + 1)) := by
  rw [List.take_succ_eq_append_getElem ha, List.take_succ_eq_append_getElem hb]
  unfold xorD
  rw [List.zipWith_append (by simp; omega)]
  simp [List.getD, List.getElem?_eq_getElem ha, List.getElem?_eq_getElem hb]
theorem xor_l0 (a b : List Int) (ha : 16 ≤ a.length) (hb : 16 ≤ b.length) : ∀ n i, i + n = 16 → Ev (fun k => slotmeshref33_Xor.l0 k a b (xorD (a.take i) (b.take i)) (i : Int)) (xorD (a.take 16) (b.take 16)) := by
  intro n
  induction n with
  | zero =>
    intro i hi
    refine Ev.one (fun k => ?_)
    rw [slotmeshref33_Xor.l0, if_neg (by omega), show i = 16 by omega]
  | succ n ih =>
    intro i hi
    refine (ih (i + 1) (by omega)).succ (fun k hk => ?_)
    rw [slotmeshref33_Xor.l0, if_pos (by omega), if_pos (by omega), if_pos (by omega), if_pos (by omega), if_pos (by
      unfold xorD; rw [List.length_zipWith, List.length_take, List.length_take]; omega), rd_nat, rd_nat, wrap_succ i (by omega)]
    rw [show (xorD (a.take i) (b.take i) ++ [Go.bits .xor .u8 (a.getD i 0) (b.getD i 0)]) = xorD (a.take (i + 1)) (b.take (i + 1)) from xorD_snoc a b i (by omega) (by omega)]
    exact hk
theorem refXor (a b : List Int) (ha : a.length = 16) (hb : b.length = 16) : Ev (fun k => slotmeshref33_Xor.f k a b) (xorD a b) := by
  have := xor_l0 a b (by omega) (by omega) 16 0 (by omega)
  rw [List.take_of_length_le (show a.length ≤ 16 by omega), List.take_of_length_le (show b.length ≤ 16 by omega)] at this
  exact this
theorem i64_xor_int (a b : Int) (ha : 0 ≤ a ∧ a < 65536) (hb : 0 ≤ b ∧ b < 65536) : Go.bits .xor .i64 a b = ((a.toNat ^^^ b.toNat : Nat) : Int) := by
  obtain ⟨m, rfl⟩ := Int.eq_ofNat_of_zero_le ha.1
  obtain ⟨n, rfl⟩ := Int.eq_ofNat_of_zero_le hb.1
  exact i64_xor_nat m n (by omega) (by omega)
theorem stepS_ok (x : Nat × List Int) (r : S25) (hr : fineB r.f0 r.f1 = true) (h : x.1 < 65536 ∧ x.2.length = 16) : (stepS x r).1 < 65536 ∧ (stepS x r).2.length = 16 := step1_ok x ⟨r, hr⟩ h
theorem drop_at (l : List S25) (i : Nat) (h : i < l.length) : l.drop i = at_ l i :: l.drop (i + 1) := by
  rw [List.drop_eq_getElem_cons h]
  congr 1
  unfold at_
  rw [List.getD_eq_getElem?_getD, List.getElem?_eq_getElem h]
  rfl
theorem reduce_l0 (l : List S25) (hl : l.length < 9223372036854775808) (hv : ∀ x ∈ l, fineB x.f0 x.f1 = true) : ∀ n i, i + n = l.length → ∀ (m : Nat) (d : List Int), m < 65536 → d.length = 16 →
    Ev (fun k => slotmeshref33_reduce.l0 k l (i : Int) (m : Int) d) (((redS (l.drop i) (m, d)).1 : Int), (redS (l.drop i) (m, d)).2) := by
  intro n
  induction n with
  | zero =>
    intro i hi m d hm hd
    refine Ev.one (fun k => ?_)
    rw [slotmeshref33_reduce.l0, if_neg (by omega), List.drop_of_length_le (by omega)]
    rfl
  | succ n ih =>
    intro i hi m d hm hd
    have hf := hv _ (mem_at (show i < l.length by omega))
    have hfi := fine_spec hf
    have hle := leading_ev' (at_ l i).f0 hfi.1 hfi.2.1
    have hll := lead_lt (at_ l i).f0.toNat (by omega)
    have hand := i64_and_nat m _ (show m < 9223372036854775808 by omega) (show lead (at_ l i).f0.toNat < 9223372036854775808 by omega)
    rw [drop_at l i (by omega)]
    by_cases hz : m &&& lead (at_ l i).f0.toNat = 0
    · have hst : redS (at_ l i :: l.drop (i + 1)) (m, d) = redS (l.drop (i + 1)) (m, d) := by
        show redS (l.drop (i + 1)) (stepS (m, d) (at_ l i)) = _
        rw [show stepS (m, d) (at_ l i) = (m, d) from if_neg (by simpa using hz)]
      rw [hst]
      refine hle.succ2 (ih (i + 1) (by omega) m d hm hd) (fun k h1 h2 => ?_)
      rw [slotmeshref33_reduce.l0, if_pos (by omega), if_pos (by omega), rd_at, h1]
      simp only [Option.bind_some]
      rw [hand, if_pos (by rw [hz]; rfl), wrap_succ i (by omega)]
      exact h2
    · have hst : redS (at_ l i :: l.drop (i + 1)) (m, d) = redS (l.drop (i + 1)) (m ^^^ (at_ l i).f0.toNat, xorD d (at_ l i).f1) := by
        show redS (l.drop (i + 1)) (stepS (m, d) (at_ l i)) = _
        rw [show stepS (m, d) (at_ l i) = (m ^^^ (at_ l i).f0.toNat, xorD d (at_ l i).f1) from if_pos hz]
      rw [hst]
      have hok := stepS_ok (m, d) (at_ l i) hf ⟨hm, hd⟩
      rw [show stepS (m, d) (at_ l i) = (m ^^^ (at_ l i).f0.toNat, xorD d (at_ l i).f1) from if_pos hz] at hok
      have hx := refXor d (at_ l i).f1 hd hfi.2.2
      have hxr := i64_xor_int (m : Int) (at_ l i).f0 (by omega) (by omega)
      rw [Int.toNat_natCast] at hxr
      obtain ⟨K, hK⟩ := hle.and hx
      have h3 : Ev (fun k => (slotmeshref33_Leading.f k (at_ l i).f0).bind fun a => (slotmeshref33_Xor.f k d (at_ l i).f1).bind fun b => some (a, b)) ((lead (at_ l i).f0.toNat : Int), xorD d (at_ l i).f1) := ⟨K, fun k hk => by simp only [(hK k hk).1, (hK k hk).2, Option.bind_some]⟩
      refine h3.succ2 (ih (i + 1) (by omega) _ _ hok.1 hok.2) (fun k h1 h2 => ?_)
      have ha : slotmeshref33_Leading.f k (at_ l i).f0 = some (lead (at_ l i).f0.toNat : Int) ∧ slotmeshref33_Xor.f k d (at_ l i).f1 = some (xorD d (at_ l i).f1) := by
        cases e1 : slotmeshref33_Leading.f k (at_ l i).f0 with
        | none => rw [e1] at h1; cases h1
        | some a =>
          cases e2 : slotmeshref33_Xor.f k d (at_ l i).f1 with
          | none => rw [e1, e2] at h1; cases h1
          | some b =>
            rw [e1, e2] at h1
            simp only [Option.bind_some, Option.some.injEq, Prod.mk.injEq] at h1
            exact ⟨by rw [h1.1], by rw [h1.2]⟩
      rw [slotmeshref33_reduce.l0, if_pos (by omega), if_pos (by omega), rd_at, ha.1]
      simp only [Option.bind_some]
      rw [hand, if_neg (by omega), ha.2]
      simp only [Option.bind_some]
      rw [wrap_succ i (by omega), hxr]
      exact h2
theorem refReduce (l : List S25) (hl : l.length < 9223372036854775808) (hv : validS l = true) (m : Nat) (d : List Int) (hm : m < 65536) (hd : d.length = 16) :
    Ev (fun k => slotmeshref33_reduce.f k l (m : Int) d) (((redS l (m, d)).1 : Int), (redS l (m, d)).2) :=
  reduce_l0 l hl ((validS_iff l).1 hv).fine l.length 0 (by omega) m d hm hd
theorem zero_l0 (b : List Int) (hl : b.length < 9223372036854775808) : ∀ n i, i + n = b.length → Ev (fun k => slotmeshref33_Zero.l0 k b (i : Int)) ((b.drop i).all (· == 0)) := by
  intro n
  induction n with
  | zero =>
    intro i hi
    refine Ev.one (fun k => ?_)
    rw [slotmeshref33_Zero.l0, if_neg (by omega), List.drop_of_length_le (by omega)]
    rfl
  | succ n ih =>
    intro i hi
    have hd : b.drop i = b.getD i 0 :: b.drop (i + 1) := by
      rw [List.drop_eq_getElem_cons (by omega), List.getD_eq_getElem?_getD, List.getElem?_eq_getElem (show i < b.length by omega)]
      rfl
    rw [hd]
    by_cases hz : b.getD i 0 = 0
    · refine (ih (i + 1) (by omega)).succ (fun k hk => ?_)
      rw [slotmeshref33_Zero.l0, if_pos (by omega), if_pos (by omega), rd_nat, if_pos hz, wrap_succ i (by omega), List.all_cons, hz]
      exact hk
    · refine Ev.one (fun k => ?_)
      rw [slotmeshref33_Zero.l0, if_pos (by omega), if_pos (by omega), rd_nat, if_neg hz, List.all_cons]
      have h2 : (b.getD i 0 == 0) = false := by rw [beq_eq_false_iff_ne]; exact hz
      rw [h2]
      rfl
theorem refZero (b : List Int) (hl : b.length < 9223372036854775808) : Ev (fun k => slotmeshref33_Zero.f k b) (b.all (· == 0)) := zero_l0 b hl b.length 0 (by omega)
theorem copy_l0 (l : List S25) (hl : l.length < 4398046511104) (hd : ∀ x ∈ l, x.f1.length < 140737488355328) : ∀ n i, i + n = l.length → Ev (fun k => slotmeshref33_Copy.l0 k l (l.take i) (i : Int)) l := by
  intro n
  induction n with
  | zero =>
    intro i hi
    refine Ev.one (fun k => ?_)
    rw [slotmeshref33_Copy.l0, if_neg (by omega), List.take_of_length_le (by omega)]
  | succ n ih =>
    intro i hi
    refine (ih (i + 1) (by omega)).succ (fun k hk => ?_)
    have h1 := hd _ (mem_at (show i < l.length by omega))
    rw [slotmeshref33_Copy.l0, if_pos (by omega), if_pos (by omega), rd_at, if_pos (by simpa using h1), if_pos (by rw [List.length_take]; omega), wrap_succ i (by omega)]
    have e : l.take i ++ [(⟨(at_ l i).f0, [] ++ (at_ l i).f1⟩ : S25)] = l.take (i + 1) := by
      rw [List.take_succ_eq_append_getElem (show i < l.length by omega)]
      congr 2
      unfold at_
      rw [List.getD_eq_getElem?_getD, List.getElem?_eq_getElem (show i < l.length by omega)]
      simp
    rw [e]
    exact hk
theorem refCopy (l : List S25) (hl : l.length < 4398046511104) (hd : ∀ x ∈ l, x.f1.length < 140737488355328) : Ev (fun k => slotmeshref33_Copy.f k l) l := copy_l0 l hl hd l.length 0 (by omega)
theorem bytes_l0 (a b : List Int) (he : a.length = b.length) (hl : a.length < 9223372036854775808) : ∀ n i, i + n = a.length → Ev (fun k => slotmeshref33_Bytes.l0 k a b (i : Int)) (a.drop i == b.drop i) := by
  intro n
  induction n with
  | zero =>
    intro i hi
    refine Ev.one (fun k => ?_)
    rw [slotmeshref33_Bytes.l0, if_neg (by omega), List.drop_of_length_le (by omega), List.drop_of_length_le (by omega)]
    rfl
  | succ n ih =>
    intro i hi
    have hd : ∀ c : List Int, i < c.length → c.drop i = c.getD i 0 :: c.drop (i + 1) := fun c hc => by
      rw [List.drop_eq_getElem_cons hc, List.getD_eq_getElem?_getD, List.getElem?_eq_getElem hc]
      rfl
    rw [hd a (by omega), hd b (by omega)]
    by_cases hz : a.getD i 0 = b.getD i 0
    · refine (ih (i + 1) (by omega)).succ (fun k hk => ?_)
      rw [slotmeshref33_Bytes.l0, if_pos (by omega), if_pos (by omega), if_pos (by omega), rd_nat, rd_nat, if_pos hz, wrap_succ i (by omega), hz]
      simpa using hk
    · refine Ev.one (fun k => ?_)
      rw [slotmeshref33_Bytes.l0, if_pos (by omega), if_pos (by omega), if_pos (by omega), rd_nat, rd_nat, if_neg hz]
      simp only [Option.some.injEq]
      symm
      rw [beq_eq_false_iff_ne]
      intro h
      injection h with h1
      exact hz h1
theorem refBytes (a b : List Int) (hl : a.length < 9223372036854775808) : Ev (fun k => slotmeshref33_Bytes.f k a b) (a == b) := by
  by_cases he : a.length = b.length
  · refine (bytes_l0 a b he hl a.length 0 (by omega)).map (fun k hk => ?_)
    rw [slotmeshref33_Bytes.f, if_pos (by omega)]
    exact hk
  · refine ⟨0, fun k _ => ?_⟩
    show slotmeshref33_Bytes.f k a b = _
    rw [slotmeshref33_Bytes.f, if_neg (by omega)]
    congr 1
    symm
    rw [beq_eq_false_iff_ne]
    rintro rfl
    exact he rfl
def sameB (a b : List S25) : Bool := a.map (fun x => (x.f0, x.f1)) == b.map (fun x => (x.f0, x.f1))
theorem same_l0 (a b : List S25) (he : a.length = b.length) (hl : a.length < 9223372036854775808) (hd : ∀ x ∈ a, x.f1.length < 9223372036854775808) : ∀ n i, i + n = a.length → Ev (fun k => slotmeshref33_Same.l0 k a b (i : Int)) (sameB (a.drop i) (b.drop i)) := by
  intro n
  induction n with
  | zero =>
    intro i hi
    refine Ev.one (fun k => ?_)
    rw [slotmeshref33_Same.l0, if_neg (by omega), List.drop_of_length_le (by omega), List.drop_of_length_le (by omega)]
    rfl
  | succ n ih =>
    intro i hi
    rw [drop_at a i (by omega), drop_at b i (by omega)]
    by_cases hz : (at_ a i).f0 = (at_ b i).f0
    · have hb := refBytes (at_ a i).f1 (at_ b i).f1 (hd _ (mem_at (by omega)))
      by_cases hy : (at_ a i).f1 = (at_ b i).f1
      · refine hb.succ2 (ih (i + 1) (by omega)) (fun k h1 h2 => ?_)
        rw [slotmeshref33_Same.l0, if_pos (by omega), if_pos (by omega), if_pos (by omega), rd_at, rd_at, if_pos hz, h1]
        simp only [Option.bind_some]
        rw [if_pos (by simpa using hy), wrap_succ i (by omega), h2]
        simp [sameB, hz, hy]
      · refine hb.succ (fun k h1 => ?_)
        rw [slotmeshref33_Same.l0, if_pos (by omega), if_pos (by omega), if_pos (by omega), rd_at, rd_at, if_pos hz, h1]
        simp only [Option.bind_some]
        rw [if_neg (by simpa using hy)]
        simp [sameB, hy]
    · refine Ev.one (fun k => ?_)
      rw [slotmeshref33_Same.l0, if_pos (by omega), if_pos (by omega), if_pos (by omega), rd_at, rd_at, if_neg hz]
      simp [sameB, hz]
theorem refSame (a b : List S25) (hl : a.length < 9223372036854775808) (hd : ∀ x ∈ a, x.f1.length < 9223372036854775808) : Ev (fun k => slotmeshref33_Same.f k a b) (sameB a b) := by
  by_cases he : a.length = b.length
  · refine (same_l0 a b he hl hd a.length 0 (by omega)).map (fun k hk => ?_)
    rw [slotmeshref33_Same.f, if_pos (by omega)]
    exact hk
  · refine ⟨0, fun k _ => ?_⟩
    show slotmeshref33_Same.f k a b = _
    rw [slotmeshref33_Same.f, if_neg (by omega)]
    congr 1
    symm
    unfold sameB
    rw [beq_eq_false_iff_ne]
    intro h
    have := congrArg List.length h
    simp at this
    exact he this
theorem sameB_self (a : List S25) : sameB a a = true := by simp [sameB]
theorem few_l0 (l : List S25) (hl : l.length < 9223372036854775808) : ∀ n i, i + n = l.length → Ev (fun k => slotmeshref33_Few.l0 k l (i : Int)) ((l.drop i).all (fun x => decide (x.f1.length ≤ 100)) && decide (l.length ≤ 40)) := by
  intro n
  induction n with
  | zero =>
    intro i hi
    refine Ev.one (fun k => ?_)
    rw [slotmeshref33_Few.l0, if_neg (by omega), List.drop_of_length_le (by omega)]
    simp
    omega
  | succ n ih =>
    intro i hi
    rw [drop_at l i (by omega)]
    by_cases hz : (at_ l i).f1.length ≤ 100
    · refine (ih (i + 1) (by omega)).succ (fun k hk => ?_)
      rw [slotmeshref33_Few.l0, if_pos (by omega), if_pos (by omega), rd_at, if_neg (by omega), wrap_succ i (by omega), hk]
      simp [hz]
    · refine Ev.one (fun k => ?_)
      rw [slotmeshref33_Few.l0, if_pos (by omega), if_pos (by omega), rd_at, if_pos (by omega)]
      simp [hz]
def fewB (l : List S25) : Bool := l.all (fun x => decide (x.f1.length ≤ 100)) && decide (l.length ≤ 40)
theorem refFew (l : List S25) (hl : l.length < 9223372036854775808) : Ev (fun k => slotmeshref33_Few.f k l) (fewB l) := few_l0 l hl l.length 0 (by omega)
end Go.Proofs.Ytknlbeojdmeljaa.L
namespace Go.Proofs.Ytknlbeojdmeljaa.L
open Go.RowKit Go.Proofs.YtknlbeojdmeljaaW.PrintWords Go.Proofs.YtknlbeojdmeljaaW.PrintLast Go.Proofs.YtknlbeojdmeljaaW.PrintMore Go.Proofs.Ytknlbeojdmeljaa.P Go.Proofs.Ytknlbeojdmeljaa.H
set_option linter.unusedVariables false
set_option linter.unusedSimpArgs false
theorem Ev.bind {α β : Type} {f : Nat → Option α} {g : Nat → α → Option β} {r : α} {s : β} (h1 : Ev f r) (h2 : Ev (fun k => g k r) s) : Ev (fun k => (f k).bind (g k)) s := by
  obtain ⟨K1, h1⟩ := h1
  obtain ⟨K2, h2⟩ := h2
  exact ⟨K1 + K2, fun k hk => by show (f k).bind (g k) = some s; rw [h1 k (by omega)]; exact h2 k (by omega)⟩
theorem Ev.const {α : Type} (r : α) : Ev (fun _ => some r) r := ⟨0, fun _ _ => rfl⟩
theorem Ev.up {α : Type} {f g : Nat → Option α} {r : α} (h : Ev f r) (e : ∀ k, g (k + 1) = f k) : Ev g r := h.succ (fun k hk => (e k).trans hk)
theorem refSum (l : List S25) (hl : l.length < 9223372036854775808) (a : Int) : Ev (fun k => slotmeshref33_Sum.f k l a) (sumS l a) := by
  have hno : Ev (fun k => slotmeshref33_Sum.j0 k l a true) (([] : List Int), false) := Ev.one (fun k => by rw [slotmeshref33_Sum.j0, if_pos rfl])
  refine Ev.bind (f := fun k => slotmeshref33_Valid.f k l) (g := fun k t => if t = true then (if a < 0 then (slotmeshref33_Sum.j0 k l a true) else (slotmeshref33_Sum.j0 k l a (decide (a ≥ 65536)))) else (slotmeshref33_Sum.j0 k l a true)) (refValid' l hl) ?_
  cases hv : validS l
  · have : sumS l a = ([], false) := if_pos (.inr (.inr hv))
    rw [this]
    exact hno
  · show Ev (fun k => if a < 0 then slotmeshref33_Sum.j0 k l a true else slotmeshref33_Sum.j0 k l a (decide (a ≥ 65536))) _
    by_cases h1 : a < 0
    · have : sumS l a = ([], false) := if_pos (.inl h1)
      rw [this]
      simp only [if_pos h1]
      exact hno
    · simp only [if_neg h1]
      by_cases h2 : a ≥ 65536
      · have : sumS l a = ([], false) := if_pos (.inr (.inl h2))
        rw [this, decide_eq_true h2]
        exact hno
      · rw [decide_eq_false h2]
        obtain ⟨m, rfl⟩ := Int.eq_ofNat_of_zero_le (show 0 ≤ a by omega)
        have hs : sumS l (m : Int) = if (redS l (m, z16)).1 ≠ 0 then ([], false) else ((redS l (m, z16)).2, true) := by
          unfold sumS; rw [if_neg (by rw [hv]; simp; omega)]; rfl
        rw [hs]
        have hr := refReduce l hl hv m z16 (by omega) rfl
        have h3 : Ev (fun k => (slotmeshref33_reduce.f k l (m : Int) (List.replicate 16 0)).bind fun bt145 => (if bt145.1 = 0 then (some (bt145.2, true)) else (some (([] : List Int), false)))) (if (redS l (m, z16)).1 ≠ 0 then ([], false) else ((redS l (m, z16)).2, true)) := by
          refine Ev.bind hr ?_
          by_cases h0 : (redS l (m, z16)).1 = 0
          · refine ⟨0, fun k _ => ?_⟩
            show (if ((redS l (m, z16)).1 : Int) = 0 then _ else _) = _
            rw [if_pos (by omega), if_neg (fun h => h h0)]
          · refine ⟨0, fun k _ => ?_⟩
            show (if ((redS l (m, z16)).1 : Int) = 0 then _ else _) = _
            rw [if_neg (by omega), if_pos h0]
        refine h3.up (fun k => ?_)
        rw [slotmeshref33_Sum.j0, if_neg (by simp), if_pos (by omega)]
theorem shl16 : ∀ k : Nat, k < 16 → shl .i64 1 (IntKind.u64.wrap (k : Int)) = ((2 ^ k : Nat) : Int) ∧ 0 ≤ IntKind.u64.wrap (k : Int)
  | 0, _ | 1, _ | 2, _ | 3, _ | 4, _ | 5, _ | 6, _ | 7, _ | 8, _ | 9, _ | 10, _ | 11, _ | 12, _ | 13, _ | 14, _ | 15, _ => by decide
  | n + 16, h => absurd h (by omega)
theorem solved_l0 (l : List S25) (hl : l.length < 9223372036854775808) (hv : ∀ x ∈ l, fineB x.f0 x.f1 = true) (c : Nat) (hc : c < 16) : ∀ n i, i + n = l.length →
    Ev (fun k => slotmeshref33_Solved.l0 k (c : Int) l (i : Int)) (match (l.drop i).find? (fun x => x.f0.toNat == 2 ^ c) with | some x => (x.f1, true) | none => ([], false)) := by
  intro n
  induction n with
  | zero =>
    intro i hi
    refine Ev.one (fun k => ?_)
    rw [slotmeshref33_Solved.l0, if_neg (by omega), List.drop_of_length_le (by omega)]
    rfl
  | succ n ih =>
    intro i hi
    have hfi := fine_spec (hv _ (mem_at (show i < l.length by omega)))
    obtain ⟨h1, h2⟩ := shl16 c hc
    rw [drop_at l i (by omega), List.find?_cons]
    by_cases hz : (at_ l i).f0.toNat = 2 ^ c
    · refine Ev.one (fun k => ?_)
      rw [slotmeshref33_Solved.l0, if_pos (by omega), if_pos (by omega), if_pos h2, rd_at, h1, if_pos (by omega)]
      simp [hz]
    · refine (ih (i + 1) (by omega)).succ (fun k hk => ?_)
      rw [slotmeshref33_Solved.l0, if_pos (by omega), if_pos (by omega), if_pos h2, rd_at, h1, if_neg (by omega), wrap_succ i (by omega), hk]
      have : ((at_ l i).f0.toNat == 2 ^ c) = false := by rw [beq_eq_false_iff_ne]; exact hz
      rw [this]
theorem refSolved (l : List S25) (hl : l.length < 4398046511104) (a : Int) : Ev (fun k => slotmeshref33_Solved.f k l a) (solvedS l a) := by
  have hno : Ev (fun k => slotmeshref33_Solved.j0 k l a true) (([] : List Int), false) := Ev.one (fun k => by rw [slotmeshref33_Solved.j0, if_pos rfl])
  refine Ev.bind (f := fun k => slotmeshref33_Valid.f k l) (g := fun k t => if t = true then (if a < 0 then (slotmeshref33_Solved.j0 k l a true) else (slotmeshref33_Solved.j0 k l a (decide (a ≥ 16)))) else (slotmeshref33_Solved.j0 k l a true)) (refValid' l (by omega)) ?_
  cases hv : validS l
  · have : solvedS l a = ([], false) := if_pos (.inr (.inr hv))
    rw [this]
    exact hno
  · show Ev (fun k => if a < 0 then slotmeshref33_Solved.j0 k l a true else slotmeshref33_Solved.j0 k l a (decide (a ≥ 16))) _
    by_cases h1 : a < 0
    · have : solvedS l a = ([], false) := if_pos (.inl h1)
      rw [this]
      simp only [if_pos h1]
      exact hno
    · simp only [if_neg h1]
      by_cases h2 : a ≥ 16
      · have : solvedS l a = ([], false) := if_pos (.inr (.inl h2))
        rw [this, decide_eq_true h2]
        exact hno
      · rw [decide_eq_false h2]
        obtain ⟨c, rfl⟩ := Int.eq_ofNat_of_zero_le (show 0 ≤ a by omega)
        have hs : solvedS l (c : Int) = match l.find? (fun x => x.f0.toNat == 2 ^ c) with | some x => (x.f1, true) | none => ([], false) := by
          unfold solvedS; rw [if_neg (by rw [hv]; simp; omega)]; rfl
        rw [hs]
        have hvp := ((validS_iff l).1 hv).fine
        have h3 : Ev (fun k => (slotmeshref33_Copy.f k l).bind fun t136 => (slotmeshref33_Solved.l0 k (c : Int) t136 0)) (match l.find? (fun x => x.f0.toNat == 2 ^ c) with | some x => (x.f1, true) | none => ([], false)) :=
          Ev.bind (refCopy l hl (fun x hx => by have := fine_spec (hvp x hx); omega)) (solved_l0 l (by omega) hvp c (by omega) l.length 0 (by omega))
        refine h3.up (fun k => ?_)
        rw [slotmeshref33_Solved.j0, if_neg (by simp)]
end Go.Proofs.Ytknlbeojdmeljaa.L
namespace Go.Proofs.Ytknlbeojdmeljaa.L
open Go.RowKit Go.Proofs.YtknlbeojdmeljaaW.PrintWords Go.Proofs.YtknlbeojdmeljaaW.PrintLast Go.Proofs.YtknlbeojdmeljaaW.PrintMore Go.Proofs.Ytknlbeojdmeljaa.P Go.Proofs.Ytknlbeojdmeljaa.H
set_option linter.unusedVariables false
set_option linter.unusedSimpArgs false
def isB (a : Int) : Prop := 0 ≤ a ∧ a < 256
theorem xorB_nat (a b : Nat) (ha : a < 256) (hb : b < 256) : xorB (a : Int) (b : Int) = ((a ^^^ b : Nat) : Int) := by
  have hx : a ^^^ b < 2 ^ 8 := Nat.xor_lt_two_pow (by omega) (by omega)
  have h1 : (BitVec.ofInt 8 (a : Int)).toNat = a := by
    rw [BitVec.ofInt_natCast, BitVec.toNat_ofNat]; exact Nat.mod_eq_of_lt (by omega)
  have h2 : (BitVec.ofInt 8 (b : Int)).toNat = b := by
    rw [BitVec.ofInt_natCast, BitVec.toNat_ofNat]; exact Nat.mod_eq_of_lt (by omega)
  show IntKind.u8.wrap ((BitVec.ofInt 8 (a : Int) ^^^ BitVec.ofInt 8 (b : Int)).toNat : Int) = _
  rw [BitVec.toNat_xor, h1, h2]
  show (((a ^^^ b : Nat) : Int) % 256) = _
  omega
theorem isB_nat {a : Int} (h : isB a) : ∃ n : Nat, a = (n : Int) ∧ n < 256 := by
  obtain ⟨n, rfl⟩ := Int.eq_ofNat_of_zero_le h.1
  exact ⟨n, rfl, by have := h.2; omega⟩
theorem xorB_isB {a b : Int} (ha : isB a) (hb : isB b) : isB (xorB a b) := by
  obtain ⟨m, rfl, hm⟩ := isB_nat ha
  obtain ⟨n, rfl, hn⟩ := isB_nat hb
  rw [xorB_nat m n hm hn]
  have hx : m ^^^ n < 2 ^ 8 := Nat.xor_lt_two_pow (by omega) (by omega)
  exact ⟨by omega, by omega⟩
theorem xorB_comm {a b : Int} (ha : isB a) (hb : isB b) : xorB a b = xorB b a := by
  obtain ⟨m, rfl, hm⟩ := isB_nat ha
  obtain ⟨n, rfl, hn⟩ := isB_nat hb
  rw [xorB_nat m n hm hn, xorB_nat n m hn hm, Nat.xor_comm]
theorem xorB_assoc {a b c : Int} (ha : isB a) (hb : isB b) (hc : isB c) : xorB (xorB a b) c = xorB a (xorB b c) := by
  obtain ⟨m, rfl, hm⟩ := isB_nat ha
  obtain ⟨n, rfl, hn⟩ := isB_nat hb
  obtain ⟨k, rfl, hk⟩ := isB_nat hc
  have h1 : m ^^^ n < 2 ^ 8 := Nat.xor_lt_two_pow (by omega) (by omega)
  have h2 : n ^^^ k < 2 ^ 8 := Nat.xor_lt_two_pow (by omega) (by omega)
  rw [xorB_nat m n hm hn, xorB_nat n k hn hk, xorB_nat _ k (by omega) hk, xorB_nat m _ hm (by omega), Nat.xor_assoc]
theorem xorB_zero {a : Int} (ha : isB a) : xorB a 0 = a := by
  obtain ⟨m, rfl, hm⟩ := isB_nat ha
  have := xorB_nat m 0 hm (by omega)
  rw [Nat.xor_zero] at this
  exact this
structure GE (x : Nat × List Int) : Prop where
  m : x.1 < 65536
  len : x.2.length = 16
  rng : ∀ b ∈ x.2, isB b
def addE (x y : Nat × List Int) : Nat × List Int := (x.1 ^^^ y.1, xorD x.2 y.2)
def zeroE : Nat × List Int := (0, z16)
theorem zeroE_ge : GE zeroE := ⟨by decide, rfl, by intro b hb; have : b = 0 := List.eq_of_mem_replicate hb; subst this; exact ⟨by omega, by omega⟩⟩
theorem xorD_len {a b : List Int} (ha : a.length = 16) (hb : b.length = 16) : (xorD a b).length = 16 := by simp [xorD, List.length_zipWith, ha, hb]
theorem GE.at_ {x : Nat × List Int} (h : GE x) (i : Nat) (hi : i < x.2.length) : isB x.2[i] := h.rng _ (List.getElem_mem hi)
theorem GE.add {x y : Nat × List Int} (hx : GE x) (hy : GE y) : GE (addE x y) := by
  refine ⟨?_, xorD_len hx.len hy.len, ?_⟩
  · have := Nat.xor_lt_two_pow (n := 16) (x := x.1) (y := y.1) (by have := hx.m; omega) (by have := hy.m; omega)
    simpa [addE] using this
  · intro b hb
    obtain ⟨i, hi, rfl⟩ := List.getElem_of_mem hb
    simp only [addE, xorD, List.getElem_zipWith]
    have h1 := hx.len
    have h2 := hy.len
    have h3 : i < 16 := by simp only [addE] at hi; rw [xorD_len h1 h2] at hi; exact hi
    exact xorB_isB (hx.at_ i (by omega)) (hy.at_ i (by omega))
theorem pair_ext {x y : Nat × List Int} (h1 : x.1 = y.1) (h2 : x.2 = y.2) : x = y := Prod.ext h1 h2
theorem addE_comm {x y : Nat × List Int} (hx : GE x) (hy : GE y) : addE x y = addE y x := by
  refine pair_ext (Nat.xor_comm _ _) ?_
  have h1 := hx.len
  have h2 := hy.len
  refine List.ext_getElem (by simp [addE, xorD, List.length_zipWith, h1, h2]) (fun i hi hj => ?_)
  simp only [addE] at hi
  rw [xorD_len h1 h2] at hi
  simp only [addE, xorD, List.getElem_zipWith]
  exact xorB_comm (hx.at_ i (by omega)) (hy.at_ i (by omega))
theorem addE_assoc {x y z : Nat × List Int} (hx : GE x) (hy : GE y) (hz : GE z) : addE (addE x y) z = addE x (addE y z) := by
  refine pair_ext (Nat.xor_assoc _ _ _) ?_
  have h1 := hx.len
  have h2 := hy.len
  have h3 := hz.len
  refine List.ext_getElem (by simp [addE, xorD, List.length_zipWith, h1, h2, h3]) (fun i hi hj => ?_)
  simp only [addE] at hi
  rw [xorD_len (xorD_len h1 h2) h3] at hi
  simp only [addE, xorD, List.getElem_zipWith]
  exact xorB_assoc (hx.at_ i (by omega)) (hy.at_ i (by omega)) (hz.at_ i (by omega))
theorem addE_zero {x : Nat × List Int} (hx : GE x) : addE x zeroE = x := by
  refine pair_ext (Nat.xor_zero _) ?_
  have h1 := hx.len
  refine List.ext_getElem (by simp [addE, xorD, List.length_zipWith, h1, zeroE, z16]) (fun i hi hj => ?_)
  simp only [addE] at hi
  rw [xorD_len h1 rfl] at hi
  simp only [addE, xorD, List.getElem_zipWith, zeroE, z16, List.getElem_replicate]
  exact xorB_zero (hx.at_ i (by omega))
theorem zero_addE {x : Nat × List Int} (hx : GE x) : addE zeroE x = x := (addE_comm zeroE_ge hx).trans (addE_zero hx)
def rowv (r : S25) : Nat × List Int := (r.f0.toNat, r.f1)
/-- rows whose bytes are bytes -/
structure GR (l : List S25) : Prop where
  fine : ∀ x ∈ l, fineB x.f0 x.f1 = true
  rng : ∀ x ∈ l, ∀ b ∈ x.f1, isB b
theorem GR.row {l : List S25} (h : GR l) {r : S25} (hr : r ∈ l) : GE (rowv r) := by
  have := fine_spec (h.fine r hr)
  exact ⟨by show r.f0.toNat < 65536; omega, this.2.2, h.rng r hr⟩
theorem GR.lead {l : List S25} (h : GR l) {r : S25} (hr : r ∈ l) : ∃ j, j < 16 ∧ H.lead r.f0.toNat = 2 ^ j ∧ r.f0.toNat.testBit j = true := by
  have := fine_spec (h.fine r hr)
  obtain ⟨j, h1, h2, h3, h4⟩ := lead_spec r.f0.toNat (by omega) (by omega)
  exact ⟨j, h1, h2, top_bit h3 h4⟩
theorem GR.tail {l : List S25} {r : S25} (h : GR (r :: l)) : GR l := ⟨fun x hx => h.fine x (by simp [hx]), fun x hx => h.rng x (by simp [hx])⟩
theorem stepS_eq (x : Nat × List Int) (r : S25) {j : Nat} (hj : H.lead r.f0.toNat = 2 ^ j) : stepS x r = if x.1.testBit j = true then addE x (rowv r) else x := by
  unfold stepS
  rw [hj, and_two_pow]
  by_cases h : x.1.testBit j = true
  · rw [if_pos h, if_pos h, if_pos (by have := Nat.two_pow_pos j; omega)]
    rfl
  · rw [if_neg h, if_neg h, if_neg (by simp)]
theorem stepS_ge {x : Nat × List Int} {r : S25} (hx : GE x) (hr : GE (rowv r)) {j : Nat} (hj : H.lead r.f0.toNat = 2 ^ j) : GE (stepS x r) := by
  rw [stepS_eq x r hj]
  split
  · exact hx.add hr
  · exact hx
theorem redS_ge {l : List S25} (hl : GR l) : ∀ {x : Nat × List Int}, GE x → GE (redS l x) := by
  induction l with
  | nil => intro x hx; exact hx
  | cons r l ih =>
    intro x hx
    obtain ⟨j, _, hj, _⟩ := hl.lead (List.mem_cons_self)
    exact ih hl.tail (stepS_ge hx (hl.row List.mem_cons_self) hj)
end Go.Proofs.Ytknlbeojdmeljaa.L
namespace Go.Proofs.Ytknlbeojdmeljaa.R
open Go.ChangeShapes Go.WideShapes Go.ChangeAt Go.RowKit Go.Proofs.YtknlbeojdmeljaaW.PrintWords Go.Proofs.Ytknlbeojdmeljaa.P
open Go.Proofs.Ytknlbeojdmeljaa.L (isB)
set_option linter.unusedVariables false
theorem cell25 : Try.prog.cellsOf 25 = 2 := by kernel_rfl
theorem cell5 : Try.prog.cellsOf 5 = 1 := by kernel_rfl
theorem cell3 : Try.prog.cellsOf 3 = 1 := by kernel_rfl
theorem cell23 : Try.prog.cellsOf 23 = 1 := by kernel_rfl
theorem open_bytes {H : Type} {enc : TypeId × Value → H} {W : World} {n : Nat} {v : Value} {x : DataW H × List MemPlace} (h : DataW.trod enc Try.prog W 0 (fun _ => true) true n 23 [v] = some x) :
    ∃ (A : Option Addr) (c : Nat) (ds : List Int), v = .slice A ds.length c ∧ ds.length ≤ c ∧ Kd.C (Kd.int .u8) W A ds.length ds ∧ ∀ b ∈ ds, isB b := by
  rcases open_ints Try.underlying23 Try.underlying5 cell5 h with ⟨hcs, _⟩ | ⟨ad, l, c, zs, hcs, _, hl, hm, hz, _, hcell, hwz⟩
  · have : v = .slice none 0 0 := by simpa using hcs
    subst this
    exact ⟨none, 0, [], rfl, Nat.le_refl _, ⟨rfl, by simp, fun h => absurd h (by simp)⟩, by simp⟩
  · have hv : v = .slice (some ad) l c := by simpa using hcs
    subst hv
    have hz' : zs.length = c := by simpa using hz
    have htl : (zs.take l).length = l := by rw [List.length_take]; omega
    refine ⟨some ad, c, zs.take l, by rw [htl], by omega, ⟨rfl, by rw [htl]; have : c ≤ maxLen := hm; unfold maxLen at this; omega, fun _ => ⟨ad, rfl, fun j p hj => ⟨[.int .u8 p], rfl, ?_, fun i u hu => ?_⟩⟩⟩, fun b hb => ?_⟩
    · rfl
    · match i, hu with
      | 0, hu =>
        simp at hu
        subst hu
        rw [List.getElem?_take] at hj
        split at hj
        · rename_i hjl
          have h2 := hcell j (by omega)
          rw [List.getD_eq_getElem?_getD, hj] at h2
          have e : (Kd.int .u8).sz = 1 := rfl
          rw [e, Nat.mul_one]
          exact h2
        · cases hj
    · have := hwz b (List.mem_of_mem_take hb)
      have h3 : (Lit.int .u8 b).wf = true := this
      simp only [Lit.wf, Bool.and_eq_true, decide_eq_true_eq] at h3
      have e1 : IntKind.u8.min = 0 := rfl
      have e2 : IntKind.u8.max = 255 := rfl
      rw [e1, e2] at h3
      exact ⟨h3.1, by omega⟩
instance : Inhabited S25 := ⟨z25⟩
theorem open_rows {H : Type} {enc : TypeId × Value → H} {W : World} {a : Option Addr} {len cap : Nat} {d : DataW H} {p : List MemPlace} (h : DataW.Trod enc Try.prog W 0 (fun _ => true) true 22 (.slice a len cap) d p) :
    ∃ zs : List S25, zs.length = len ∧ Kd.C k25 W a zs.length zs ∧ zs.length ≤ cap ∧ zs.length < 9223372036854775808 ∧ ∀ x ∈ zs, ∀ b ∈ x.f1, isB b := by
  obtain ⟨fuel, hf⟩ := h
  rcases Deep.open_slice_pairs Try.underlying22 Try.underlying25 cell25 rfl rfl cell3 cell23 hf with ⟨hcs, _⟩ | ⟨ad, l, c, m, n, V0, V1, D0, D1, P0, P1, hcs, _, hl, hm, hmm, _, hat⟩
  · simp [Value.cells] at hcs
    obtain ⟨rfl, rfl, rfl⟩ := hcs
    exact ⟨[], rfl, ⟨rfl, by simp, fun h => absurd h (by simp)⟩, Nat.le_refl _, by simp, by simp⟩
  · simp [Value.cells] at hcs
    obtain ⟨rfl, rfl, rfl⟩ := hcs
    have hlm : len ≤ m := by rw [hmm]; split <;> omega
    have each : ∀ i, i < len → ∃ x : S25, ∃ A1 c1, W.cell? (ad.add (i * 2)) = some (.int .i64 x.f0) ∧ W.cell? (ad.add (i * 2 + 1)) = some (.slice A1 x.f1.length c1) ∧ x.f1.length ≤ c1 ∧ Kd.C (Kd.int .u8) W A1 x.f1.length x.f1 ∧ ∀ b ∈ x.f1, isB b := by
      intro i hi
      obtain ⟨h0, h1, h2, h3⟩ := hat i (by omega)
      obtain ⟨z, hz, _, _⟩ := DataW.trod_int Try.underlying3 h2
      obtain ⟨A1, c1, ds, hv, hl1, hC, hB⟩ := open_bytes h3
      have hz' : V0 i = .int .i64 z := by simpa using hz
      exact ⟨⟨z, ds⟩, A1, c1, by rw [h0, hz'], by rw [h1, hv], hl1, hC, hB⟩
    obtain ⟨f, hf2⟩ := Deep.choose_lt each
    have hsz : k25.sz = 2 := rfl
    have hcap : cap ≤ 9223372036854775807 := hm
    refine ⟨(List.range len).map f, by simp, ⟨rfl, by simp; omega, fun _ => ⟨ad, rfl, fun j q hj => ?_⟩⟩, by simpa using hl, ?_, ?_⟩
    · rw [List.getElem?_map] at hj
      obtain ⟨i, hi, rfl⟩ := Option.map_eq_some_iff.1 hj
      have hij : i = j ∧ j < len := by
        rcases Nat.lt_or_ge j len with h | h
        · rw [List.getElem?_range h] at hi
          injection hi with hi
          exact ⟨hi.symm, h⟩
        · rw [List.getElem?_eq_none (by simpa using h)] at hi; cases hi
      obtain ⟨rfl, hlt⟩ := hij
      obtain ⟨A1, c1, g0, g1, g2, g3, g4⟩ := hf2 i hlt
      refine ⟨[.int .i64 (f i).f0, .slice A1 (f i).f1.length c1], rfl, k25_mk W (f i) g2 g3, fun k u hu => ?_⟩
      rw [hsz]
      match k, hu with
      | 0, hu => simp at hu; subst hu; exact g0
      | 1, hu => simp at hu; subst hu; exact g1
    · simp only [List.length_map, List.length_range]; omega
    · intro x hx
      obtain ⟨i, hi, rfl⟩ := List.mem_map.1 hx
      obtain ⟨A1, c1, g0, g1, g2, g3, g4⟩ := hf2 i (List.mem_range.1 hi)
      exact g4
end Go.Proofs.Ytknlbeojdmeljaa.R
namespace Go.Proofs.Ytknlbeojdmeljaa.R
open Go.ChangeShapes Go.WideShapes Go.ChangeAt Go.RowKit Go.Proofs.YtknlbeojdmeljaaW.PrintWords Go.Proofs.Ytknlbeojdmeljaa.P
open Go.Proofs.Ytknlbeojdmeljaa.L (isB)
set_option linter.unusedVariables false
theorem open_row {H : Type} {enc : TypeId × Value → H} {W : World} {b0 : Nat} {v : Value} {d : DataW H} {p : List MemPlace} (hval : Value.okWide Try.prog W .any b0 25 v) (h : DataW.Trod enc Try.prog W 0 (fun _ => true) true 25 v d p) :
    ∃ (m : Int) (A : Option Addr) (cap : Nat) (zs : List Int), v = .agg #[.int .i64 m, .slice A zs.length cap] ∧ zs.length ≤ cap ∧ Kd.C (Kd.int .u8) W A zs.length zs ∧ ∀ b ∈ zs, isB b := by
  obtain ⟨cs, rfl, hsz⟩ := okWide_struct Try.underlying25 hval
  rw [cell25] at hsz
  obtain ⟨fuel, hf⟩ := h
  obtain ⟨xs, k, hk, hxy, _, hxl, hfs⟩ := DataW.trod_struct Try.underlying25 hf
  obtain ⟨l⟩ := cs
  match l, hsz, hf, hfs with
  | [v0, v1], _, hf, hfs =>
    match xs, hxl, hfs with
    | [y0, y1], _, hfs =>
      have g0 := hfs 0 _ rfl
      have g1 := hfs 1 _ rfl
      simp [Value.cells, cell3, cell23] at g0 g1
      obtain ⟨z, hz, _, _⟩ := DataW.trod_int Try.underlying3 g0
      obtain ⟨A, c, ds, hv, hl, hC, hB⟩ := open_bytes g1
      have hz' : v0 = .int .i64 z := by simpa using hz
      subst hz' hv
      exact ⟨z, A, c, ds, rfl, hl, hC, hB⟩
end Go.Proofs.Ytknlbeojdmeljaa.R
namespace Go.Proofs.Ytknlbeojdmeljaa.H
open Go.RowKit Go.Proofs.YtknlbeojdmeljaaW.PrintWords Go.Proofs.YtknlbeojdmeljaaW.PrintLast Go.Proofs.YtknlbeojdmeljaaW.PrintMore Go.Proofs.Ytknlbeojdmeljaa.P
set_option linter.unusedVariables false
set_option linter.unusedSimpArgs false
def rp (x : Int) : List Int := [x, x, x, x, x, x, x, x, x, x, x, x, x, x, x, x]
theorem block_f (x : Int) : slotmeshlaw33_block.f 40 x = some (rp x) := by kernel_rfl
theorem row_f (m x : Int) : slotmeshlaw33_row.f 40 m x = some (m, rp x) := by kernel_rfl
/-- What is held of rows and blocks, in one bundle. -/
def Hold (w0 w : World) (ls : List (Option Addr × Nat × List S25)) (bs : List (Option Addr × Nat × List Int)) : Prop :=
  Below w0.heap.size w0 w ∧ (∀ p ∈ ls, Kd.C k25 w p.1 p.2.1 p.2.2) ∧ (∀ p ∈ bs, Kd.C (Kd.int .u8) w p.1 p.2.1 p.2.2)
theorem Hold.below {w0 w u : World} {ls : List (Option Addr × Nat × List S25)} {bs : List (Option Addr × Nat × List Int)} (h : Hold w0 w ls bs) (hb : Below w.heap.size w u) : Hold w0 u ls bs :=
  ⟨h.1.trans (hb.mono h.1.size), fun p hp => Kd.C_below (h.2.1 p hp) hb, fun p hp => Kd.C_below (h.2.2 p hp) hb⟩
theorem Hold.addl {w0 w : World} {ls : List (Option Addr × Nat × List S25)} {bs : List (Option Addr × Nat × List Int)} (h : Hold w0 w ls bs) {A : Option Addr} {n : Nat} {xs : List S25} (hc : Kd.C k25 w A n xs) : Hold w0 w ((A, n, xs) :: ls) bs :=
  ⟨h.1, fun p hp => by rcases List.mem_cons.1 hp with rfl | hp; exact hc; exact h.2.1 p hp, h.2.2⟩
theorem Hold.addb {w0 w : World} {ls : List (Option Addr × Nat × List S25)} {bs : List (Option Addr × Nat × List Int)} (h : Hold w0 w ls bs) {A : Option Addr} {n : Nat} {xs : List Int} (hc : Kd.C (Kd.int .u8) w A n xs) : Hold w0 w ls ((A, n, xs) :: bs) :=
  ⟨h.1, h.2.1, fun p hp => by rcases List.mem_cons.1 hp with rfl | hp; exact hc; exact h.2.2 p hp⟩
theorem row_h {w0 w : World} {ls : List (Option Addr × Nat × List S25)} {bs : List (Option Addr × Nat × List Int)} (m x : Int) (h : Hold w0 w ls bs) :
    Calls Try.prog 26 #[.int .i64 m, .int .u8 x] w fun e u => ∃ A c, e = .returned (.agg #[.int .i64 m, .slice A 16 c]) ∧ 16 ≤ c ∧ Hold w0 u ls ((A, 16, rp x) :: bs) := by
  refine (slotmeshlaw33_row.calls 40 m x m (rp x) w (row_f m x)).mono ?_
  rintro e u ⟨v, rfl, hR, hb⟩
  obtain ⟨A, c, rfl⟩ := Kd.R_slice hR
  obtain ⟨_, hl, hc⟩ := Kd.R_reads' hR
  exact ⟨A, c, rfl, hl, (h.below hb).addb hc⟩
theorem block_h {w0 w : World} {ls : List (Option Addr × Nat × List S25)} {bs : List (Option Addr × Nat × List Int)} (x : Int) (h : Hold w0 w ls bs) :
    Calls Try.prog 27 #[.int .u8 x] w fun e u => ∃ A c, e = .returned (.slice A 16 c) ∧ 16 ≤ c ∧ Hold w0 u ls ((A, 16, rp x) :: bs) := by
  refine (slotmeshlaw33_block.calls 40 x (rp x) w (block_f x)).mono ?_
  rintro e u ⟨v, rfl, hR, hb⟩
  obtain ⟨A, c, rfl⟩ := Kd.R_slice hR
  obtain ⟨_, hl, hc⟩ := Kd.R_reads' hR
  exact ⟨A, c, rfl, hl, (h.below hb).addb hc⟩
theorem add_h {w0 w : World} {ls : List (Option Addr × Nat × List S25)} {bs : List (Option Addr × Nat × List Int)} (h : Hold w0 w ls bs) {A A1 : Option Addr} {cap c1 n n1 : Nat} (xs : List S25) (m : Int) (d : List Int) (ys : List S25) (b : Bool) (er : Int) (k : Nat)
    (hA : (A, n, xs) ∈ ls) (hB : (A1, n1, d) ∈ bs) (hn : n = xs.length) (hn1 : n1 = d.length) (hl : xs.length ≤ 1000000) (hr : addS xs m d = (ys, b, er)) (hk : ys.length = k) :
    Calls Try.prog 12 #[.slice A n cap, .agg #[.int .i64 m, .slice A1 n1 c1]] w fun e u => ∃ A' c', e = .returned (.tuple #[.slice A' k c', .bool b, .int .i64 er]) ∧ k ≤ c' ∧ Hold w0 u ((A', k, ys) :: ls) bs := by
  subst hn hn1 hk
  have hc := add_calls A cap xs m A1 c1 d w (h.2.1 _ hA) (h.2.2 _ hB) hl
  rw [hr] at hc
  refine hc.mono ?_
  rintro e u ⟨v, rfl, hS, hb⟩
  obtain ⟨A', c', rfl⟩ := Kd.R_slice (Kd.S_R hS)
  obtain ⟨_, hl', hc⟩ := Kd.R_reads' (Kd.S_R hS)
  exact ⟨A', c', rfl, hl', (h.below hb).addl hc⟩
theorem solved_h {w0 w : World} {ls : List (Option Addr × Nat × List S25)} {bs : List (Option Addr × Nat × List Int)} (h : Hold w0 w ls bs) {A : Option Addr} {cap n : Nat} (xs : List S25) (i : Int) (ys : List Int) (b : Bool) (k : Nat)
    (hA : (A, n, xs) ∈ ls) (hn : n = xs.length) (hr : solvedS xs i = (ys, b)) (hk : ys.length = k) :
    Calls Try.prog 14 #[.slice A n cap, .int .i64 i] w fun e u => ∃ A' c', e = .returned (.tuple #[.slice A' k c', .bool b]) ∧ k ≤ c' ∧ Hold w0 u ls ((A', k, ys) :: bs) := by
  subst hn hk
  have hc := solved_calls A cap xs i w (h.2.1 _ hA)
  rw [hr] at hc
  refine hc.mono ?_
  rintro e u ⟨v, rfl, hR, hb⟩
  obtain ⟨A', c', rfl⟩ := Kd.R_slice hR
  obtain ⟨_, hl', hc⟩ := Kd.R_reads' hR
  exact ⟨A', c', rfl, hl', (h.below hb).addb hc⟩
theorem sum_h {w0 w : World} {ls : List (Option Addr × Nat × List S25)} {bs : List (Option Addr × Nat × List Int)} (h : Hold w0 w ls bs) {A : Option Addr} {cap n : Nat} (xs : List S25) (i : Int) (ys : List Int) (b : Bool) (k : Nat)
    (hA : (A, n, xs) ∈ ls) (hn : n = xs.length) (hr : sumS xs i = (ys, b)) (hk : ys.length = k) :
    Calls Try.prog 16 #[.slice A n cap, .int .i64 i] w fun e u => ∃ A' c', e = .returned (.tuple #[.slice A' k c', .bool b]) ∧ k ≤ c' ∧ Hold w0 u ls ((A', k, ys) :: bs) := by
  subst hn hk
  have hc := sum_calls A cap xs i w (h.2.1 _ hA)
  rw [hr] at hc
  refine hc.mono ?_
  rintro e u ⟨v, rfl, hV, hb⟩
  obtain ⟨A', c', rfl⟩ := Kd.V_slice hV
  obtain ⟨_, hl', hc⟩ := Kd.V_reads' hV
  exact ⟨A', c', rfl, hl', (h.below hb).addb hc⟩
theorem valid_h {w0 w : World} {ls : List (Option Addr × Nat × List S25)} {bs : List (Option Addr × Nat × List Int)} (h : Hold w0 w ls bs) {A : Option Addr} {cap n : Nat} (xs : List S25) (r : Bool)
    (hA : (A, n, xs) ∈ ls) (hn : n = xs.length) (hr : validS xs = r) :
    Calls Try.prog 20 #[.slice A n cap] w fun e u => e = .returned (.bool r) ∧ Hold w0 u ls bs := by
  subst hn hr
  refine (valid_calls A cap xs w (h.2.1 _ hA)).mono ?_
  rintro e u ⟨rfl, hb⟩
  exact ⟨rfl, h.below hb⟩
theorem bytes_h {w0 w : World} {ls : List (Option Addr × Nat × List S25)} {bs : List (Option Addr × Nat × List Int)} (h : Hold w0 w ls bs) {A A1 : Option Addr} {c c1 n n1 : Nat} (xs ys : List Int) (r : Bool)
    (hA : (A, n, xs) ∈ bs) (hB : (A1, n1, ys) ∈ bs) (hn : n = xs.length) (hn1 : n1 = ys.length) (hc : n ≤ c) (hc1 : n1 ≤ c1) (hr : slotmeshref33_Bytes.f 60 xs ys = some r) :
    Calls Try.prog 19 #[.slice A n c, .slice A1 n1 c1] w fun e u => e = .returned (.bool r) ∧ Hold w0 u ls bs := by
  subst hn hn1
  refine (slotmeshref33_Bytes.calls 60 A c xs A1 c1 ys r w (h.2.2 _ hA) hc (h.2.2 _ hB) hc1 hr).mono ?_
  rintro e u ⟨rfl, hb⟩
  exact ⟨rfl, h.below (hb.below)⟩
theorem same_h {w0 w : World} {ls : List (Option Addr × Nat × List S25)} {bs : List (Option Addr × Nat × List Int)} (h : Hold w0 w ls bs) {A A1 : Option Addr} {c c1 n n1 : Nat} (xs ys : List S25) (r : Bool)
    (hA : (A, n, xs) ∈ ls) (hB : (A1, n1, ys) ∈ ls) (hn : n = xs.length) (hn1 : n1 = ys.length) (hc : n ≤ c) (hc1 : n1 ≤ c1) (hr : slotmeshref33_Same.f 60 xs ys = some r) :
    Calls Try.prog 18 #[.slice A n c, .slice A1 n1 c1] w fun e u => e = .returned (.bool r) ∧ Hold w0 u ls bs := by
  subst hn hn1
  refine (slotmeshref33_Same.calls 60 A c xs A1 c1 ys r w (h.2.1 _ hA) hc (h.2.1 _ hB) hc1 hr).mono ?_
  rintro e u ⟨rfl, hb⟩
  exact ⟨rfl, h.below (hb.below)⟩
def flat (items : List (S25 × Option Addr × Nat)) : List Value := items.flatMap (fun p => [.int .i64 p.1.f0, .slice p.2.1 p.1.f1.length p.2.2])
theorem flat_at : ∀ (items : List (S25 × Option Addr × Nat)) (j : Nat) (p : S25 × Option Addr × Nat), items[j]? = some p → (flat items)[j * 2]? = some (.int .i64 p.1.f0) ∧ (flat items)[j * 2 + 1]? = some (.slice p.2.1 p.1.f1.length p.2.2)
  | [], j, p, h => by simp at h
  | q :: items, 0, p, h => by simp at h; subst h; simp [flat]
  | q :: items, j + 1, p, h => by
    have := flat_at items j p (by simpa using h)
    rw [show (j + 1) * 2 = j * 2 + 1 + 1 by omega]
    simpa [flat] using this
theorem lit_C {w : World} {g : Nat} (items : List (S25 × Option Addr × Nat)) (hn : items.length ≤ 1000) (hb : w.heap[g]? = some (.cells (flat items).toArray 25 (0, 0)))
    (hC : ∀ p ∈ items, p.1.f1.length ≤ p.2.2 ∧ Kd.C (Kd.int .u8) w p.2.1 p.1.f1.length p.1.f1) : Kd.C k25 w (some ⟨g, 0, none⟩) items.length (items.map (·.1)) := by
  refine ⟨by simp, by omega, fun _ => ⟨⟨g, 0, none⟩, rfl, fun j p hj => ?_⟩⟩
  rw [List.getElem?_map] at hj
  obtain ⟨q, hq, rfl⟩ := Option.map_eq_some_iff.1 hj
  obtain ⟨h1, h2⟩ := hC q (List.mem_of_getElem? hq)
  obtain ⟨f1, f2⟩ := flat_at items j q hq
  refine ⟨[.int .i64 q.1.f0, .slice q.2.1 q.1.f1.length q.2.2], rfl, k25_mk w q.1 h1 h2, fun i u hu => ?_⟩
  have hsz : k25.sz = 2 := rfl
  rw [hsz]
  have hcell := blk_cell hb (j * 2 + i)
  match i, hu with
  | 0, hu =>
    simp at hu; subst hu
    rw [add_at, Nat.zero_add]
    exact hcell.trans (by simpa using f1)
  | 1, hu =>
    simp at hu; subst hu
    rw [add_at, Nat.zero_add]
    exact hcell.trans (by simpa using f2)
def L1 : List S25 := [⟨3, rp 3⟩]
def L2 : List S25 := [⟨5, rp 5⟩, ⟨3, rp 3⟩]
def LM : List S25 := [⟨4, rp 4⟩, ⟨2, rp 2⟩, ⟨1, rp 1⟩]
def LX : List S25 := [⟨6, rp 6⟩, ⟨3, rp 3⟩, ⟨2, rp 2⟩]
theorem e1 : addS [] 3 (rp 3) = (L1, true, 0) := by kernel_rfl
theorem e2 : addS L1 6 (rp 6) = (L2, true, 0) := by kernel_rfl
theorem e3 : solvedS L2 0 = ([], false) := by kernel_rfl
theorem e4 : sumS L2 5 = (rp 5, true) := by kernel_rfl
theorem e5 : addS L2 2 (rp 2) = (LM, true, 0) := by kernel_rfl
theorem e6 : addS LM 5 (rp 5) = (LM, false, 0) := by kernel_rfl
theorem e7 : addS LM 5 (rp 4) = ([], false, 12) := by kernel_rfl
theorem e8 : addS LM 1 [] = ([], false, 1) := by kernel_rfl
theorem e9 : solvedS LM 0 = (rp 1, true) := by kernel_rfl
theorem e10 : validS LM = true := by kernel_rfl
theorem e11 : validS LX = false := by kernel_rfl
theorem e12 : slotmeshref33_Bytes.f 60 (rp 5) (rp 5) = some true := by kernel_rfl
theorem e15 : slotmeshref33_Bytes.f 60 (rp 1) (rp 1) = some true := by kernel_rfl
theorem e13 : slotmeshref33_Same.f 60 L2 L2 = some true := by kernel_rfl
theorem e14 : slotmeshref33_Same.f 60 LM LM = some true := by kernel_rfl
theorem C_nil8 (w : World) : Kd.C (Kd.int .u8) w none 0 [] := (Kd.R_reads' (Kd.R_nil (Kd.int .u8) 5 w 0 (fun _ => True))).2.2
theorem C_nil25 (w : World) : Kd.C k25 w none 0 [] := (Kd.R_reads' (Kd.R_nil k25 25 w 0 (fun _ => True))).2.2
theorem Hold.lit {w0 w : World} {ls : List (Option Addr × Nat × List S25)} {bs : List (Option Addr × Nat × List Int)} (h : Hold w0 w ls bs) (items : List (S25 × Option Addr × Nat)) (hn : items.length ≤ 1000)
    (hC : ∀ p ∈ items, p.1.f1.length ≤ p.2.2 ∧ (p.2.1, p.1.f1.length, p.1.f1) ∈ bs) : Hold w0 (w.alloc (.cells (flat items).toArray 25)) ((some ⟨w.heap.size, 0, none⟩, items.length, items.map (·.1)) :: ls) bs := by
  have hb : Below w.heap.size w (w.alloc (.cells (flat items).toArray 25)) := (Below.refl _ _).alloc (Nat.le_refl _) _
  exact (h.below hb).addl (lit_C items hn (blk_new rfl) (fun p hp => ⟨(hC p hp).1, (h.below hb).2.2 _ (hC p hp).2⟩))
theorem same_lit2 {w0 w : World} {ls : List (Option Addr × Nat × List S25)} {bs : List (Option Addr × Nat × List Int)} (h : Hold w0 w ls bs) {A A1 A2 : Option Addr} {c c1 c2 n : Nat} (xs : List S25) (m1 m2 : Int) (d1 d2 : List Int)
    (hA : (A, n, xs) ∈ ls) (hB1 : (A1, 16, d1) ∈ bs) (hB2 : (A2, 16, d2) ∈ bs) (hn : n = xs.length) (h1 : d1.length = 16) (h2 : d2.length = 16) (hc : n ≤ c) (hc1 : 16 ≤ c1) (hc2 : 16 ≤ c2) (hr : slotmeshref33_Same.f 60 xs [⟨m1, d1⟩, ⟨m2, d2⟩] = some true) :
    Calls Try.prog 18 #[.slice A n c, .slice (some ⟨w.heap.size, 0, none⟩) 2 2] (w.alloc (.cells #[.int .i64 m1, .slice A1 16 c1, .int .i64 m2, .slice A2 16 c2] 25)) fun e u => e = .returned (.bool true) ∧ ∃ ls', Hold w0 u (ls' ++ ls) bs := by
  have hl := h.lit [(⟨m1, d1⟩, A1, c1), (⟨m2, d2⟩, A2, c2)] (by simp) (by intro p hp; simp at hp; rcases hp with rfl | rfl; exact ⟨by simp only; omega, by simp only [h1]; exact hB1⟩; exact ⟨by simp only; omega, by simp only [h2]; exact hB2⟩)
  simp only [flat, List.flatMap_cons, List.flatMap_nil, List.append_nil, List.cons_append, List.nil_append, h1, h2] at hl
  refine (same_h (n := n) (n1 := 2) hl xs [⟨m1, d1⟩, ⟨m2, d2⟩] true (List.mem_cons_of_mem _ hA) (by simp) hn rfl hc (Nat.le_refl _) hr).mono ?_
  rintro e u ⟨rfl, hh⟩
  exact ⟨rfl, [_], hh⟩
theorem same_lit3 {w0 w : World} {ls : List (Option Addr × Nat × List S25)} {bs : List (Option Addr × Nat × List Int)} (h : Hold w0 w ls bs) {A A1 A2 A3 : Option Addr} {c c1 c2 c3 n : Nat} (xs : List S25) (m1 m2 m3 : Int) (d1 d2 d3 : List Int)
    (hA : (A, n, xs) ∈ ls) (hB1 : (A1, 16, d1) ∈ bs) (hB2 : (A2, 16, d2) ∈ bs) (hB3 : (A3, 16, d3) ∈ bs) (hn : n = xs.length) (h1 : d1.length = 16) (h2 : d2.length = 16) (h3 : d3.length = 16) (hc : n ≤ c) (hc1 : 16 ≤ c1) (hc2 : 16 ≤ c2) (hc3 : 16 ≤ c3) (hr : slotmeshref33_Same.f 60 xs [⟨m1, d1⟩, ⟨m2, d2⟩, ⟨m3, d3⟩] = some true) :
    Calls Try.prog 18 #[.slice A n c, .slice (some ⟨w.heap.size, 0, none⟩) 3 3] (w.alloc (.cells #[.int .i64 m1, .slice A1 16 c1, .int .i64 m2, .slice A2 16 c2, .int .i64 m3, .slice A3 16 c3] 25)) fun e u => e = .returned (.bool true) ∧ ∃ ls', Hold w0 u (ls' ++ ls) bs := by
  have hl := h.lit [(⟨m1, d1⟩, A1, c1), (⟨m2, d2⟩, A2, c2), (⟨m3, d3⟩, A3, c3)] (by simp) (by intro p hp; simp at hp; rcases hp with rfl | rfl | rfl; exact ⟨by simp only; omega, by simp only [h1]; exact hB1⟩; exact ⟨by simp only; omega, by simp only [h2]; exact hB2⟩; exact ⟨by simp only; omega, by simp only [h3]; exact hB3⟩)
  simp only [flat, List.flatMap_cons, List.flatMap_nil, List.append_nil, List.cons_append, List.nil_append, h1, h2, h3] at hl
  refine (same_h (n := n) (n1 := 3) hl xs [⟨m1, d1⟩, ⟨m2, d2⟩, ⟨m3, d3⟩] true (List.mem_cons_of_mem _ hA) (by simp) hn rfl hc (Nat.le_refl _) hr).mono ?_
  rintro e u ⟨rfl, hh⟩
  exact ⟨rfl, [_], hh⟩
theorem valid_lit3 {w0 w : World} {ls : List (Option Addr × Nat × List S25)} {bs : List (Option Addr × Nat × List Int)} (h : Hold w0 w ls bs) {A1 A2 A3 : Option Addr} {c1 c2 c3 : Nat} (m1 m2 m3 : Int) (d1 d2 d3 : List Int) (r : Bool)
    (hB1 : (A1, 16, d1) ∈ bs) (hB2 : (A2, 16, d2) ∈ bs) (hB3 : (A3, 16, d3) ∈ bs) (h1 : d1.length = 16) (h2 : d2.length = 16) (h3 : d3.length = 16) (hc1 : 16 ≤ c1) (hc2 : 16 ≤ c2) (hc3 : 16 ≤ c3) (hr : validS [⟨m1, d1⟩, ⟨m2, d2⟩, ⟨m3, d3⟩] = r) :
    Calls Try.prog 20 #[.slice (some ⟨w.heap.size, 0, none⟩) 3 3] (w.alloc (.cells #[.int .i64 m1, .slice A1 16 c1, .int .i64 m2, .slice A2 16 c2, .int .i64 m3, .slice A3 16 c3] 25)) fun e u => e = .returned (.bool r) ∧ ∃ ls', Hold w0 u (ls' ++ ls) bs := by
  have hl := h.lit [(⟨m1, d1⟩, A1, c1), (⟨m2, d2⟩, A2, c2), (⟨m3, d3⟩, A3, c3)] (by simp) (by intro p hp; simp at hp; rcases hp with rfl | rfl | rfl; exact ⟨by simp only; omega, by simp only [h1]; exact hB1⟩; exact ⟨by simp only; omega, by simp only [h2]; exact hB2⟩; exact ⟨by simp only; omega, by simp only [h3]; exact hB3⟩)
  simp only [flat, List.flatMap_cons, List.flatMap_nil, List.append_nil, List.cons_append, List.nil_append, h1, h2, h3] at hl
  refine (valid_h (n := 3) hl [⟨m1, d1⟩, ⟨m2, d2⟩, ⟨m3, d3⟩] r (by simp) rfl hr).mono ?_
  rintro e u ⟨rfl, hh⟩
  exact ⟨rfl, [_], hh⟩
set_option maxRecDepth 100000 in
set_option maxHeartbeats 4000000 in
theorem head_calls (w : World) : Calls Try.prog 10 #[] w fun e w' => e = .returned (.bool true) ∧ Below w.heap.size w w' := by
  have HH := Lib.hid (show Hold w w [(none, 0, [])] [(none, 0, [])] from ⟨Below.refl _ _, by intro p hp; rw [List.mem_singleton.1 hp]; exact C_nil25 w, by intro p hp; rw [List.mem_singleton.1 hp]; exact C_nil8 w⟩)
  go_enter Try.func10, Try.ntmps10
  go_wp2_with (first
    | (go_at_call 26; refine (row_h _ _ HH.out).mono ?_; rintro e u ⟨A', c', rfl, hc', hh⟩; clear HH; have HH := Lib.hid hh; clear hh)
    | (go_at_call 27; refine (block_h _ HH.out).mono ?_; rintro e u ⟨A', c', rfl, hc', hh⟩; clear HH; have HH := Lib.hid hh; clear hh)
    | (go_at_call 20; have := M14; clear this; refine (valid_lit3 HH.out 6 3 2 (rp 6) (rp 3) (rp 2) false (by simp) (by simp) (by simp) rfl rfl rfl (by omega) (by omega) (by omega) e11).mono ?_; rintro e u ⟨rfl, ls', hh⟩; clear HH; have HH := Lib.hid hh; clear hh; have M15 : True := trivial)
    | (go_at_call 20; have := M13; clear this; refine (valid_h (n := 3) HH.out LM true (by simp) rfl e10).mono ?_; rintro e u ⟨rfl, hh⟩; clear HH; have HH := Lib.hid hh; clear hh; have M14 : True := trivial)
    | (go_at_call 18; have := M12; clear this; refine (same_lit3 (n := 3) HH.out LM 4 2 1 (rp 4) (rp 2) (rp 1) (by simp) (by simp) (by simp) (by simp) rfl rfl rfl rfl (by omega) (by omega) (by omega) (by omega) e14).mono ?_; rintro e u ⟨rfl, ls', hh⟩; clear HH; have HH := Lib.hid hh; clear hh; have M13 : True := trivial)
    | (go_at_call 18; have := M11; clear this; refine (same_lit2 (n := 2) HH.out L2 5 3 (rp 5) (rp 3) (by simp) (by simp) (by simp) rfl rfl rfl (by omega) (by omega) (by omega) e13).mono ?_; rintro e u ⟨rfl, ls', hh⟩; clear HH; have HH := Lib.hid hh; clear hh; have M12 : True := trivial)
    | (go_at_call 19; have := M10; clear this; refine (bytes_h (n := 16) (n1 := 16) HH.out (rp 1) (rp 1) true (by simp) (by simp) rfl rfl (by omega) (by omega) e15).mono ?_; rintro e u ⟨rfl, hh⟩; clear HH; have HH := Lib.hid hh; clear hh; have M11 : True := trivial)
    | (go_at_call 19; have := M9; clear this; refine (bytes_h (n := 16) (n1 := 16) HH.out (rp 5) (rp 5) true (by simp) (by simp) rfl rfl (by omega) (by omega) e12).mono ?_; rintro e u ⟨rfl, hh⟩; clear HH; have HH := Lib.hid hh; clear hh; have M10 : True := trivial)
    | (go_at_call 14; have := M8; clear this; refine (solved_h (n := 3) HH.out LM 0 (rp 1) true 16 (by simp) rfl e9 rfl).mono ?_; rintro e u ⟨A', c', rfl, hc', hh⟩; clear HH; have HH := Lib.hid hh; clear hh; have M9 : True := trivial)
    | (go_at_call 12; have := M7; clear this; refine (add_h (n := 3) (n1 := 0) HH.out LM 1 [] [] false 1 0 (by simp) (by simp) rfl rfl (by decide) e8 rfl).mono ?_; rintro e u ⟨A', c', rfl, hc', hh⟩; clear HH; have HH := Lib.hid hh; clear hh; have M8 : True := trivial)
    | (go_at_call 12; have := M6; clear this; refine (add_h (n := 3) (n1 := 16) HH.out LM 5 (rp 4) [] false 12 0 (by simp) (by simp) rfl rfl (by decide) e7 rfl).mono ?_; rintro e u ⟨A', c', rfl, hc', hh⟩; clear HH; have HH := Lib.hid hh; clear hh; have M7 : True := trivial)
    | (go_at_call 12; have := M5; clear this; refine (add_h (n := 3) (n1 := 16) HH.out LM 5 (rp 5) LM false 0 3 (by simp) (by simp) rfl rfl (by decide) e6 rfl).mono ?_; rintro e u ⟨A', c', rfl, hc', hh⟩; clear HH; have HH := Lib.hid hh; clear hh; have M6 : True := trivial)
    | (go_at_call 12; have := M4; clear this; refine (add_h (n := 2) (n1 := 16) HH.out L2 2 (rp 2) LM true 0 3 (by simp) (by simp) rfl rfl (by decide) e5 rfl).mono ?_; rintro e u ⟨A', c', rfl, hc', hh⟩; clear HH; have HH := Lib.hid hh; clear hh; have M5 : True := trivial)
    | (go_at_call 16; have := M3; clear this; refine (sum_h (n := 2) HH.out L2 5 (rp 5) true 16 (by simp) rfl e4 rfl).mono ?_; rintro e u ⟨A', c', rfl, hc', hh⟩; clear HH; have HH := Lib.hid hh; clear hh; have M4 : True := trivial)
    | (go_at_call 14; have := M2; clear this; refine (solved_h (n := 2) HH.out L2 0 [] false 0 (by simp) rfl e3 rfl).mono ?_; rintro e u ⟨A', c', rfl, hc', hh⟩; clear HH; have HH := Lib.hid hh; clear hh; have M3 : True := trivial)
    | (go_at_call 12; have := M1; clear this; refine (add_h (n := 1) (n1 := 16) HH.out L1 6 (rp 6) L2 true 0 2 (by simp) (by simp) rfl rfl (by decide) e2 rfl).mono ?_; rintro e u ⟨A', c', rfl, hc', hh⟩; clear HH; have HH := Lib.hid hh; clear hh; have M2 : True := trivial)
    | (go_at_call 12; refine (add_h (n := 0) (n1 := 16) HH.out [] 3 (rp 3) L1 true 0 1 (by simp) (by simp) rfl rfl (by decide) e1 rfl).mono ?_; rintro e u ⟨A', c', rfl, hc', hh⟩; clear HH; have HH := Lib.hid hh; clear hh; have M1 : True := trivial))
  go_ret
  exact ⟨rfl, HH.out.1⟩
end Go.Proofs.Ytknlbeojdmeljaa.H
namespace Go.Proofs.Ytknlbeojdmeljaa.L
open Go.RowKit Go.Proofs.YtknlbeojdmeljaaW.PrintWords Go.Proofs.YtknlbeojdmeljaaW.PrintLast Go.Proofs.YtknlbeojdmeljaaW.PrintMore Go.Proofs.Ytknlbeojdmeljaa.P Go.Proofs.Ytknlbeojdmeljaa.H
set_option linter.unusedVariables false
set_option linter.unusedSimpArgs false
theorem GR.of_valid {l : List S25} (hv : validS l = true) (hr : ∀ x ∈ l, ∀ b ∈ x.f1, isB b) : GR l := ⟨((validS_iff l).1 hv).fine, hr⟩
end Go.Proofs.Ytknlbeojdmeljaa.L
namespace Go.Proofs.Ytknlbeojdmeljaa.L
open Go.RowKit Go.Proofs.YtknlbeojdmeljaaW.PrintWords Go.Proofs.YtknlbeojdmeljaaW.PrintLast Go.Proofs.YtknlbeojdmeljaaW.PrintMore Go.Proofs.Ytknlbeojdmeljaa.P Go.Proofs.Ytknlbeojdmeljaa.H
set_option linter.unusedVariables false
set_option linter.unusedSimpArgs false
/-- rows by pairs -/
theorem VP.pair {l : List S25} (h : VP l) : l.Pairwise (fun a b => b.f0.toNat &&& H.lead a.f0.toNat = 0 ∧ a.f0.toNat &&& H.lead b.f0.toNat = 0 ∧ H.lead a.f0.toNat > H.lead b.f0.toNat) := by
  rw [List.pairwise_iff_getElem]
  intro i j hi hj hij
  have hg : ∀ k (hk : k < l.length), at_ l k = l[k] := fun k hk => by
    unfold at_; rw [List.getD_eq_getElem?_getD, List.getElem?_eq_getElem hk]; rfl
  have h1 := h.red i j hi hj (by omega)
  have h2 := h.red j i hj hi (by omega)
  have h3 := List.pairwise_iff_getElem.1 h.desc i j (by simpa using hi) (by simpa using hj) hij
  simp only [L.mk, hg i hi, hg j hj] at h1 h2
  simp only [List.getElem_map] at h3
  exact ⟨h1, h2, h3⟩
theorem and_xor_zero {a b c : Nat} (h1 : a &&& c = 0) (h2 : b &&& c = 0) : (a ^^^ b) &&& c = 0 := by
  rw [Nat.and_xor_distrib_right, h1, h2]
  rfl
end Go.Proofs.Ytknlbeojdmeljaa.L
namespace Go.Proofs.Ytknlbeojdmeljaa.L
open Go.RowKit Go.Proofs.YtknlbeojdmeljaaW.PrintWords Go.Proofs.YtknlbeojdmeljaaW.PrintLast Go.Proofs.YtknlbeojdmeljaaW.PrintMore Go.Proofs.Ytknlbeojdmeljaa.P Go.Proofs.Ytknlbeojdmeljaa.H
set_option linter.unusedVariables false
set_option linter.unusedSimpArgs false
theorem shl_small : ∀ i : Nat, i < 16 → shl .i64 1 (i : Int) = ((2 ^ i : Nat) : Int)
  | 0, _ | 1, _ | 2, _ | 3, _ | 4, _ | 5, _ | 6, _ | 7, _ | 8, _ | 9, _ | 10, _ | 11, _ | 12, _ | 13, _ | 14, _ | 15, _ => by decide
  | n + 16, h => absurd h (by omega)
end Go.Proofs.Ytknlbeojdmeljaa.L
namespace Go.Proofs.Ytknlbeojdmeljaa.L
open Go.RowKit Go.Proofs.YtknlbeojdmeljaaW.PrintWords Go.Proofs.YtknlbeojdmeljaaW.PrintLast Go.Proofs.YtknlbeojdmeljaaW.PrintMore Go.Proofs.Ytknlbeojdmeljaa.P Go.Proofs.Ytknlbeojdmeljaa.H
set_option linter.unusedVariables false
set_option linter.unusedSimpArgs false
/-- what is reduced has no lead bit of the rows -/
theorem redS_clear {l : List S25} (hl : GR l) (hv : VP l) : ∀ {x : Nat × List Int}, GE x → ∀ r ∈ l, (redS l x).1 &&& H.lead r.f0.toNat = 0 := by
  have key : ∀ (p q : List S25), l = p ++ q → ∀ {x : Nat × List Int}, GE x → (∀ r ∈ p, x.1 &&& H.lead r.f0.toNat = 0) → ∀ r ∈ l, (redS q x).1 &&& H.lead r.f0.toNat = 0 := by
    intro p q
    induction q generalizing p with
    | nil =>
      intro e x hx hp r hr
      rw [e, List.append_nil] at hr
      exact hp r hr
    | cons s q ih =>
      intro e x hx hp
      have hs : s ∈ l := by rw [e]; simp
      obtain ⟨j, _, hj, hb⟩ := hl.lead hs
      have hpair := hv.pair
      rw [e, List.pairwise_append, List.pairwise_cons] at hpair
      obtain ⟨_, _, hpq⟩ := hpair
      refine ih (p ++ [s]) (by rw [e]; simp) (stepS_ge hx (hl.row hs) hj) (fun r hr => ?_)
      rw [stepS_eq x s hj]
      rcases List.mem_append.1 hr with hr | hr
      · have h1 := hp r hr
        have h2 := (hpq r hr s List.mem_cons_self).1
        split
        · exact and_xor_zero h1 h2
        · exact h1
      · rw [List.mem_singleton.1 hr, hj]
        split
        · rename_i hbit
          show (x.1 ^^^ s.f0.toNat) &&& 2 ^ j = 0
          rw [and_two_pow, if_neg]
          rw [Nat.testBit_xor, hbit, hb]
          simp
        · rename_i hbit
          rw [and_two_pow, if_neg hbit]
  intro x hx r hr
  exact key [] l rfl hx (by simp) r hr
/-- sums of rows -/
inductive Sp (l : List S25) : Nat × List Int → Prop
  | zero : Sp l zeroE
  | add {y : Nat × List Int} {r : S25} : Sp l y → r ∈ l → Sp l (addE y (rowv r))
theorem Sp.ge {l : List S25} (hl : GR l) {y : Nat × List Int} (h : Sp l y) : GE y := by
  induction h with
  | zero => exact zeroE_ge
  | add _ hr ih => exact ih.add (hl.row hr)
theorem Sp.sum {l : List S25} (hl : GR l) {y z : Nat × List Int} (hy : Sp l y) (hz : Sp l z) : Sp l (addE y z) := by
  induction hz with
  | zero => rw [addE_zero (hy.ge hl)]; exact hy
  | add hz hr ih => rw [← addE_assoc (hy.ge hl) (hz.ge hl) (hl.row hr)]; exact Sp.add ih hr
theorem Sp.row {l : List S25} (hl : GR l) {r : S25} (hr : r ∈ l) : Sp l (rowv r) := by
  have := Sp.add (Sp.zero (l := l)) hr
  rwa [zero_addE (hl.row hr)] at this
theorem Sp.of {l l' : List S25} (hl : GR l) (hl' : GR l') (h : ∀ r ∈ l, Sp l' (rowv r)) {y : Nat × List Int} (hy : Sp l y) : Sp l' y := by
  induction hy with
  | zero => exact Sp.zero
  | add _ hr ih => exact ih.sum hl' (h _ hr)
end Go.Proofs.Ytknlbeojdmeljaa.L
namespace Go.Proofs.Ytknlbeojdmeljaa.L
open Go.RowKit Go.Proofs.YtknlbeojdmeljaaW.PrintWords Go.Proofs.YtknlbeojdmeljaaW.PrintLast Go.Proofs.YtknlbeojdmeljaaW.PrintMore Go.Proofs.Ytknlbeojdmeljaa.P Go.Proofs.Ytknlbeojdmeljaa.H
set_option linter.unusedVariables false
set_option linter.unusedSimpArgs false
theorem ins_true (e : Nat × List Int) : ∀ (l acc : List S25), l.foldl (insStep e) (acc, true) = (acc ++ l.map (mixE e), true)
  | [], acc => by simp
  | r :: l, acc => by
    have : insStep e (acc, true) r = (acc ++ [mixE e r], true) := by unfold insStep; rw [if_neg (fun h => by cases h.1)]
    rw [List.foldl_cons, this, ins_true e l]
    simp
theorem ins_split (e : Nat × List Int) : ∀ (l acc : List S25), (l.map (fun x => H.lead x.f0.toNat)).Pairwise (· > ·) →
    ∃ p q, l = p ++ q ∧ (∀ r ∈ p, ¬ H.lead r.f0.toNat < H.lead e.1) ∧ (∀ r ∈ q, H.lead r.f0.toNat < H.lead e.1) ∧
      (if (l.foldl (insStep e) (acc, false)).2 = true then (l.foldl (insStep e) (acc, false)).1 else (l.foldl (insStep e) (acc, false)).1 ++ [rowE e]) = acc ++ (p.map (mixE e) ++ rowE e :: q.map (mixE e))
  | [], acc, _ => ⟨[], [], rfl, by simp, by simp, by simp⟩
  | r :: l, acc, hd => by
    simp only [List.map_cons, List.pairwise_cons] at hd
    by_cases hlt : H.lead r.f0.toNat < H.lead e.1
    · refine ⟨[], r :: l, rfl, by simp, fun s hs => ?_, ?_⟩
      · rcases List.mem_cons.1 hs with rfl | hs
        · exact hlt
        · exact Nat.lt_trans (hd.1 _ (List.mem_map.2 ⟨s, hs, rfl⟩)) hlt
      · have : insStep e (acc, false) r = (acc ++ [rowE e, mixE e r], true) := by unfold insStep; rw [if_pos ⟨rfl, hlt⟩]
        rw [List.foldl_cons, this, ins_true]
        simp
    · obtain ⟨p, q, h1, h2, h3, h4⟩ := ins_split e l (acc ++ [mixE e r]) hd.2
      have : insStep e (acc, false) r = (acc ++ [mixE e r], false) := by unfold insStep; rw [if_neg (fun h => hlt h.2)]
      refine ⟨r :: p, q, by rw [h1]; rfl, fun s hs => ?_, h3, ?_⟩
      · rcases List.mem_cons.1 hs with rfl | hs
        · exact hlt
        · exact h2 s hs
      · rw [List.foldl_cons, this, h4]
        simp
theorem insS_split (e : Nat × List Int) {l : List S25} (hv : VP l) : ∃ p q, l = p ++ q ∧ (∀ r ∈ p, ¬ H.lead r.f0.toNat < H.lead e.1) ∧ (∀ r ∈ q, H.lead r.f0.toNat < H.lead e.1) ∧ insS e l = p.map (mixE e) ++ rowE e :: q.map (mixE e) := by
  obtain ⟨p, q, h1, h2, h3, h4⟩ := ins_split e l [] hv.desc
  rw [List.nil_append] at h4
  exact ⟨p, q, h1, h2, h3, h4⟩
end Go.Proofs.Ytknlbeojdmeljaa.L
namespace Go.Proofs.Ytknlbeojdmeljaa.L
open Go.RowKit Go.Proofs.YtknlbeojdmeljaaW.PrintWords Go.Proofs.YtknlbeojdmeljaaW.PrintLast Go.Proofs.YtknlbeojdmeljaaW.PrintMore Go.Proofs.Ytknlbeojdmeljaa.P Go.Proofs.Ytknlbeojdmeljaa.H
set_option linter.unusedVariables false
set_option linter.unusedSimpArgs false
def Pr (a b : S25) : Prop := b.f0.toNat &&& H.lead a.f0.toNat = 0 ∧ a.f0.toNat &&& H.lead b.f0.toNat = 0 ∧ H.lead a.f0.toNat > H.lead b.f0.toNat
theorem VP.of_pair {l : List S25} (hf : ∀ x ∈ l, fineB x.f0 x.f1 = true) (hp : l.Pairwise Pr) : VP l := by
  have hg : ∀ k (hk : k < l.length), at_ l k = l[k] := fun k hk => by
    unfold at_; rw [List.getD_eq_getElem?_getD, List.getElem?_eq_getElem hk]; rfl
  refine ⟨hf, ?_, fun i k hi hk hne => ?_⟩
  · rw [List.pairwise_map]
    exact hp.imp (fun h => h.2.2)
  · simp only [L.mk, hg i hi, hg k hk]
    rcases Nat.lt_or_gt_of_ne hne with h | h
    · exact (List.pairwise_iff_getElem.1 hp i k hi hk h).1
    · exact (List.pairwise_iff_getElem.1 hp k i hk hi h).2.1
theorem lead_unique {m j : Nat} (h1 : 2 ^ j ≤ m) (h2 : m < 2 ^ (j + 1)) (hm : m < 65536) : H.lead m = 2 ^ j := by
  obtain ⟨i, _, e, h3, h4⟩ := lead_spec m (by have := Nat.two_pow_pos j; omega) hm
  have a1 : i < j + 1 := (Nat.pow_lt_pow_iff_right (show 1 < 2 by omega)).1 (Nat.lt_of_le_of_lt h3 h2)
  have a2 : j < i + 1 := (Nat.pow_lt_pow_iff_right (show 1 < 2 by omega)).1 (Nat.lt_of_le_of_lt h1 h4)
  rw [e, show i = j by omega]
/-- what a new equation must be -/
structure NE (l : List S25) (e : Nat × List Int) : Prop where
  ge : GE e
  ne : e.1 ≠ 0
  clear : ∀ r ∈ l, e.1 &&& H.lead r.f0.toNat = 0
theorem mixE_v (e : Nat × List Int) (r : S25) {j : Nat} (hj : H.lead e.1 = 2 ^ j) (hr : 0 ≤ r.f0) : rowv (mixE e r) = if r.f0.toNat.testBit j = true then (r.f0.toNat ^^^ e.1, xorD r.f1 e.2) else rowv r := by
  unfold mixE
  rw [hj, and_two_pow]
  by_cases h : r.f0.toNat.testBit j = true
  · rw [if_pos h, if_pos h, if_pos (by have := Nat.two_pow_pos j; omega)]
    rfl
  · rw [if_neg h, if_neg h, if_neg (by simp)]
theorem mix_lead {l : List S25} (hl : GR l) {e : Nat × List Int} (he : NE l e) {r : S25} (hr : r ∈ l) : H.lead (mixE e r).f0.toNat = H.lead r.f0.toNat ∧ GE (rowv (mixE e r)) ∧ 1 ≤ (mixE e r).f0 ∧ (mixE e r).f0 < 65536 := by
  have hf := fine_spec (hl.fine r hr)
  obtain ⟨j, hj16, hj, h2, h3⟩ := lead_spec e.1 (by have := he.ne; omega) he.ge.m
  obtain ⟨i, hi16, hi, h4, h5⟩ := lead_spec r.f0.toNat (by omega) (by omega)
  have hv := mixE_v e r hj (by omega)
  by_cases hb : r.f0.toNat.testBit j = true
  · rw [if_pos hb] at hv
    have hm : (mixE e r).f0 = ((r.f0.toNat ^^^ e.1 : Nat) : Int) := by
      unfold mixE
      rw [hj, and_two_pow, if_pos hb, if_pos (by have := Nat.two_pow_pos j; omega)]
    have hji : j ≠ i := by
      rintro rfl
      have hc := he.clear r hr
      rw [hi, and_two_pow, if_pos (top_bit h2 h3)] at hc
      have := Nat.two_pow_pos j
      omega
    have hlt : j < i := by
      rcases Nat.lt_or_gt_of_ne hji with h | h
      · exact h
      · have := Nat.testBit_lt_two_pow (x := r.f0.toNat) (i := j) (Nat.lt_of_lt_of_le h5 (Nat.pow_le_pow_right (by omega) (by omega)))
        rw [this] at hb
        cases hb
    have hei : e.1 < 2 ^ i := Nat.lt_of_lt_of_le h3 (Nat.pow_le_pow_right (by omega) (by omega))
    have hx1 : (r.f0.toNat ^^^ e.1) < 2 ^ (i + 1) := Nat.xor_lt_two_pow h5 (Nat.lt_of_lt_of_le hei (Nat.pow_le_pow_right (by omega) (by omega)))
    have hx2 : 2 ^ i ≤ (r.f0.toNat ^^^ e.1) := by
      refine Nat.ge_two_pow_of_testBit ?_
      rw [Nat.testBit_xor, top_bit h4 h5, Nat.testBit_lt_two_pow hei]
      rfl
    have hx3 : (r.f0.toNat ^^^ e.1) < 65536 := by
      have := Nat.xor_lt_two_pow (n := 16) (x := r.f0.toNat) (y := e.1) (by omega) (by have := he.ge.m; omega)
      omega
    have hp := Nat.two_pow_pos i
    refine ⟨?_, ?_, by omega, by omega⟩
    · rw [hm, Int.toNat_natCast, hi]
      exact lead_unique hx2 hx1 hx3
    · rw [hv]
      exact (hl.row hr).add he.ge
  · rw [if_neg hb] at hv
    have hm : mixE e r = r := by
      unfold mixE
      rw [hj, and_two_pow, if_neg hb, if_neg (by simp)]
    rw [hm]
    exact ⟨rfl, hl.row hr, hf.1, hf.2.1⟩
end Go.Proofs.Ytknlbeojdmeljaa.L
namespace Go.Proofs.Ytknlbeojdmeljaa.L
open Go.RowKit Go.Proofs.YtknlbeojdmeljaaW.PrintWords Go.Proofs.YtknlbeojdmeljaaW.PrintLast Go.Proofs.YtknlbeojdmeljaaW.PrintMore Go.Proofs.Ytknlbeojdmeljaa.P Go.Proofs.Ytknlbeojdmeljaa.H
set_option linter.unusedVariables false
set_option linter.unusedSimpArgs false
theorem NE.lead {l : List S25} {e : Nat × List Int} (he : NE l e) : ∃ j, j < 16 ∧ H.lead e.1 = 2 ^ j ∧ e.1.testBit j = true := by
  obtain ⟨j, hj16, hj, h2, h3⟩ := lead_spec e.1 (by have := he.ne; omega) he.ge.m
  exact ⟨j, hj16, hj, top_bit h2 h3⟩
theorem mix_mask {l : List S25} (hl : GR l) {e : Nat × List Int} (he : NE l e) {r : S25} (hr : r ∈ l) : (mixE e r).f0.toNat = if r.f0.toNat &&& H.lead e.1 ≠ 0 then r.f0.toNat ^^^ e.1 else r.f0.toNat := by
  unfold mixE
  split
  · rw [Int.toNat_natCast]
  · rfl
theorem mix_and {l : List S25} (hl : GR l) {e : Nat × List Int} (he : NE l e) {r : S25} (hr : r ∈ l) {c : Nat} (h1 : r.f0.toNat &&& c = 0) (h2 : e.1 &&& c = 0) : (mixE e r).f0.toNat &&& c = 0 := by
  rw [mix_mask hl he hr]
  split
  · exact and_xor_zero h1 h2
  · exact h1
theorem mix_clear {l : List S25} (hl : GR l) {e : Nat × List Int} (he : NE l e) {r : S25} (hr : r ∈ l) : (mixE e r).f0.toNat &&& H.lead e.1 = 0 := by
  obtain ⟨j, _, hj, hb⟩ := he.lead
  rw [mix_mask hl he hr]
  by_cases h : r.f0.toNat &&& H.lead e.1 = 0
  · rw [if_neg (fun h2 => h2 h)]; exact h
  · rw [if_pos h]
    rw [hj, and_two_pow] at h ⊢
    have hrb : r.f0.toNat.testBit j = true := by
      by_cases h3 : r.f0.toNat.testBit j = true
      · exact h3
      · rw [if_neg h3] at h; exact absurd rfl h
    rw [if_neg]
    rw [Nat.testBit_xor, hrb, hb]
    simp
theorem ne_lead {l : List S25} {e : Nat × List Int} (he : NE l e) {r : S25} (hr : r ∈ l) : H.lead r.f0.toNat ≠ H.lead e.1 := by
  intro h
  obtain ⟨j, _, hj, hb⟩ := he.lead
  have hc := he.clear r hr
  rw [h, hj, and_two_pow, if_pos hb] at hc
  have := Nat.two_pow_pos j
  omega
theorem fineB_of {x : S25} (h1 : 1 ≤ x.f0) (h2 : x.f0 < 65536) (h3 : x.f1.length = 16) : fineB x.f0 x.f1 = true := by
  unfold fineB
  simp [h1, h2, h3]
theorem insS_ok {l : List S25} (hl : GR l) (hv : VP l) {e : Nat × List Int} (he : NE l e) : VP (insS e l) ∧ GR (insS e l) ∧ (insS e l).length = l.length + 1 := by
  obtain ⟨p, q, hpq, hp, hq, hins⟩ := insS_split e hv
  have hsubp : ∀ r ∈ p, r ∈ l := fun r hr => by rw [hpq]; simp [hr]
  have hsubq : ∀ r ∈ q, r ∈ l := fun r hr => by rw [hpq]; simp [hr]
  have hmem : ∀ x ∈ insS e l, x = rowE e ∨ ∃ r ∈ l, x = mixE e r := by
    intro x hx
    rw [hins] at hx
    rcases List.mem_append.1 hx with h | h
    · obtain ⟨r, hr, rfl⟩ := List.mem_map.1 h
      exact .inr ⟨r, hsubp r hr, rfl⟩
    · rcases List.mem_cons.1 h with h | h
      · exact .inl h
      · obtain ⟨r, hr, rfl⟩ := List.mem_map.1 h
        exact .inr ⟨r, hsubq r hr, rfl⟩
  have hfine : ∀ x ∈ insS e l, fineB x.f0 x.f1 = true := by
    intro x hx
    rcases hmem x hx with rfl | ⟨r, hr, rfl⟩
    · have := he.ne
      have := he.ge.m
      exact fineB_of (by show (1 : Int) ≤ (e.1 : Int); omega) (by show (e.1 : Int) < 65536; omega) he.ge.len
    · obtain ⟨_, hg, h1, h2⟩ := mix_lead hl he hr
      exact fineB_of h1 h2 hg.len
  have hpair := hv.pair
  rw [hpq, List.pairwise_append] at hpair
  obtain ⟨hpp, hqq, hcross⟩ := hpair
  have hmm : ∀ a ∈ l, ∀ b ∈ l, (b.f0.toNat &&& H.lead a.f0.toNat = 0 ∧ a.f0.toNat &&& H.lead b.f0.toNat = 0 ∧ H.lead a.f0.toNat > H.lead b.f0.toNat) → Pr (mixE e a) (mixE e b) := by
    intro a ha b hb ⟨h1, h2, h3⟩
    have la := (mix_lead hl he ha).1
    have lb := (mix_lead hl he hb).1
    refine ⟨?_, ?_, by rw [la, lb]; exact h3⟩
    · rw [la]; exact mix_and hl he hb h1 (he.clear a ha)
    · rw [lb]; exact mix_and hl he ha h2 (he.clear b hb)
  have hrow : (rowE e).f0.toNat = e.1 := Int.toNat_natCast _
  have hP : (insS e l).Pairwise Pr := by
    rw [hins, List.pairwise_append, List.pairwise_cons, List.pairwise_map, List.pairwise_map]
    refine ⟨?_, ⟨fun b hb => ?_, ?_⟩, fun a ha b hb => ?_⟩
    · exact hpp.imp_of_mem (fun ha hb h => hmm _ (hsubp _ ha) _ (hsubp _ hb) h)
    · obtain ⟨r, hr, rfl⟩ := List.mem_map.1 hb
      have lr := (mix_lead hl he (hsubq r hr)).1
      refine ⟨?_, ?_, ?_⟩
      · rw [hrow]; exact mix_clear hl he (hsubq r hr)
      · rw [hrow, lr]; exact he.clear r (hsubq r hr)
      · rw [hrow, lr]; exact hq r hr
    · exact hqq.imp_of_mem (fun ha hb h => hmm _ (hsubq _ ha) _ (hsubq _ hb) h)
    · obtain ⟨r, hr, rfl⟩ := List.mem_map.1 ha
      have lr := (mix_lead hl he (hsubp r hr)).1
      rcases List.mem_cons.1 hb with rfl | hb
      · refine ⟨?_, ?_, ?_⟩
        · rw [hrow, lr]; exact he.clear r (hsubp r hr)
        · rw [hrow]; exact mix_clear hl he (hsubp r hr)
        · rw [hrow, lr]
          have h1 := hp r hr
          have h2 := ne_lead he (hsubp r hr)
          omega
      · obtain ⟨s, hs, rfl⟩ := List.mem_map.1 hb
        exact hmm _ (hsubp r hr) _ (hsubq s hs) (hcross r hr s hs)
  refine ⟨VP.of_pair hfine hP, ⟨hfine, fun x hx => ?_⟩, ?_⟩
  · rcases hmem x hx with rfl | ⟨r, hr, rfl⟩
    · exact he.ge.rng
    · exact (mix_lead hl he hr).2.1.rng
  · rw [hins, hpq]
    simp
    omega
end Go.Proofs.Ytknlbeojdmeljaa.L
