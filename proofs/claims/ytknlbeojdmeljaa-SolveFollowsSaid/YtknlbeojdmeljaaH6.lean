import Derived.Test.YtknlbeojdmeljaaH5
import Derived.Test.YtknlbeojdmeljaaP3
namespace Go.Proofs.Ytknlbeojdmeljaa.H
open Go.RowKit Go.Proofs.YtknlbeojdmeljaaW.PrintWords Go.Proofs.YtknlbeojdmeljaaW.PrintLast Go.Proofs.YtknlbeojdmeljaaW.PrintMore Go.Proofs.Ytknlbeojdmeljaa.P
set_option linter.unusedVariables false
set_option linter.unusedSimpArgs false

def stepS (x : Nat × List Int) (r : S25) : Nat × List Int := if x.1 &&& lead r.f0.toNat ≠ 0 then (x.1 ^^^ r.f0.toNat, xorD x.2 r.f1) else x
def redS (l : List S25) (x : Nat × List Int) : Nat × List Int := l.foldl stepS x
theorem redE_redS (l : List FRow) : ∀ x, redE l x = redS (l.map Subtype.val) x := by
  induction l with
  | nil => intro x; rfl
  | cons r l ih => intro x; exact ih _
def z16 : List Int := List.replicate 16 0
theorem valid_fz {zs : List S25} (h : validS zs = true) : ∃ fz : List FRow, fz.map Subtype.val = zs := by
  unfold validS at h
  split at h
  · cases h
  · rename_i st hv
    exact ⟨zs.pmap (fun x h => ⟨x, h⟩) (val1_fine _ _ _ hv), by simp [List.map_pmap]⟩
theorem reduce_calls' (A : Option Addr) (cap : Nat) (zs : List S25) (hv : validS zs = true) (m : Nat) (hm : m < 65536) (d : List Int) (hd : d.length = 16) (w : World) (hr : Kd.C k25 w A zs.length zs) :
    Calls Try.prog 29 #[.slice A zs.length cap, .agg (.int .i64 (m : Int) :: bys d).toArray] w fun e w' => e = .returned (.agg (.int .i64 ((redS zs (m, d)).1 : Int) :: bys (redS zs (m, d)).2).toArray) ∧ Below w.heap.size w w' := by
  obtain ⟨fz, rfl⟩ := valid_fz hv
  have := reduce_calls A cap fz m hm d hd w (by simpa using hr)
  rw [redE_redS] at this
  simpa using this
theorem redS_ok {zs : List S25} (hv : validS zs = true) (x : Nat × List Int) (h : x.1 < 65536 ∧ x.2.length = 16) : (redS zs x).1 < 65536 ∧ (redS zs x).2.length = 16 := by
  obtain ⟨fz, rfl⟩ := valid_fz hv
  rw [← redE_redS]
  exact redE_ok _ _ h
theorem row_R {w : World} {g : Nat} {d : List Int} (base : Nat) (ok : Nat → Prop) (hd : d.length = 16) (hb : base ≤ g) (hk : ok g) (h : w.heap[g]? = some (.cells (bys d).toArray 5 (0, 0))) :
    Kd.R (Kd.int .u8) 5 w base ok (.slice (some ⟨g, 0, none⟩) 16 16) d := by
  refine Kd.R_of_own ⟨?_, .inr ⟨g, 16, (bys d).toArray, by rw [hd], hb, h, by omega, by decide, by simp [bys_len, hd], ?_⟩⟩ (fun k hk' => ?_)
  · simp [encs]
  · rw [hd]
    exact List.take_of_length_le (by simp [bys_len, hd])
  · simp [Value.ownBlock] at hk'
    exact hk' ▸ hk
theorem exec_field {P : Program} {a : Act} {o : Oper} {t : TypeId} {x : Operand} {i : Nat} {u v : Value} {w : World} (ho : o.op = .field t x i) (hx : a.eval x = u)
    (hrun : (Instr.field t u i).run P w = .ok v w) : (execOp a.eval o).run P w = .ok (.value v) w := by
  subst hx
  unfold execOp
  simp only [ho, Sem.run_bind]
  rw [hrun]
  rfl
theorem run_field25 (m : Int) (g : Nat) (w : World) : (Instr.field 25 (.agg #[.int .i64 m, .slice (some ⟨g, 0, none⟩) 16 16]) 1).run Try.prog w = .ok (.slice (some ⟨g, 0, none⟩) 16 16) w := by
  kernel_rfl
theorem zrow (m : Int) : (Value.int .i64 m :: bys z16).toArray = #[.int .i64 m, .int .u8 0, .int .u8 0, .int .u8 0, .int .u8 0, .int .u8 0, .int .u8 0, .int .u8 0, .int .u8 0, .int .u8 0, .int .u8 0, .int .u8 0, .int .u8 0, .int .u8 0, .int .u8 0, .int .u8 0, .int .u8 0] := rfl
def sumS (l : List S25) (mask : Int) : List Int × Bool :=
  if mask < 0 ∨ 65536 ≤ mask ∨ validS l = false then ([], false)
  else if (redS l (mask.toNat, z16)).1 ≠ 0 then ([], false) else ((redS l (mask.toNat, z16)).2, true)

set_option maxRecDepth 100000 in
set_option maxHeartbeats 400000 in
theorem sum_calls (A : Option Addr) (cap : Nat) (zs : List S25) (mask : Int) (w : World) (hr : Kd.C k25 w A zs.length zs) :
    Calls Try.prog 16 #[.slice A zs.length cap, .int .i64 mask] w fun e w' => ∃ v, e = .returned (.tuple #[v, .bool (sumS zs mask).2]) ∧ Kd.V (Kd.int .u8) 5 w' w.heap.size (fun k => w.heap.size ≤ k) v (sumS zs mask).1 ∧ Below w.heap.size w w' := by
  go_enter Try.func16, Try.ntmps16
  have out : ∀ {w' : World} , Below w.heap.size w w' → (mask < 0 ∨ 65536 ≤ mask ∨ validS zs = false) → ∃ v, Ending.returned (.tuple #[.slice none 0 0, .bool false]) = .returned (.tuple #[v, .bool (sumS zs mask).2]) ∧ Kd.V (Kd.int .u8) 5 w' w.heap.size (fun k => w.heap.size ≤ k) v (sumS zs mask).1 ∧ Below w.heap.size w w' := by
    intro w' hb h
    have : sumS zs mask = ([], false) := if_pos h
    rw [this]
    exact ⟨_, rfl, Kd.V_nil _ _ _ _ _, hb⟩
  by_cases h1 : mask < 0
  · go_wp2
    go_ret2
    exact out (Below.refl _ _) (.inl h1)
  by_cases h2 : 65536 ≤ mask
  · go_wp2
    go_ret2
    exact out (Below.refl _ _) (.inr (.inl h2))
  by_cases h3 : validS zs = true
  · have hin : Try.prog.info? 53 = Try.prog.info? 53 := rfl
    have hz : (z16).length = 16 := rfl
    obtain ⟨m, hmm⟩ := Int.eq_ofNat_of_zero_le (show 0 ≤ mask by omega)
    have hm : m < 65536 := by omega
    have hok := redS_ok h3 (m, z16) ⟨hm, rfl⟩
    have hs : sumS zs mask = if (redS zs (m, z16)).1 ≠ 0 then ([], false) else ((redS zs (m, z16)).2, true) := by
      unfold sumS; rw [if_neg (by rw [h3]; simp; omega), hmm]; rfl
    have hred := fun w' (h : Below w.heap.size w w') => reduce_calls' A cap zs h3 m hm z16 rfl w' (Kd.C_below hr h)
    simp only [zrow, ← hmm] at hred
    generalize hq : redS zs (m, z16) = q at hok hs hred
    obtain ⟨mp, dp⟩ := q
    obtain ⟨hmp, hdp⟩ := hok
    simp only at hmp hdp hs hred
    have hl17 : (Value.int .i64 (mp : Int) :: bys dp).length = 17 := by rw [List.length_cons, bys_len, hdp]
    have hone := eq_one (mp : Int) dp
    have HL := Lib.hid hl17
    have HQ := Lib.hid hq
    have HS := Lib.hid hs
    have HDP := Lib.hid hdp
    have HM := Lib.hid hmm
    clear hl17 hq hs hdp hin hz hmm
    obtain ⟨b0, hb0, hb1⟩ : ∃ b, ((mp : Int) != 0) = b ∧ (b = true ↔ mp ≠ 0) := ⟨_, rfl, by simp⟩
    have HB0 := Lib.hid hb1
    clear hb1
    cases b0
    all_goals go_wp2_with (first
      | (go_at_call 20; refine (valid_calls A cap zs _ hr).mono ?_; rintro e w1 ⟨rfl, hb1⟩; have HB1 := Lib.hid hb1; clear hb1; rw [h3])
      | (refine wpList_load_row rfl 53 _ rfl _ rfl 53 (.int .i64 (mp : Int) :: bys dp).toArray (0, 0) _ g1 Try.underlying53 rfl (by simp only [List.size_toArray]; rw [HL.out]; exact size53) ?_)
      | (refine Kd.event_run rfl (exec_field (x := .tmp 26) rfl rfl (run_field25 (mp : Int) g w4)) ?_)
      | (go_at_call 31; refine (row_calls (mp : Int) dp HDP.out _).mono ?_; rintro e w4 ⟨g, hg1, rfl, hg3, hb4⟩; have HG1 := Lib.hid hg1; have HG3 := Lib.hid hg3; have HB4 := Lib.hid hb4; clear hg1 hg3 hb4)
      | (go_at_call 29; refine (hred _ HB1.out).mono ?_; rintro e w2 ⟨rfl, hb2⟩; have HB2 := Lib.hid hb2; clear hb2)
      | (refine wpList_store_row rfl 53 _ _ rfl _ (.int .i64 (mp : Int) :: bys dp) _ 53 rfl rfl (blk_new rfl) (by rw [HL.out]; rfl) (by rw [HL.out]; exact size53) hone ?_; intro w3 g1 g2 g3 g4; have c0 : w3.cell? ⟨w2.heap.size, 0, none⟩ = some (.int .i64 (mp : Int)) := (cell_of_row w3 _ 0 _ 53 (0, 0) g1).trans (by simp); have G2 := Lib.hid g2; have G3 := Lib.hid g3; have G4 := Lib.hid g4; clear g2 g3 g4))
    all_goals go_ret2
    · rw [HS.out, if_neg (by have := HB0.out; simpa using this)]
      have hb12 := HB1.out.trans (HB2.out.mono HB1.out.size)
      have hb3 := G4.out _ _ hb12.size (hb12.alloc hb12.size _)
      have hz3 := hb3.size
      exact ⟨_, rfl, Kd.R_V (base := w.heap.size) (row_R _ _ HDP.out (Nat.le_trans hz3 HG1.out) (Nat.le_trans hz3 HG1.out) HG3.out), hb3.trans (HB4.out.mono hz3)⟩
    · rw [HS.out, if_pos (by have := HB0.out; simpa using this)]
      have hb12 := HB1.out.trans (HB2.out.mono HB1.out.size)
      have hb3 := G4.out _ _ hb12.size (hb12.alloc hb12.size _)
      exact ⟨_, rfl, Kd.V_nil _ _ _ _ _, hb3⟩
  · go_wp2_with (go_at_call 20; refine (valid_calls A cap zs _ hr).mono ?_; rintro e w1 ⟨rfl, hb1⟩; have HB1 := Lib.hid hb1; clear hb1; rw [show validS zs = false by simpa using h3])
    go_ret2
    exact out HB1.out (.inr (.inr (by simpa using h3)))
end Go.Proofs.Ytknlbeojdmeljaa.H
