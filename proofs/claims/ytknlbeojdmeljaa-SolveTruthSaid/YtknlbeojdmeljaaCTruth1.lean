-- cut by shake.py (own program) out of this session's texts
import Derived.Test.YtknlbeojdmeljaaCTruth0
namespace Go.Proofs.Ytknlbeojdmeljaa.H
open Go.RowKit Go.Proofs.YtknlbeojdmeljaaW.PrintWords Go.Proofs.YtknlbeojdmeljaaW.PrintLast Go.Proofs.YtknlbeojdmeljaaW.PrintMore Go.Proofs.Ytknlbeojdmeljaa.P
set_option linter.unusedVariables false
set_option linter.unusedSimpArgs false
theorem keeps_app {w w1 : World} (h3 : w.heap.size ≤ w1.heap.size) (h4 : ∀ (k : Nat) (ob : Obj), w.heap[k]? = some ob → (∀ cs, ob ≠ Obj.cells cs 25 (0, 0)) → w1.heap[k]? = some ob) (B : Nat) : KeepsFrom B w w1 :=
  ⟨h3, fun k o _ ho hc => h4 k o ho (by rintro cs rfl; cases hc)⟩
theorem rowE_m (x : FRow) : (⟨(x.m : Int), x.1.f1⟩ : S25) = x.1 := by
  obtain ⟨⟨a, b⟩, h⟩ := x
  have := FRow.m_eq ⟨⟨a, b⟩, h⟩
  simp only at this
  rw [← this]
theorem insL_len (e : Nat × List Int) (p : List S25) : (insL e p).1.length ≤ 2 * p.length := by
  have key : ∀ (q : List S25) (s : List S25 × Bool), (q.foldl (insStep e) s).1.length ≤ s.1.length + 2 * q.length := by
    intro q
    induction q with
    | nil => intro s; simp
    | cons r q ih =>
      intro s
      have h1 : (insStep e s r).1.length ≤ s.1.length + 2 := by
        unfold insStep
        split <;> simp
      have h2 := ih (insStep e s r)
      simp only [List.foldl_cons, List.length_cons]
      omega
  have := key p ([], false)
  simpa [insL] using this
theorem add_fin {w U : World} {D : Nat} {v : Value} {xs : List S25} (hS : Kd.S k25 25 U w.heap.size (fun _ => True) v xs) (hK : U.heap[D]? = some (.deferred (some []))) (hD : w.heap.size ≤ D) (hB : Below w.heap.size w U) :
    ∃ u, Ending.returned (.tuple #[v, .bool (xs, true, (0 : Int)).2.1, .int .i64 (xs, true, (0 : Int)).2.2]) = .returned (.tuple #[u, .bool (xs, true, (0 : Int)).2.1, .int .i64 (xs, true, (0 : Int)).2.2]) ∧ Kd.S k25 25 (U.putObj D (.deferred none)) w.heap.size (fun _ => True) u (xs, true, (0 : Int)).1 ∧ Below w.heap.size w (U.putObj D (.deferred none)) := by
  refine ⟨_, rfl, Kd.S_mono (Kd.S_step (Kd.S_bound hS) (fun k hk _ => World.putObj_heap_other (fun e => ?_))) (fun _ _ => trivial), hB.trans (belowK_b (w := w) (Nat.le_refl _) U D _ (.deferred none) hD hK rfl rfl)⟩
  obtain ⟨_, _, _, q, _, cells, hc⟩ := hk
  subst e
  rw [hc] at hK
  cases hK
theorem eqg53 (x y : Operand) (xs ys : Array Value) (w : World) : (eqGuard .eql 53 x y (.agg xs) (.agg ys)).run Try.prog w = .ok () w := by
  kernel_rfl
theorem exec_eql53 {a : Act} {o : Oper} {x y : Operand} {s : TypeId} {m : Int} {d : List Int} {w : World} (ho : o.op = .binOp .eql 53 x y s) (hx : a.eval x = .agg (.int .i64 m :: bys d).toArray) (hy : a.eval y = .agg (.int .i64 0 :: bys z16).toArray) (hd : d.length = 16) {b : Bool} (hb : (m == 0 && d == z16) = b) :
    (execOp a.eval o).run Try.prog w = .ok (.value (.bool b)) w := by
  subst hb
  unfold execOp
  simp only [ho, Sem.run_bind]
  rw [hx, hy, eqg53]
  simp only [Result.andThen]
  rw [eq53 m d hd w]
  rfl
set_option maxRecDepth 100000 in
set_option maxHeartbeats 1000000 in
theorem add_calls (A : Option Addr) (cap : Nat) (zs : List S25) (m : Int) (A1 : Option Addr) (c1 : Nat) (ds : List Int) (w : World) (hr : Kd.C k25 w A zs.length zs) (hx : Kd.C (Kd.int .u8) w A1 ds.length ds) (hlen : zs.length ≤ 1000000) :
    Calls Try.prog 12 #[.slice A zs.length cap, .agg #[.int .i64 m, .slice A1 ds.length c1]] w fun e w' => ∃ v, e = .returned (.tuple #[v, .bool (addS zs m ds).2.1, .int .i64 (addS zs m ds).2.2]) ∧ Kd.S k25 25 w' w.heap.size (fun _ => True) v (addS zs m ds).1 ∧ Below w.heap.size w w' := by
  have out : ∀ (w' : World), Below w.heap.size w w' → (validS zs = false ∨ fineB m ds = false) → ∃ v, Ending.returned (.tuple #[.slice none 0 0, .bool false, .int .i64 1]) = .returned (.tuple #[v, .bool (addS zs m ds).2.1, .int .i64 (addS zs m ds).2.2]) ∧ Kd.S k25 25 w' w.heap.size (fun _ => True) v (addS zs m ds).1 ∧ Below w.heap.size w w' := by
    intro w' hb h
    have : addS zs m ds = ([], false, 1) := if_pos h
    rw [this]
    exact ⟨_, rfl, Kd.S_nil _ _ _ _ _, hb⟩
  have OUT := Lib.hid out
  have hba : ∀ o : Obj, Below w.heap.size w (w.alloc o) := fun o => (Below.refl _ _).alloc (Nat.le_refl _) _
  have HBA := Lib.hid hba
  have hl17 : (Value.int .i64 m :: bys (pad16 ds)).length = 17 := by rw [List.length_cons, bys_len, pad16_len]
  have HL := Lib.hid hl17
  have hone := eq_one m (pad16 ds)
  have HX := Lib.hid hx
  have HR := Lib.hid hr
  clear out hba hl17 hx hr
  refine (callsIn_wide (n := 3)).1 (callsIn_of_wp_marks Try.func12 rfl trivial (wpIn_wide.2 ?_) rfl)
  simp only [Try.ntmps12, List.size_toArray, List.length_cons, List.length_nil, Nat.reduceAdd, Nat.reduceSub, Array.replicate_succ, Array.replicate_zero, List.push_toArray, List.append_toArray, List.nil_append, List.cons_append]
  have hu25 := Try.underlying25
  by_cases hbad : validS zs = false ∨ fineB m ds = false
  · have HBAD := Lib.hid hbad
    have hcond : (!(validS zs) || !(fineB m ds)) = true := by rcases hbad with h | h <;> simp [h]
    cases hv : validS zs <;> cases hf : fineB m ds <;> simp only [hv, hf] at hcond
    all_goals clear hbad
    rotate_right
    · cases hcond
    all_goals
      go_wp2_with (first
        | (go_at_call 28; refine (formed_calls m A1 c1 ds _ (Kd.C_below HX.out (HBA.out _))).mono ?_; rintro e w1 ⟨rfl, hb1⟩; have HB1 := Lib.hid hb1; clear hb1)
        | (refine wpList_store_row rfl 53 _ _ rfl _ (.int .i64 m :: bys (pad16 ds)) _ 53 rfl rfl (blk_new rfl) (by rw [HL.out]; rfl) (by rw [HL.out]; exact size53) hone ?_; intro w2 g1 g2 g3 g4; have hb2 := (HBA.out (.cells #[.int .i64 m, .slice A1 ds.length c1] 25)).trans (HB1.out.mono (HBA.out _).size); have HB2 := Lib.hid (g4 _ _ hb2.size (hb2.alloc hb2.size _)); clear g1 g2 g3 g4 hb2)
        | (go_at_call 20; refine (valid_calls A cap zs _ (Kd.C_below HR.out HB2.out)).mono ?_; rintro e w3 ⟨rfl, hb3⟩; have HB3 := Lib.hid hb3; clear hb3; rw [hv]))
      exact ⟨.tuple #[.slice none 0 0, .bool false, .int .i64 1], by simp [results, Try.results12, go_sem], OUT.out _ (HB2.out.trans (HB3.out.mono HB2.out.size)) HBAD.out⟩
  have hv : validS zs = true := by
    cases h : validS zs
    · exact absurd (.inl h) hbad
    · rfl
  have hf : fineB m ds = true := by
    cases h : fineB m ds
    · exact absurd (.inr h) hbad
    · rfl
  have hsp := FRow.spec ⟨⟨m, ds⟩, hf⟩
  simp only at hsp
  obtain ⟨mn, hmn⟩ := Int.eq_ofNat_of_zero_le (show 0 ≤ m by omega)
  subst hmn
  have hmn16 : mn < 65536 := by omega
  have hd16 := hsp.2.2
  rw [pad16_of _ hd16] at hone HL
  have hok := redS_ok hv (mn, ds) ⟨hmn16, hd16⟩
  have hs : addS zs (mn : Int) ds = if redS zs (mn, ds) = (0, z16) then (zs, false, 0) else if (redS zs (mn, ds)).1 = 0 then ([], false, 12) else (insS (redS zs (mn, ds)) zs, true, 0) := by
    unfold addS; rw [if_neg hbad]; rfl
  have hred := fun w' (h : Below w.heap.size w w') => reduce_calls' A cap zs hv mn hmn16 ds hd16 w' (Kd.C_below HR.out h)
  obtain ⟨fz, hfz⟩ := valid_fz hv
  have hfl : fz.length = zs.length := by rw [← hfz, List.length_map]
  generalize hq : redS zs (mn, ds) = q at hok hs hred
  obtain ⟨mp, dp⟩ := q
  obtain ⟨hmp, hdp⟩ := hok
  simp only at hmp hdp hs hred
  have hl17 : (Value.int .i64 (mp : Int) :: bys dp).length = 17 := by rw [List.length_cons, bys_len, hdp]
  have hone2 := eq_one (mp : Int) dp
  have HL2 := Lib.hid hl17
  have HS := Lib.hid hs
  have HDP := Lib.hid hdp
  have HRED := Lib.hid hred
  have HFZ := Lib.hid hfz
  have HFL := Lib.hid hfl
  have HD16 := Lib.hid hd16
  have HV := Lib.hid hv
  have hp16 : pad16 ds = ds := pad16_of _ hd16
  have HP16 := Lib.hid hp16
  clear hl17 hq hs hdp hred hsp hbad hfz hfl hd16 hp16 hmn16
  obtain ⟨bz, hbz⟩ : ∃ b, ((mp : Int) == 0 && dp == z16) = b := ⟨_, rfl⟩
  obtain ⟨b0, hb0⟩ : ∃ b, ((mp : Int) == 0) = b := ⟨_, rfl⟩
  have hcs : (bz = true ↔ (mp = 0 ∧ dp = z16)) ∧ (b0 = true ↔ mp = 0) := by
    rw [← hbz, ← hb0]; simp
  have HCS := Lib.hid hcs
  have HBZ := Lib.hid hbz
  clear hcs hbz
  cases bz
  rotate_left
  · -- the same rows again
    have hans : addS zs (mn : Int) ds = (zs, false, 0) := by
      have := HCS.out.1.1 rfl
      rw [HS.out, if_pos (by rw [this.1, this.2])]
    have HANS := Lib.hid hans
    clear hans
    go_wp2_with (first
      | (go_at_call 28; refine (formed_calls (mn : Int) A1 c1 ds _ (Kd.C_below HX.out (HBA.out _))).mono ?_; rw [HP16.out, hf]; rintro e w1 ⟨rfl, hb1⟩; have HB1 := Lib.hid hb1; clear hb1)
      | (refine wpList_store_row rfl 53 _ _ rfl _ (.int .i64 (mn : Int) :: bys ds) _ 53 rfl rfl (blk_new rfl) (by rw [HL.out]; rfl) (by rw [HL.out]; exact size53) hone ?_; intro w2 g1 g2 g3 g4; have hb2 := (HBA.out (.cells #[.int .i64 (mn : Int), .slice A1 ds.length c1] 25)).trans (HB1.out.mono (HBA.out _).size); have HB2 := Lib.hid (g4 _ _ hb2.size (hb2.alloc hb2.size _)); have hg7 := hb2.size; have hs2 : w2.heap.size = w1.heap.size + 1 := (by rw [g3]; simp); clear g2 g3 g4 hb2)
      | (go_at_call 30; refine (equations_calls _ _ _ _).mono ?_; rintro e w' ⟨rfl, rfl⟩)
      | (go_at_call 20; refine (valid_calls A cap zs _ (Kd.C_below HR.out HB2.out)).mono ?_; rw [HV.out]; rintro e w3 ⟨rfl, hb3⟩; have HB3 := Lib.hid hb3; have g1' := (hb3.block _ (Array.getElem?_eq_some_iff.1 g1).1).trans g1; clear hb3)
      | (refine wpList_load_row rfl 53 _ rfl w1.heap.size rfl 53 _ (0, 0) _ g1' Try.underlying53 rfl (by simp only [List.size_toArray]; rw [HL.out]; exact size53) ?_)
      | (go_at_call 29; refine (HRED.out _ (HB2.out.trans (HB3.out.mono HB2.out.size))).mono ?_; rintro e w4 ⟨rfl, hb4⟩; have HB4 := Lib.hid hb4; have g1'' := (hb4.block _ (Array.getElem?_eq_some_iff.1 g1').1).trans g1'; clear hb4)
      | (refine wpList_store_row rfl 53 _ _ rfl w1.heap.size (.int .i64 (mp : Int) :: bys dp) _ 53 rfl rfl g1'' (by rw [HL2.out, List.size_toArray, HL.out]) (by rw [HL2.out]; exact size53) hone2 ?_; intro w5 p1 p2 p3 p4; have hb3 := HB2.out.trans (HB3.out.mono HB2.out.size); have hb4 := hb3.trans (HB4.out.mono hb3.size); have HB5 := Lib.hid (p4 _ _ hg7 hb4); have hsz5 := p3; have c0 : w5.cell? ⟨w1.heap.size, 0, none⟩ = some (.int .i64 (mp : Int)) := (cell_of_row w5 _ 0 _ 53 (0, 0) p1).trans (by simp); clear p2 p3 p4 hb3 hb4)
      | (refine wpList_load_row rfl 53 _ rfl w1.heap.size rfl 53 _ (0, 0) _ p1 Try.underlying53 rfl (by simp only [List.size_toArray]; rw [HL2.out]; exact size53) ?_)
      | (refine Kd.event_run rfl (exec_eql53 (x := .tmp 30) (y := .tmp 31) (m := (mp : Int)) (d := dp) rfl rfl (by rw [zrow]; rfl) HDP.out HBZ.out) ?_))
    have hg9 : w.heap.size ≤ w4.heap.size := by have := HB5.out.size; omega
    have sz0 : ((w5.alloc (.cells #[.slice none 0 0] 22)).alloc (.cells #[.slice A zs.length cap] 22)).heap.size = w4.heap.size + 1 + 1 := by simp [hsz5]
    have bO : Boxed ((w5.alloc (.cells #[.slice none 0 0] 22)).alloc (.cells #[.slice A zs.length cap] 22)) w4.heap.size 22 (.slice none 0 0) := by
      have := (Boxed.new w5 22 (.slice none 0 0)).alloc (.cells #[.slice A zs.length cap] 22)
      rwa [hsz5] at this
    have b5 : ((w5.alloc (.cells #[.slice none 0 0] 22)).alloc (.cells #[.slice A zs.length cap] 22)).heap[w4.heap.size + 1]? = some (.cells #[.slice A zs.length cap] 22 (0, 0)) := blk_new (by simp [hsz5])
    have hB0 : Below w.heap.size w ((w5.alloc (.cells #[.slice none 0 0] 22)).alloc (.cells #[.slice A zs.length cap] 22)) := (HB5.out.alloc HB5.out.size _).alloc (by simp; omega) _
    have hO : OutC w.heap.size w4.heap.size [] ((w5.alloc (.cells #[.slice none 0 0] 22)).alloc (.cells #[.slice A zs.length cap] 22)) := ⟨_, bO, Kd.S_nil _ _ _ _ _⟩
    generalize (w5.alloc (.cells #[.slice none 0 0] 22)).alloc (.cells #[.slice A zs.length cap] 22) = W0 at *
    generalize w1.heap.size = g7 at *
    generalize w4.heap.size = g9 at *
    clear bO g1 g1' g1'' p1 c0 HB2 HB3 HB4 HB5 HB1 hs2 hsz5 hg7
    refine (wpIn_wide (n := 3)).1 (wpIn_rangeFunc_ownH (F := Fence.wide) (n := 3) rfl (by omega) (gf := 38) (lb := #[.pointer (some ⟨g9 + 1, 0, none⟩)]) rfl trivial (enters_of Try.func38 (by kernel_rfl) rfl)
      (iter_stops (fun x : FRow => x.1) (3 - 1) (g9 + 1) w.heap.size A cap fz W0 (by omega) (by omega) (by rw [HFL.out]; exact (cell_of_row W0 _ 0 _ 22 (0, 0) b5).trans rfl) (fun W' h => by rw [HFL.out]; rw [show fz.map (fun x : FRow => x.1) = zs from HFZ.out]; exact Kd.C_below HR.out (hB0.trans h))) belowK_t (belowK_b (by omega)) (Below.refl _ _) (fun _ => rfl)
      (fun (pre : List FRow) W => OutC w.heap.size g9 (pre.map Subtype.val) W ∧ Below w.heap.size w W ∧ W0.heap.size ≤ W.heap.size)
      (fun _ _ _ => False)
      (fun s X Y row hs hg hr => by
        obtain ⟨h1, h2, h3⟩ := hs
        exact ⟨outC_round h1 hg hr, h2.grown hg (by have := h2.size; omega) (fun k e => by have := (hr k e).1; omega), Nat.le_trans h3 hg.size⟩)
      (fun _ _ _ _ _ hs _ _ => hs)
      ⟨hO, hB0, Nat.le_refl _⟩
      (fun x a' Z => ∃ Bx, W0.heap.size ≤ Bx ∧ Z.heap[Bx]? = some (.cells (.int .i64 (x.m : Int) :: bys x.1.f1).toArray 53 (0, 0)) ∧ a' = { tmps := #[.slice A zs.length cap, .agg #[.int .i64 (mn : Int), .slice A1 ds.length c1], undef, .pointer (some ⟨w.heap.size, 0, none⟩), .slice none 0 0, .bool false, .int .i64 0, .pointer (some ⟨g7, 0, none⟩), .bool true, .pointer (some ⟨g9, 0, none⟩), .pointer (some ⟨Bx, 0, none⟩), undef, undef, undef, .tuple #[.agg (.int .i64 (mn : Int) :: bys ds).toArray, .bool true], .agg #[.int .i64 (mn : Int), .slice A1 ds.length c1], .tuple #[.agg (.int .i64 (mn : Int) :: bys ds).toArray, .bool true], .agg (.int .i64 (mn : Int) :: bys ds).toArray, .bool true, .slice A zs.length cap, .bool true, .bool false, .bool false, .bool true, .bool false, .bool false, .slice A zs.length cap, .agg (.int .i64 (mn : Int) :: bys ds).toArray, .agg (.int .i64 (mp : Int) :: bys dp).toArray, .bool true, .agg (.int .i64 (mp : Int) :: bys dp).toArray, .agg #[.int .i64 0, .int .u8 0, .int .u8 0, .int .u8 0, .int .u8 0, .int .u8 0, .int .u8 0, .int .u8 0, .int .u8 0, .int .u8 0, .int .u8 0, .int .u8 0, .int .u8 0, .int .u8 0, .int .u8 0, .int .u8 0, .int .u8 0], .bool true, .slice A zs.length cap, .func (.func 38) #[] #[.pointer (some ⟨g9 + 1, 0, none⟩)], .agg (.int .i64 (x.m : Int) :: bys x.1.f1).toArray, .bool true, undef, undef, undef, undef, undef, undef, undef, undef, undef, undef, undef, undef, undef, undef, undef, undef, undef, undef, undef, undef, undef, undef, undef, undef, undef, undef, undef, undef, undef, undef, undef, undef, undef, undef, undef, undef, undef, undef, undef, undef, undef, undef, undef, undef, undef, undef, undef, undef, undef, undef, undef, undef, undef, undef, undef, undef, undef, undef], defers := [] })
      (fun x a' s X Y row hs hg hr => by obtain ⟨Bx, h1, h2, h3⟩ := hs; exact ⟨Bx, h1, keep_block h2 hg hr, h3⟩)
      ?assign ?body ?done ?stop)
    case assign =>
      intro l pre x U K hI hK
      have hsp := x.spec
      have he : encE x.1 = #[.agg (.int .i64 (x.m : Int) :: bys x.1.f1).toArray, .bool true] := by
        unfold encE; rw [pad16_of _ hsp.2.2, x.2, x.m_eq]
      rw [he]
      have hout : ¬ LetsOut (Exit.then K (fun _ _ _ => False)) := fun ⟨_, _, h⟩ => h
      refine plain_in (by rfl) hout ?_
      simp only [List.zip_toArray, List.zip_cons_cons, List.zip_nil_right, List.foldl_toArray, List.foldl_cons, List.foldl_nil, List.setIfInBounds_toArray, List.set_cons_zero, List.set_cons_succ]
      have hl17 : (Value.int .i64 (x.m : Int) :: bys x.1.f1).length = 17 := by rw [List.length_cons, bys_len, hsp.2.2]
      have H17 := Lib.hid hl17
      have hone : ∀ v ∈ Value.int .i64 (x.m : Int) :: bys x.1.f1, v.oneCell' = true := eq_one _ _
      have HK2 := Lib.hid hK
      have HI := Lib.hid hI
      clear hl17 hsp he hK hI
      go_wp2_with (first | (refine wpList_store_row rfl 53 _ _ rfl U.heap.size (.int .i64 (x.m : Int) :: bys x.1.f1) _ 53 rfl rfl (blk_new rfl) (by rw [H17.out]; rfl) (by rw [H17.out]; exact size53) hone ?_; intro w1 g1 g2 g3 g4))
      obtain ⟨i1, i4, i5⟩ := HI.out
      have hwW := i4.size
      have hB1 : Below w.heap.size U w1 := g4 _ _ hwW ((Below.refl _ _).alloc hwW _)
      have hB1' : Below U.heap.size U w1 := g4 _ _ (Nat.le_refl _) ((Below.refl _ _).alloc (Nat.le_refl _) _)
      exact HK2.out _ _ ((keeps_of_below ((Below.refl _ U).alloc (Nat.le_refl _) _) _).trans (keeps_of_cells (blk_new rfl) g2 g3 _)) hB1
        ⟨outC_below i1 hB1', i4.trans hB1, by rw [g3]; simp; omega⟩ ⟨U.heap.size, i5, g1, rfl⟩
    case body =>
      rintro l pre x a' U hl hrec ⟨⟨v, hbv, hSv⟩, hB2, hz2⟩ ⟨Bx, hBx, hx, rfl⟩ hlen2
      have hwW := hB2.size
      have hxs := x.spec
      have hi17 : (Try.prog.info? 53).map (·.size) = some (Value.int .i64 (x.m : Int) :: bys x.1.f1).length := by rw [List.length_cons, bys_len, hxs.2.2]; exact size53
      have cO := hbv.cell
      have HX := Lib.hid hx
      have HXS := Lib.hid hxs
      have HI17 := Lib.hid hi17
      have BV := Lib.hid hbv
      have HSV := Lib.hid hSv
      have HLEN : pre.length < 1000000 := by have := HFL.out; omega
      clear hx hi17 hbv hSv hrec hxs hO b5
      refine wpIn_block ?_
      have hout : ¬ LetsOut (Exit.inBlock 2 (ownPostG W0.heap.size (Below w.heap.size)
        (fun (pre : List FRow) W => OutC w.heap.size g9 (pre.map Subtype.val) W ∧ Below w.heap.size w W ∧ W0.heap.size ≤ W.heap.size)
        (fun _ _ _ => False) (pre ++ [x]) U)) := fun ⟨_, _, h⟩ => h
      refine start_in (m := 6) (S := (fun V => V.cell? ⟨g9, 0, none⟩ = some v ∧ V.heap[Bx]? = some (.cells (.int .i64 (x.m : Int) :: bys x.1.f1).toArray 53 (0, 0)) ∧ Below U.heap.size U V)) (ds := [4, 5]) #[false, false, false, false, false, false] (by kernel_rfl) (by rfl) hout rfl rfl ⟨cO, HX.out, (Below.refl _ _).drew⟩ (fun hHeld => ?_)
      refine take_ (i := 0) (N := some 37) (v := ?_) (a' := ?_) #[true, false, false, false, false, false] rfl rfl (by kernel_rfl) (fun _ _ _ h => h) (Or.inl ⟨by rfl, ?_⟩) hHeld ?_ ?_
      rotate_left
      · rintro w' ⟨s0, s1, s2⟩
        go_simp
        with_reducible rfl
      rotate_left
      · simp only [Act.put, List.setIfInBounds_toArray, List.set_cons_zero, List.set_cons_succ, i64_w, i32_w]
        rfl
      refine take_ (i := 1) (N := some 38) (v := _) (a' := ?_) #[true, true, false, false, false, false] rfl rfl (by kernel_rfl) (fun _ _ _ h => h) (row_if (by rfl) 53 _ rfl Bx rfl (.int .i64 (x.m : Int) :: bys x.1.f1) 53 _ (fun _ hS => hS.2.1) Try.underlying53 rfl HI17.out) hHeld ?_ ?_
      rotate_left
      · simp only [Act.put, List.setIfInBounds_toArray, List.set_cons_zero, List.set_cons_succ, i64_w, i32_w]
        rfl
      refine one_ (i := 2) (N := some 39) #[true, true, true, false, false, false] rfl rfl (by kernel_rfl) (by decide) (fun K hK => ?_)
      refine goes_ Try.func31 (by kernel_rfl) rfl #[.agg (.int .i64 (x.m : Int) :: bys x.1.f1).toArray] (by rfl) rfl rfl (by simp only [List.map_toArray, List.map_cons, List.map_nil]; rfl) ?_
      refine (row_calls (x.m : Int) x.1.f1 HXS.out.2.2 _).mono ?_
      rintro e u ⟨gr, hg1, rfl, hg3, hb⟩
      refine ⟨_, rfl, ?_⟩
      obtain ⟨s0, s1, s2⟩ := hHeld
      have hgrU : U.heap.size ≤ gr := Nat.le_trans s2.size hg1
      have t2 := s2.trans (hb.mono s2.size)
      have HG3 := Lib.hid hg3
      refine hK.out _ _ ⟨(hb.cell (World.block_lt_of_cell? _ _ s0)).trans s0, (hb.block _ (Array.getElem?_eq_some_iff.1 s1).1).trans s1, t2⟩ (fun hHeld => ?_)
      clear hK K s0 s1 s2 t2 hb hg1 hg3
      refine norm_ (a' := ?_) ?_ ?_
      rotate_left
      · show Act.put _ (some 39) _ = _
        simp only [Act.put, List.setIfInBounds_toArray, List.set_cons_zero, List.set_cons_succ, i64_w, i32_w]
        rfl
      refine one_ (i := 3) (N := some 40) #[true, true, true, true, false, false] rfl rfl (by kernel_rfl) (by decide) (fun K hK => ?_)
      obtain ⟨s0, s1, s2⟩ := hHeld
      refine event_step (by rfl) (exec_bs rfl (vs := #[(0, .agg #[.int .i64 (x.m : Int), .slice (some ⟨gr, 0, none⟩) 16 16])]) (by simp only [List.map_toArray, List.map_cons, List.map_nil]; rfl) (run_bs _ gr u)) ?_
      have HU2 := Lib.hid s2
      have ha := (Below.refl u.heap.size u).alloc (Nat.le_refl _) (.cells #[.int .i64 (x.m : Int), .slice (some ⟨gr, 0, none⟩) 16 16] 25)
      refine hK.out _ _ ⟨(ha.cell (World.block_lt_of_cell? _ _ s0)).trans s0, (ha.block _ (Array.getElem?_eq_some_iff.1 s1).1).trans s1, s2.trans (ha.mono s2.size)⟩ (fun hHeld => ?_)
      clear hK K s0 s1 s2 ha
      refine norm_ (a' := ?_) ?_ ?_
      rotate_left
      · show Act.put _ (some 40) _ = _
        simp only [Act.put, List.setIfInBounds_toArray, List.set_cons_zero, List.set_cons_succ, i64_w, i32_w]
        rfl
      refine last_ (i := 4) (N := some 41) #[true, true, true, true, true, false] rfl rfl (by kernel_rfl) (by decide) (fun K hK => ?_)
      have s2 := HU2.out
      have hus := s2.size
      refine app_step (by rfl) (.tmp 37) (.tmp 40) rfl U u w.heap.size v (pre.map Subtype.val) (x.m : Int) x.1.f1 gr rfl rfl (Kd.S_mono (Kd.S_below (Kd.S_bound HSV.out) s2) (fun k hk => by have := hk.2.2.1; omega)) HG3.out (by omega) HXS.out.2.2 (s2.mono hwW) (by omega) (by simp only [List.length_map]; omega) ?_
      intro v1 w1 h1 h2 h3 h4
      obtain ⟨A', c', rfl⟩ := Kd.R_slice (Kd.S_R h1)
      have bv1 : Boxed w1 g9 22 v := h4 _ _ (boxed_block BV.out s2) (fun cs e => by cases e)
      refine hK.out _ _ ?_
      clear hK K
      refine norm_ (a' := ?_) ?_ ?_
      rotate_left
      · show Act.put _ (some 41) _ = _
        simp only [Act.put, List.setIfInBounds_toArray, List.set_cons_zero, List.set_cons_succ, i64_w, i32_w]
        rfl
      refine last_ (i := 5) (N := none) #[true, true, true, true, true, true] rfl rfl (by kernel_rfl) (by decide) (fun K hK => ?_)
      refine store_step (by rfl) rfl rfl rfl rfl (run_st22 g9 v w1 A' _ c' bv1) ?_
      refine hK.out _ _ ?_
      refine done_ (by kernel_rfl) ?_
      have hs2 := HU2.out.size
      have hBf : Below w.heap.size U (w1.setCell ⟨g9, 0, none⟩ (.slice A' (List.map Subtype.val pre ++ [(⟨(x.m : Int), x.1.f1⟩ : S25)]).length c')) := h2.setCell (p := ⟨g9, 0, none⟩) hg9 _
      refine ⟨((keeps_of_below HU2.out _).trans (keeps_app h3 h4 _)).trans (keeps_set bv1 _ _), hBf, ⟨⟨_, bv1.set _, ?_⟩, hB2.trans hBf, ?_⟩⟩
      · have := S_own h1 bv1 (.slice A' (List.map Subtype.val pre ++ [(⟨(x.m : Int), x.1.f1⟩ : S25)]).length c')
        rw [rowE_m] at this
        rw [List.map_append, rowE_m]
        exact this
      · rw [World.size_setCell]; omega
    case done =>
      rintro D xs U hD hxs ⟨⟨v, hbv, hSv⟩, hB2, hz2⟩ hKm
      have hx2 : xs.map Subtype.val = zs := by rw [hxs]; exact HFZ.out
      rw [hx2] at hSv
      have cO := hbv.cell
      have HSV := Lib.hid hSv
      have HKm := Lib.hid hKm
      clear hxs hx2 hSv hbv hKm hO b5
      go_wp2
      have hbk := belowK_b (w := w) (Nat.le_refl _) U D _ (.deferred none) (by omega) HKm.out rfl rfl
      refine ⟨by simp, .inl ⟨_, _, rfl, run_takeDeferred HKm.out, ?_⟩⟩
      obtain ⟨A', c', rfl⟩ := Kd.R_slice (Kd.S_R HSV.out)
      refine ⟨.tuple #[.slice A' zs.length c', .bool false, .int .i64 0], by simp [results, Try.results12, go_sem], ?_⟩
      rw [HANS.out]
      refine ⟨_, rfl, Kd.S_mono (Kd.S_step (Kd.S_bound HSV.out) (fun k hk _ => World.putObj_heap_other (fun e => ?_))) (fun _ _ => trivial), hB2.trans hbk⟩
      obtain ⟨_, _, _, q, _, cells, hc⟩ := hk
      have := HKm.out
      subst e
      rw [hc] at this
      cases this
    case stop =>
      rintro D c pre W _ _ h _
      exact h.elim
  cases b0
  rotate_left
  · -- against the rows
    have hans : addS zs (mn : Int) ds = ([], false, 12) := by
      have h0 := HCS.out.2.1 rfl
      rw [HS.out, if_neg (fun h => by injection h with h1 h2; have := HCS.out.1.2 ⟨h1, h2⟩; cases this), if_pos h0]
    have HANS := Lib.hid hans
    clear hans
    go_wp2_with (first
      | (go_at_call 28; refine (formed_calls (mn : Int) A1 c1 ds _ (Kd.C_below HX.out (HBA.out _))).mono ?_; rw [HP16.out, hf]; rintro e w1 ⟨rfl, hb1⟩; have HB1 := Lib.hid hb1; clear hb1)
      | (refine wpList_store_row rfl 53 _ _ rfl _ (.int .i64 (mn : Int) :: bys ds) _ 53 rfl rfl (blk_new rfl) (by rw [HL.out]; rfl) (by rw [HL.out]; exact size53) hone ?_; intro w2 g1 g2 g3 g4; have hb2 := (HBA.out (.cells #[.int .i64 (mn : Int), .slice A1 ds.length c1] 25)).trans (HB1.out.mono (HBA.out _).size); have HB2 := Lib.hid (g4 _ _ hb2.size (hb2.alloc hb2.size _)); have hg7 := hb2.size; have hs2 : w2.heap.size = w1.heap.size + 1 := (by rw [g3]; simp); clear g2 g3 g4 hb2)
      | (go_at_call 30; refine (equations_calls _ _ _ _).mono ?_; rintro e w' ⟨rfl, rfl⟩)
      | (go_at_call 20; refine (valid_calls A cap zs _ (Kd.C_below HR.out HB2.out)).mono ?_; rw [HV.out]; rintro e w3 ⟨rfl, hb3⟩; have HB3 := Lib.hid hb3; have g1' := (hb3.block _ (Array.getElem?_eq_some_iff.1 g1).1).trans g1; clear hb3)
      | (refine wpList_load_row rfl 53 _ rfl w1.heap.size rfl 53 _ (0, 0) _ g1' Try.underlying53 rfl (by simp only [List.size_toArray]; rw [HL.out]; exact size53) ?_)
      | (go_at_call 29; refine (HRED.out _ (HB2.out.trans (HB3.out.mono HB2.out.size))).mono ?_; rintro e w4 ⟨rfl, hb4⟩; have HB4 := Lib.hid hb4; have g1'' := (hb4.block _ (Array.getElem?_eq_some_iff.1 g1').1).trans g1'; clear hb4)
      | (refine wpList_store_row rfl 53 _ _ rfl w1.heap.size (.int .i64 (mp : Int) :: bys dp) _ 53 rfl rfl g1'' (by rw [HL2.out, List.size_toArray, HL.out]) (by rw [HL2.out]; exact size53) hone2 ?_; intro w5 p1 p2 p3 p4; have hb3 := HB2.out.trans (HB3.out.mono HB2.out.size); have hb4 := hb3.trans (HB4.out.mono hb3.size); have HB5 := Lib.hid (p4 _ _ hg7 hb4); have hsz5 := p3; have c0 : w5.cell? ⟨w1.heap.size, 0, none⟩ = some (.int .i64 (mp : Int)) := (cell_of_row w5 _ 0 _ 53 (0, 0) p1).trans (by simp); clear p2 p3 p4 hb3 hb4)
      | (refine wpList_load_row rfl 53 _ rfl w1.heap.size rfl 53 _ (0, 0) _ p1 Try.underlying53 rfl (by simp only [List.size_toArray]; rw [HL2.out]; exact size53) ?_)
      | (refine Kd.event_run rfl (exec_eql53 (x := .tmp 30) (y := .tmp 31) (m := (mp : Int)) (d := dp) rfl rfl (by rw [zrow]; rfl) HDP.out HBZ.out) ?_))
    refine ⟨.tuple #[.slice none 0 0, .bool false, .int .i64 12], by simp [results, Try.results12, go_sem], ?_⟩
    rw [HANS.out]
    exact ⟨_, rfl, Kd.S_nil _ _ _ _ _, HB5.out⟩
  · -- new
    have hans : addS zs (mn : Int) ds = (insS (mp, dp) zs, true, 0) := by
      rw [HS.out, if_neg (fun h => by injection h with h1 h2; have := HCS.out.1.2 ⟨h1, h2⟩; cases this), if_neg (fun h => by have := HCS.out.2.2 h; cases this)]
    have HANS := Lib.hid hans
    clear hans
    go_wp2_with (first
      | (go_at_call 28; refine (formed_calls (mn : Int) A1 c1 ds _ (Kd.C_below HX.out (HBA.out _))).mono ?_; rw [HP16.out, hf]; rintro e w1 ⟨rfl, hb1⟩; have HB1 := Lib.hid hb1; clear hb1)
      | (refine wpList_store_row rfl 53 _ _ rfl _ (.int .i64 (mn : Int) :: bys ds) _ 53 rfl rfl (blk_new rfl) (by rw [HL.out]; rfl) (by rw [HL.out]; exact size53) hone ?_; intro w2 g1 g2 g3 g4; have hb2 := (HBA.out (.cells #[.int .i64 (mn : Int), .slice A1 ds.length c1] 25)).trans (HB1.out.mono (HBA.out _).size); have HB2 := Lib.hid (g4 _ _ hb2.size (hb2.alloc hb2.size _)); have hg7 := hb2.size; have hs2 : w2.heap.size = w1.heap.size + 1 := (by rw [g3]; simp); clear g2 g3 g4 hb2)
      | (go_at_call 30; refine (equations_calls _ _ _ _).mono ?_; rintro e w' ⟨rfl, rfl⟩)
      | (go_at_call 20; refine (valid_calls A cap zs _ (Kd.C_below HR.out HB2.out)).mono ?_; rw [HV.out]; rintro e w3 ⟨rfl, hb3⟩; have HB3 := Lib.hid hb3; have g1' := (hb3.block _ (Array.getElem?_eq_some_iff.1 g1).1).trans g1; clear hb3)
      | (refine wpList_load_row rfl 53 _ rfl w1.heap.size rfl 53 _ (0, 0) _ g1' Try.underlying53 rfl (by simp only [List.size_toArray]; rw [HL.out]; exact size53) ?_)
      | (go_at_call 29; refine (HRED.out _ (HB2.out.trans (HB3.out.mono HB2.out.size))).mono ?_; rintro e w4 ⟨rfl, hb4⟩; have HB4 := Lib.hid hb4; have g1'' := (hb4.block _ (Array.getElem?_eq_some_iff.1 g1').1).trans g1'; clear hb4)
      | (refine wpList_store_row rfl 53 _ _ rfl w1.heap.size (.int .i64 (mp : Int) :: bys dp) _ 53 rfl rfl g1'' (by rw [HL2.out, List.size_toArray, HL.out]) (by rw [HL2.out]; exact size53) hone2 ?_; intro w5 p1 p2 p3 p4; have hb3 := HB2.out.trans (HB3.out.mono HB2.out.size); have hb4 := hb3.trans (HB4.out.mono hb3.size); have HB5 := Lib.hid (p4 _ _ hg7 hb4); have hsz5 := p3; have c0 : w5.cell? ⟨w1.heap.size, 0, none⟩ = some (.int .i64 (mp : Int)) := (cell_of_row w5 _ 0 _ 53 (0, 0) p1).trans (by simp); clear p2 p3 p4 hb3 hb4)
      | (refine wpList_load_row rfl 53 _ rfl w1.heap.size rfl 53 _ (0, 0) _ p1 Try.underlying53 rfl (by simp only [List.size_toArray]; rw [HL2.out]; exact size53) ?_)
      | (refine Kd.event_run rfl (exec_eql53 (x := .tmp 30) (y := .tmp 31) (m := (mp : Int)) (d := dp) rfl rfl (by rw [zrow]; rfl) HDP.out HBZ.out) ?_))
    have hg9 : w.heap.size ≤ w4.heap.size := by have := HB5.out.size; omega
    have h74 : w1.heap.size < w4.heap.size := by have h1 := HB3.out.size; have h2 := HB4.out.size; omega
    have hPO := (((Boxed.new w5 22 (.slice none 0 0)).alloc (.cells #[.bool false] 4)).alloc (.cells #[.slice A zs.length cap] 22))
    have hPP := ((Boxed.new (w5.alloc (.cells #[.slice none 0 0] 22)) 4 (.bool false)).alloc (.cells #[.slice A zs.length cap] 22))
    have sz0 : (((w5.alloc (.cells #[.slice none 0 0] 22)).alloc (.cells #[.bool false] 4)).alloc (.cells #[.slice A zs.length cap] 22)).heap.size = w4.heap.size + 1 + 1 + 1 := by simp [hsz5]
    have b5 : (((w5.alloc (.cells #[.slice none 0 0] 22)).alloc (.cells #[.bool false] 4)).alloc (.cells #[.slice A zs.length cap] 22)).heap[w4.heap.size + 1 + 1]? = some (.cells #[.slice A zs.length cap] 22 (0, 0)) := blk_new (by simp [hsz5])
    have hB0 : Below w.heap.size w (((w5.alloc (.cells #[.slice none 0 0] 22)).alloc (.cells #[.bool false] 4)).alloc (.cells #[.slice A zs.length cap] 22)) := ((HB5.out.alloc HB5.out.size _).alloc (by simp; omega) _).alloc (by simp; omega) _
    have h7 : (((w5.alloc (.cells #[.slice none 0 0] 22)).alloc (.cells #[.bool false] 4)).alloc (.cells #[.slice A zs.length cap] 22)).heap[w1.heap.size]? = some (.cells (.int .i64 (mp : Int) :: bys dp).toArray 53 (0, 0)) := by
      rw [Below.heap_alloc _ _ _ (by simp; omega), Below.heap_alloc _ _ _ (by simp; omega), Below.heap_alloc _ _ _ (by omega)]; exact p1
    simp only [World.size_alloc, hsz5] at hPO hPP
    have hO : OutC w.heap.size w4.heap.size [] (((w5.alloc (.cells #[.slice none 0 0] 22)).alloc (.cells #[.bool false] 4)).alloc (.cells #[.slice A zs.length cap] 22)) := ⟨_, hPO, Kd.S_nil _ _ _ _ _⟩
    generalize ((w5.alloc (.cells #[.slice none 0 0] 22)).alloc (.cells #[.bool false] 4)).alloc (.cells #[.slice A zs.length cap] 22) = W0 at *
    have hg7' : w.heap.size ≤ w1.heap.size := hg7
    clear hPO g1 g1' g1'' p1 c0 HB2 HB3 HB4 HB5 HB1 hs2 hsz5 hg7
    generalize w1.heap.size = g7 at *
    generalize w4.heap.size = g11 at *
    refine (wpIn_wide (n := 3)).1 (wpIn_rangeFunc_ownH (F := Fence.wide) (n := 3) rfl (by omega) (gf := 38) (lb := #[.pointer (some ⟨g11 + 1 + 1, 0, none⟩)]) rfl trivial (enters_of Try.func38 (by kernel_rfl) rfl)
      (iter_stops (fun x : FRow => x.1) (3 - 1) (g11 + 1 + 1) w.heap.size A cap fz W0 (by omega) (by omega) (by rw [HFL.out]; exact (cell_of_row W0 _ 0 _ 22 (0, 0) b5).trans rfl) (fun W' h => by rw [HFL.out]; rw [show fz.map (fun x : FRow => x.1) = zs from HFZ.out]; exact Kd.C_below HR.out (hB0.trans h))) belowK_t (belowK_b (by omega)) (Below.refl _ _) (fun _ => rfl)
      (fun (pre : List FRow) W => W.heap[g7]? = some (.cells (.int .i64 (mp : Int) :: bys dp).toArray 53 (0, 0)) ∧ Boxed W (g11 + 1) 4 (.bool (insL (mp, dp) (pre.map Subtype.val)).2) ∧ OutC w.heap.size g11 (insL (mp, dp) (pre.map Subtype.val)).1 W ∧ Below w.heap.size w W ∧ W0.heap.size ≤ W.heap.size)
      (fun _ _ _ => False)
      (fun s X Y row hs hg hr => by
        obtain ⟨h0, h1, h2, h3, h4⟩ := hs
        exact ⟨keep_block h0 hg hr, boxed_keep h1 hg hr, outC_round h2 hg hr, h3.grown hg (by have := h3.size; omega) (fun k e => by have := (hr k e).1; omega), Nat.le_trans h4 hg.size⟩)
      (fun _ _ _ _ _ hs _ _ => hs)
      ⟨h7, hPP, hO, hB0, Nat.le_refl _⟩
      (fun x a' Z => ∃ Bx, W0.heap.size ≤ Bx ∧ Z.heap[Bx]? = some (.cells (.int .i64 (x.m : Int) :: bys x.1.f1).toArray 53 (0, 0)) ∧ a' = { tmps := #[.slice A zs.length cap, .agg #[.int .i64 (mn : Int), .slice A1 ds.length c1], undef, .pointer (some ⟨w.heap.size, 0, none⟩), .slice none 0 0, .bool false, .int .i64 0, .pointer (some ⟨g7, 0, none⟩), .bool true, undef, undef, .pointer (some ⟨g11, 0, none⟩), .pointer (some ⟨g11 + 1, 0, none⟩), .pointer (some ⟨Bx, 0, none⟩), .tuple #[.agg (.int .i64 (mn : Int) :: bys ds).toArray, .bool true], .agg #[.int .i64 (mn : Int), .slice A1 ds.length c1], .tuple #[.agg (.int .i64 (mn : Int) :: bys ds).toArray, .bool true], .agg (.int .i64 (mn : Int) :: bys ds).toArray, .bool true, .slice A zs.length cap, .bool true, .bool false, .bool false, .bool true, .bool false, .bool false, .slice A zs.length cap, .agg (.int .i64 (mn : Int) :: bys ds).toArray, .agg (.int .i64 (mp : Int) :: bys dp).toArray, .bool false, .agg (.int .i64 (mp : Int) :: bys dp).toArray, .agg #[.int .i64 0, .int .u8 0, .int .u8 0, .int .u8 0, .int .u8 0, .int .u8 0, .int .u8 0, .int .u8 0, .int .u8 0, .int .u8 0, .int .u8 0, .int .u8 0, .int .u8 0, .int .u8 0, .int .u8 0, .int .u8 0, .int .u8 0], .bool false, undef, undef, undef, undef, undef, undef, undef, undef, undef, undef, .bool false, .pointer (some ⟨g7, 0, none⟩), .int .i64 (mp : Int), .bool false, .slice A zs.length cap, .func (.func 38) #[] #[.pointer (some ⟨g11 + 1 + 1, 0, none⟩)], .agg (.int .i64 (x.m : Int) :: bys x.1.f1).toArray, .bool true, undef, undef, undef, undef, undef, undef, undef, undef, undef, undef, undef, undef, undef, undef, undef, undef, undef, undef, undef, undef, undef, undef, undef, undef, undef, undef, undef, undef, undef, undef, undef, undef, undef, undef, undef, undef, undef, undef, undef, undef, undef, undef, undef, undef], defers := [] })
      (fun x a' s X Y row hs hg hr => by obtain ⟨Bx, h1, h2, h3⟩ := hs; exact ⟨Bx, h1, keep_block h2 hg hr, h3⟩)
      ?assign ?body ?done ?stop)
    case assign =>
      intro l pre x U K hI hK
      have hsp := x.spec
      have he : encE x.1 = #[.agg (.int .i64 (x.m : Int) :: bys x.1.f1).toArray, .bool true] := by
        unfold encE; rw [pad16_of _ hsp.2.2, x.2, x.m_eq]
      rw [he]
      have hout : ¬ LetsOut (Exit.then K (fun _ _ _ => False)) := fun ⟨_, _, h⟩ => h
      refine plain_in (by rfl) hout ?_
      simp only [List.zip_toArray, List.zip_cons_cons, List.zip_nil_right, List.foldl_toArray, List.foldl_cons, List.foldl_nil, List.setIfInBounds_toArray, List.set_cons_zero, List.set_cons_succ]
      have hl17 : (Value.int .i64 (x.m : Int) :: bys x.1.f1).length = 17 := by rw [List.length_cons, bys_len, hsp.2.2]
      have H17 := Lib.hid hl17
      have hone : ∀ v ∈ Value.int .i64 (x.m : Int) :: bys x.1.f1, v.oneCell' = true := eq_one _ _
      have HK2 := Lib.hid hK
      have HI := Lib.hid hI
      clear hl17 hsp he hK hI
      go_wp2_with (first | (refine wpList_store_row rfl 53 _ _ rfl U.heap.size (.int .i64 (x.m : Int) :: bys x.1.f1) _ 53 rfl rfl (blk_new rfl) (by rw [H17.out]; rfl) (by rw [H17.out]; exact size53) hone ?_; intro w1 g1 g2 g3 g4))
      obtain ⟨i0, i1, i2, i4, i5⟩ := HI.out
      have hwW := i4.size
      have hB1 : Below w.heap.size U w1 := g4 _ _ hwW ((Below.refl _ _).alloc hwW _)
      have hB1' : Below U.heap.size U w1 := g4 _ _ (Nat.le_refl _) ((Below.refl _ _).alloc (Nat.le_refl _) _)
      exact HK2.out _ _ ((keeps_of_below ((Below.refl _ U).alloc (Nat.le_refl _) _) _).trans (keeps_of_cells (blk_new rfl) g2 g3 _)) hB1
        ⟨(hB1'.block _ (Array.getElem?_eq_some_iff.1 i0).1).trans i0, boxed_block i1 hB1', outC_below i2 hB1', i4.trans hB1, by rw [g3]; simp; omega⟩ ⟨U.heap.size, i5, g1, rfl⟩
    case body =>
      rintro l pre x a' U hl hrec ⟨h7U, hbP, hOut, hB2, hz2⟩ ⟨Bx, hBx, hx, rfl⟩ hlen2
      have hwW := hB2.size
      have hxs := x.spec
      have hmx := x.m_lt
      have hll := lead_lt x.m hmx
      have hll2 := lead_lt mp hmp
      have hi17 : (Try.prog.info? 53).map (·.size) = some (Value.int .i64 (x.m : Int) :: bys x.1.f1).length := by rw [List.length_cons, bys_len, hxs.2.2]; exact size53
      have HXS := Lib.hid hxs
      have HI17 := Lib.hid hi17
      have hi17' : (Try.prog.info? 53).map (·.size) = some (Value.int .i64 (mp : Int) :: bys dp).length := by rw [HL2.out]; exact size53
      have HI7 := Lib.hid hi17'
      have HLEN : pre.length < 1000000 := by have := HFL.out; omega
      have hsn : insL (mp, dp) ((pre ++ [x]).map Subtype.val) = insStep (mp, dp) (insL (mp, dp) (pre.map Subtype.val)) x.1 := by simp [insL]
      have hil : ∀ p : List S25, (insL (mp, dp) p).1.length ≤ 2 * p.length := insL_len (mp, dp)
      have hil2 := hil (pre.map Subtype.val)
      rw [List.length_map] at hil2
      generalize hst : insL (mp, dp) (pre.map Subtype.val) = st at hbP hOut hsn hil2
      obtain ⟨xs0, pl⟩ := st
      simp only at hbP hOut hil2
      have HSN := Lib.hid hsn
      clear hi17 hi17' hrec hxs hO b5 hPP h7 hsn hst hil
      refine wpIn_block ?_
      refine wpIn_seq_k (fun K1 hK1 => ?_)
      -- what comes behind the first 'if'
      have rest : ∀ (t51 t52 t53 t54 t55 t56 t57 t58 t59 t60 t61 t62 t63 t64 : Value) (U2 : World) (xs2 : List S25) (pl2 : Bool), KeepsFrom W0.heap.size U U2 → Below w.heap.size U U2 → U2.heap[g7]? = some (.cells (.int .i64 (mp : Int) :: bys dp).toArray 53 (0, 0)) →
          U2.heap[Bx]? = some (.cells (.int .i64 (x.m : Int) :: bys x.1.f1).toArray 53 (0, 0)) → Boxed U2 (g11 + 1) 4 (.bool pl2) → OutC w.heap.size g11 xs2 U2 → xs2.length ≤ 3000000 → W0.heap.size ≤ U2.heap.size →
          insL (mp, dp) ((pre ++ [x]).map Subtype.val) = (xs2 ++ [mixE (mp, dp) x.1], pl2) → K1 { tmps := #[.slice A zs.length cap, .agg #[.int .i64 (mn : Int), .slice A1 ds.length c1], undef, .pointer (some ⟨w.heap.size, 0, none⟩), .slice none 0 0, .bool false, .int .i64 0, .pointer (some ⟨g7, 0, none⟩), .bool true, undef, undef, .pointer (some ⟨g11, 0, none⟩), .pointer (some ⟨g11 + 1, 0, none⟩), .pointer (some ⟨Bx, 0, none⟩), .tuple #[.agg (.int .i64 (mn : Int) :: bys ds).toArray, .bool true], .agg #[.int .i64 (mn : Int), .slice A1 ds.length c1], .tuple #[.agg (.int .i64 (mn : Int) :: bys ds).toArray, .bool true], .agg (.int .i64 (mn : Int) :: bys ds).toArray, .bool true, .slice A zs.length cap, .bool true, .bool false, .bool false, .bool true, .bool false, .bool false, .slice A zs.length cap, .agg (.int .i64 (mn : Int) :: bys ds).toArray, .agg (.int .i64 (mp : Int) :: bys dp).toArray, .bool false, .agg (.int .i64 (mp : Int) :: bys dp).toArray, .agg #[.int .i64 0, .int .u8 0, .int .u8 0, .int .u8 0, .int .u8 0, .int .u8 0, .int .u8 0, .int .u8 0, .int .u8 0, .int .u8 0, .int .u8 0, .int .u8 0, .int .u8 0, .int .u8 0, .int .u8 0, .int .u8 0, .int .u8 0], .bool false, undef, undef, undef, undef, undef, undef, undef, undef, undef, undef, .bool false, .pointer (some ⟨g7, 0, none⟩), .int .i64 (mp : Int), .bool false, .slice A zs.length cap, .func (.func 38) #[] #[.pointer (some ⟨g11 + 1 + 1, 0, none⟩)], .agg (.int .i64 (x.m : Int) :: bys x.1.f1).toArray, .bool true, t51, t52, t53, t54, t55, t56, t57, t58, t59, t60, t61, t62, t63, t64, undef, undef, undef, undef, undef, undef, undef, undef, undef, undef, undef, undef, undef, undef, undef, undef, undef, undef, undef, undef, undef, undef, undef, undef, undef, undef, undef, undef, undef, undef], defers := [] } U2 := by
        intro t51 t52 t53 t54 t55 t56 t57 t58 t59 t60 t61 t62 t63 t64 U2 xs2 pl2 hk2 hb2 h72 hx2 hP2 hO2 hl2 hz3 hans
        refine hK1 _ _ ?_
        have hwU2 := hB2.trans hb2
        have hwW2 := hwU2.size
        have c0 : U2.cell? ⟨Bx, 0, none⟩ = some (.int .i64 (x.m : Int)) := (cell_of_row U2 _ 0 _ 53 (0, 0) hx2).trans (by simp)
        have H72 := Lib.hid h72
        have HX2 := Lib.hid hx2
        have HP2 := Lib.hid hP2
        have HO2 := Lib.hid hO2
        have HK2 := Lib.hid hk2
        have HB22 := Lib.hid hb2
        have HANS2 := Lib.hid hans
        clear h72 hx2 hP2 hO2 hk2 hb2 hans
        refine wpIn_seq_k (fun K3 hK3 => ?_)
        have rest2 : ∀ (t51 t52 t53 t54 t55 t56 t57 t58 t59 t60 t61 t62 t63 t64 t65 t66 t67 t68 t69 t70 t71 t72 t73 t74 t75 t76 t77 t78 t79 t80 t81 : Value) (U3 : World) (mr : Nat) (dr : List Int), dr.length = 16 → KeepsFrom W0.heap.size U U3 → Below w.heap.size U U3 → U3.heap[g7]? = some (.cells (.int .i64 (mp : Int) :: bys dp).toArray 53 (0, 0)) →
            U3.heap[Bx]? = some (.cells (.int .i64 (mr : Int) :: bys dr).toArray 53 (0, 0)) → Boxed U3 (g11 + 1) 4 (.bool pl2) → OutC w.heap.size g11 xs2 U3 → W0.heap.size ≤ U3.heap.size →
            mixE (mp, dp) x.1 = ⟨(mr : Int), dr⟩ → K3 { tmps := #[.slice A zs.length cap, .agg #[.int .i64 (mn : Int), .slice A1 ds.length c1], undef, .pointer (some ⟨w.heap.size, 0, none⟩), .slice none 0 0, .bool false, .int .i64 0, .pointer (some ⟨g7, 0, none⟩), .bool true, undef, undef, .pointer (some ⟨g11, 0, none⟩), .pointer (some ⟨g11 + 1, 0, none⟩), .pointer (some ⟨Bx, 0, none⟩), .tuple #[.agg (.int .i64 (mn : Int) :: bys ds).toArray, .bool true], .agg #[.int .i64 (mn : Int), .slice A1 ds.length c1], .tuple #[.agg (.int .i64 (mn : Int) :: bys ds).toArray, .bool true], .agg (.int .i64 (mn : Int) :: bys ds).toArray, .bool true, .slice A zs.length cap, .bool true, .bool false, .bool false, .bool true, .bool false, .bool false, .slice A zs.length cap, .agg (.int .i64 (mn : Int) :: bys ds).toArray, .agg (.int .i64 (mp : Int) :: bys dp).toArray, .bool false, .agg (.int .i64 (mp : Int) :: bys dp).toArray, .agg #[.int .i64 0, .int .u8 0, .int .u8 0, .int .u8 0, .int .u8 0, .int .u8 0, .int .u8 0, .int .u8 0, .int .u8 0, .int .u8 0, .int .u8 0, .int .u8 0, .int .u8 0, .int .u8 0, .int .u8 0, .int .u8 0, .int .u8 0], .bool false, undef, undef, undef, undef, undef, undef, undef, undef, undef, undef, .bool false, .pointer (some ⟨g7, 0, none⟩), .int .i64 (mp : Int), .bool false, .slice A zs.length cap, .func (.func 38) #[] #[.pointer (some ⟨g11 + 1 + 1, 0, none⟩)], .agg (.int .i64 (x.m : Int) :: bys x.1.f1).toArray, .bool true, t51, t52, t53, t54, t55, t56, t57, t58, t59, t60, t61, t62, t63, t64, t65, t66, t67, t68, t69, t70, t71, t72, t73, t74, t75, t76, t77, t78, t79, t80, t81, undef, undef, undef, undef, undef, undef, undef, undef, undef, undef, undef, undef, undef], defers := [] } U3 := by
          intro t51 t52 t53 t54 t55 t56 t57 t58 t59 t60 t61 t62 t63 t64 t65 t66 t67 t68 t69 t70 t71 t72 t73 t74 t75 t76 t77 t78 t79 t80 t81 U3 mr dr hdr hk3 hb3 h73 hx3 hP3 hO3 hz4 hmix
          refine hK3 _ _ ?_
          obtain ⟨v, hbv, hSv⟩ := hO3
          have cO := hbv.cell
          have hwU3 := hB2.trans hb3
          have hwW3 := hwU3.size
          have hi3 : (Try.prog.info? 53).map (·.size) = some (Value.int .i64 (mr : Int) :: bys dr).length := by rw [List.length_cons, bys_len, hdr]; exact size53
          have HI3 := Lib.hid hi3
          have HX3 := Lib.hid hx3
          have H73 := Lib.hid h73
          have HP3 := Lib.hid hP3
          have BV := Lib.hid hbv
          have HSV := Lib.hid hSv
          have HK3 := Lib.hid hk3
          have HB3 := Lib.hid hb3
          clear hi3 hx3 h73 hP3 hbv hSv hk3 hb3 hK3
          have hout : ¬ LetsOut (Exit.inBlock 4 (ownPostG W0.heap.size (Below w.heap.size)
            (fun (pre : List FRow) W => W.heap[g7]? = some (.cells (.int .i64 (mp : Int) :: bys dp).toArray 53 (0, 0)) ∧ Boxed W (g11 + 1) 4 (.bool (insL (mp, dp) (pre.map Subtype.val)).2) ∧ OutC w.heap.size g11 (insL (mp, dp) (pre.map Subtype.val)).1 W ∧ Below w.heap.size w W ∧ W0.heap.size ≤ W.heap.size)
            (fun _ _ _ => False) (pre ++ [x]) U)) := fun ⟨_, _, h⟩ => h
          refine start_in (m := 6) (S := (fun V => V.cell? ⟨g11, 0, none⟩ = some v ∧ V.heap[Bx]? = some (.cells (.int .i64 (mr : Int) :: bys dr).toArray 53 (0, 0)) ∧ Below U3.heap.size U3 V)) (ds := [4, 5]) #[false, false, false, false, false, false] (by kernel_rfl) (by rfl) hout rfl rfl ⟨cO, HX3.out, (Below.refl _ _).drew⟩ (fun hHeld => ?_)
          refine take_ (i := 0) (N := some 82) (v := ?_) (a' := ?_) #[true, false, false, false, false, false] rfl rfl (by kernel_rfl) (fun _ _ _ h => h) (Or.inl ⟨by rfl, ?_⟩) hHeld ?_ ?_
          rotate_left
          · rintro w' ⟨s0, s1, s2⟩
            go_simp
            with_reducible rfl
          rotate_left
          · simp only [Act.put, List.setIfInBounds_toArray, List.set_cons_zero, List.set_cons_succ, i64_w, i32_w]
            rfl
          refine take_ (i := 1) (N := some 83) (v := _) (a' := ?_) #[true, true, false, false, false, false] rfl rfl (by kernel_rfl) (fun _ _ _ h => h) (row_if (by rfl) 53 _ rfl Bx rfl (.int .i64 (mr : Int) :: bys dr) 53 _ (fun _ hS => hS.2.1) Try.underlying53 rfl HI3.out) hHeld ?_ ?_
          rotate_left
          · simp only [Act.put, List.setIfInBounds_toArray, List.set_cons_zero, List.set_cons_succ, i64_w, i32_w]
            rfl
          refine one_ (i := 2) (N := some 84) #[true, true, true, false, false, false] rfl rfl (by kernel_rfl) (by decide) (fun K hK => ?_)
          refine goes_ Try.func31 (by kernel_rfl) rfl #[.agg (.int .i64 (mr : Int) :: bys dr).toArray] (by rfl) rfl rfl (by simp only [List.map_toArray, List.map_cons, List.map_nil]; rfl) ?_
          refine (row_calls (mr : Int) dr hdr _).mono ?_
          rintro e u ⟨gr, hg1, rfl, hg3, hb⟩
          refine ⟨_, rfl, ?_⟩
          obtain ⟨s0, s1, s2⟩ := hHeld
          have hgrU : U3.heap.size ≤ gr := Nat.le_trans s2.size hg1
          have t2 := s2.trans (hb.mono s2.size)
          have HG3 := Lib.hid hg3
          refine hK.out _ _ ⟨(hb.cell (World.block_lt_of_cell? _ _ s0)).trans s0, (hb.block _ (Array.getElem?_eq_some_iff.1 s1).1).trans s1, t2⟩ (fun hHeld => ?_)
          clear hK K s0 s1 s2 t2 hb hg1 hg3
          refine norm_ (a' := ?_) ?_ ?_
          rotate_left
          · show Act.put _ (some 84) _ = _
            simp only [Act.put, List.setIfInBounds_toArray, List.set_cons_zero, List.set_cons_succ, i64_w, i32_w]
            rfl
          refine one_ (i := 3) (N := some 85) #[true, true, true, true, false, false] rfl rfl (by kernel_rfl) (by decide) (fun K hK => ?_)
          obtain ⟨s0, s1, s2⟩ := hHeld
          refine event_step (by rfl) (exec_bs rfl (vs := #[(0, .agg #[.int .i64 (mr : Int), .slice (some ⟨gr, 0, none⟩) 16 16])]) (by simp only [List.map_toArray, List.map_cons, List.map_nil]; rfl) (run_bs _ gr u)) ?_
          have HU2 := Lib.hid s2
          have ha := (Below.refl u.heap.size u).alloc (Nat.le_refl _) (.cells #[.int .i64 (mr : Int), .slice (some ⟨gr, 0, none⟩) 16 16] 25)
          refine hK.out _ _ ⟨(ha.cell (World.block_lt_of_cell? _ _ s0)).trans s0, (ha.block _ (Array.getElem?_eq_some_iff.1 s1).1).trans s1, s2.trans (ha.mono s2.size)⟩ (fun hHeld => ?_)
          clear hK K s0 s1 s2 ha
          refine norm_ (a' := ?_) ?_ ?_
          rotate_left
          · show Act.put _ (some 85) _ = _
            simp only [Act.put, List.setIfInBounds_toArray, List.set_cons_zero, List.set_cons_succ, i64_w, i32_w]
            rfl
          refine last_ (i := 4) (N := some 86) #[true, true, true, true, true, false] rfl rfl (by kernel_rfl) (by decide) (fun K hK => ?_)
          have s2 := HU2.out
          have hus := s2.size
          refine app_step (by rfl) (.tmp 82) (.tmp 85) rfl U3 u w.heap.size v (xs2) (mr : Int) dr gr rfl rfl (Kd.S_mono (Kd.S_below (Kd.S_bound HSV.out) s2) (fun k hk => by have := hk.2.2.1; omega)) HG3.out (by omega) hdr (s2.mono hwW3) (by omega) (by omega) ?_
          intro v1 w1 h1 h2 h3 h4
          obtain ⟨A', c', rfl⟩ := Kd.R_slice (Kd.S_R h1)
          have bv1 : Boxed w1 g11 22 v := h4 _ _ (boxed_block BV.out s2) (fun cs e => by cases e)
          refine hK.out _ _ ?_
          clear hK K
          refine norm_ (a' := ?_) ?_ ?_
          rotate_left
          · show Act.put _ (some 86) _ = _
            simp only [Act.put, List.setIfInBounds_toArray, List.set_cons_zero, List.set_cons_succ, i64_w, i32_w]
            rfl
          refine last_ (i := 5) (N := none) #[true, true, true, true, true, true] rfl rfl (by kernel_rfl) (by decide) (fun K hK => ?_)
          refine store_step (by rfl) rfl rfl rfl rfl (run_st22 g11 v w1 A' _ c' bv1) ?_
          refine hK.out _ _ ?_
          refine done_ (by kernel_rfl) ?_
          have hs2 := HU2.out.size
          have hBf : Below w.heap.size U3 (w1.setCell ⟨g11, 0, none⟩ (.slice A' (xs2 ++ [(⟨(mr : Int), dr⟩ : S25)]).length c')) := h2.setCell (p := ⟨g11, 0, none⟩) hg9 _
          have hBp := boxed_block HP3.out HU2.out
          refine ⟨HK3.out.trans (((keeps_of_below HU2.out _).trans (keeps_app h3 h4 _)).trans (keeps_set bv1 _ _)), HB3.out.trans hBf, ?_⟩
          dsimp only
          rw [HANS2.out, hmix]
          have hBp1 : Boxed w1 (g11 + 1) 4 (.bool pl2) := h4 _ _ hBp (fun cs e => by cases e)
          refine ⟨?_, hBp1.other (B' := g11) (by omega) _, ⟨_, bv1.set _, S_own h1 bv1 _⟩, hwU3.trans hBf, ?_⟩
          · rw [Below.heap_setCell _ _ _ _ (by simp; omega)]
            exact h4 _ _ ((HU2.out.block _ (Array.getElem?_eq_some_iff.1 H73.out).1).trans H73.out) (fun cs e => by cases e)
          · rw [World.size_setCell]; omega
        have HREST2 := Lib.hid rest2
        clear rest2 hK3
        have hand := i64_and_nat x.m (lead mp) (by omega) (by omega)
        have HAND := Lib.hid hand
        have hxor := i64_xor_nat x.m mp (by omega) (by omega)
        have HXOR := Lib.hid hxor
        have hlx : (xorD x.1.f1 dp).length = 16 := by simp [xorD, List.length_zipWith, HXS.out.2.2, HDP.out]
        have HLX := Lib.hid hlx
        have j1 : (Try.prog.info? 51).map (·.size) = some (bys x.1.f1).length := by rw [bys_len, HXS.out.2.2]; exact size51
        have j2 : (Try.prog.info? 51).map (·.size) = some (bys dp).length := by rw [bys_len, HDP.out]; exact size51
        have j3 : (Try.prog.info? 53).map (·.size) = some (Value.int .i64 ((x.m ^^^ mp : Nat) : Int) :: bys (xorD x.1.f1 dp)).length := by rw [List.length_cons, bys_len, hlx]; exact size53
        have J1 := Lib.hid j1
        have J2 := Lib.hid j2
        have J3 := Lib.hid j3
        have houtK : ∀ K4 : Act → World → Prop, ¬ LetsOut (Exit.then K4 (Exit.then K3 (Exit.inBlock 4 (ownPostG W0.heap.size (Below w.heap.size)
          (fun (pre : List FRow) W => W.heap[g7]? = some (.cells (.int .i64 (mp : Int) :: bys dp).toArray 53 (0, 0)) ∧ Boxed W (g11 + 1) 4 (.bool (insL (mp, dp) (pre.map Subtype.val)).2) ∧ OutC w.heap.size g11 (insL (mp, dp) (pre.map Subtype.val)).1 W ∧ Below w.heap.size w W ∧ W0.heap.size ≤ W.heap.size)
          (fun _ _ _ => False) (pre ++ [x]) U)))) := fun K4 ⟨_, _, h⟩ => h
        clear hand hxor hlx j1 j2 j3
        refine wpIn_seq_k (fun K4 hK4 => ?_)
        have hout := houtK K4
        refine start_in (m := 6) (S := (fun V => V.cell? ⟨Bx, 0, none⟩ = some (.int .i64 (x.m : Int)) ∧ V.heap[g7]? = some (.cells (.int .i64 (mp : Int) :: bys dp).toArray 53 (0, 0)) ∧ Below U2.heap.size U2 V)) (ds := []) #[false, false, false, false, false, false] (by kernel_rfl) (by rfl) hout rfl rfl ⟨c0, H72.out, (Below.refl _ _).drew⟩ (fun hHeld => ?_)
        refine pure_ (i := 0) (N := some 65) (v := ?_) (a' := ?_) #[true, false, false, false, false, false] rfl rfl (by kernel_rfl) (fun _ _ _ h => h) (Or.inl ⟨by rfl, ?_⟩) ?_ ?_
        rotate_left
        · intro w'
          go_simp
          with_reducible rfl
        rotate_left
        · simp only [Act.put, List.setIfInBounds_toArray, List.set_cons_zero, List.set_cons_succ, i64_w, i32_w]
          rfl
        refine take_ (i := 1) (N := some 66) (v := ?_) (a' := ?_) #[true, true, false, false, false, false] rfl rfl (by kernel_rfl) (fun _ _ _ h => h) (Or.inl ⟨by rfl, ?_⟩) hHeld ?_ ?_
        rotate_left
        · rintro w' ⟨s0, s1, s2⟩
          go_simp
          with_reducible rfl
        rotate_left
        · simp only [Act.put, List.setIfInBounds_toArray, List.set_cons_zero, List.set_cons_succ, i64_w, i32_w]
          rfl
        refine take_ (i := 2) (N := some 67) (v := _) (a' := ?_) #[true, true, true, false, false, false] rfl rfl (by kernel_rfl) (fun _ _ _ h => h) (row_if (by rfl) 53 _ rfl g7 rfl (.int .i64 (mp : Int) :: bys dp) 53 _ (fun _ hS => hS.2.1) Try.underlying53 rfl HI7.out) hHeld ?_ ?_
        rotate_left
        · simp only [Act.put, List.setIfInBounds_toArray, List.set_cons_zero, List.set_cons_succ, i64_w, i32_w]
          rfl
        refine one_ (i := 3) (N := some 68) #[true, true, true, true, false, false] rfl rfl (by kernel_rfl) (by decide) (fun K hK => ?_)
        refine goes_ Try.func32 (by kernel_rfl) rfl #[.agg (.int .i64 (mp : Int) :: bys dp).toArray] (by rfl) rfl rfl (by simp only [List.map_toArray, List.map_cons, List.map_nil]; rfl) ?_
        refine (leading_calls mp hmp _ _).mono ?_
        rintro e3 u3 ⟨rfl, hb⟩
        refine ⟨_, rfl, ?_⟩
        obtain ⟨s0, s1, s2⟩ := hHeld
        have tt := s2.trans (hb.mono s2.size)
        refine hK.out _ _ ⟨(hb.cell (World.block_lt_of_cell? _ _ s0)).trans s0, (hb.block _ (Array.getElem?_eq_some_iff.1 s1).1).trans s1, tt⟩ (fun hHeld => ?_)
        clear hK K tt hb s0 s1 s2
        refine norm_ (a' := ?_) ?_ ?_
        rotate_left
        · show Act.put _ (some 68) _ = _
          simp only [Act.put, List.setIfInBounds_toArray, List.set_cons_zero, List.set_cons_succ, i64_w, i32_w]
          rfl
        refine pure_ (i := 4) (N := some 69) (v := ?_) (a' := ?_) #[true, true, true, true, true, false] rfl rfl (by kernel_rfl) (fun _ _ _ h => h) (Or.inl ⟨by rfl, ?_⟩) ?_ ?_
        rotate_left
        · intro w'
          go_simp
          with_reducible rfl
        rotate_left
        · simp only [Act.put, List.setIfInBounds_toArray, List.set_cons_zero, List.set_cons_succ, i64_w, i32_w]
          rfl
        refine pure_ (i := 5) (N := some 70) (v := ?_) (a' := ?_) #[true, true, true, true, true, true] rfl rfl (by kernel_rfl) (fun _ _ _ h => h) (Or.inl ⟨by rfl, ?_⟩) ?_ ?_
        rotate_left
        · intro w'
          go_simp
          with_reducible rfl
        rotate_left
        · simp only [Act.put, List.setIfInBounds_toArray, List.set_cons_zero, List.set_cons_succ, i64_w, i32_w]
          rfl
        refine done_ (by kernel_rfl) ?_
        obtain ⟨s0, s1, s2⟩ := hHeld
        refine hK4 _ _ ?_
        have hu3 := s2.size
        have hb3w : Below w.heap.size U u3 := HB22.out.trans (s2.mono hwW2)
        by_cases hbit : x.m &&& lead mp = 0
        · refine wpIn_cond_false (by show Value.bool _ = _; rw [HAND.out, hbit]; simp) (wpIn_skip ?_)
          refine HREST2.out _ _ _ _ _ _ _ _ _ _ _ _ _ _ _ _ _ _ _ _ _ _ _ _ _ _ _ _ _ _ _ u3 x.m x.1.f1 HXS.out.2.2 (HK2.out.trans (keeps_of_below s2 _)) hb3w s1 ((s2.block _ (Array.getElem?_eq_some_iff.1 HX2.out).1).trans HX2.out) (boxed_block HP2.out s2) (outC_below HO2.out s2) (by omega) ?_
          rw [rowE_m]
          unfold mixE
          rw [if_neg (by simpa [FRow.m] using hbit)]
        · refine wpIn_cond_true (by show Value.bool _ = _; rw [HAND.out]; congr 1; simp; omega) ?_
          have c7 : u3.cell? ⟨g7, 0, none⟩ = some (.int .i64 (mp : Int)) := (cell_of_row u3 _ 0 _ 53 (0, 0) s1).trans (by simp)
          have x3 := (s2.block _ (Array.getElem?_eq_some_iff.1 HX2.out).1).trans HX2.out
          have X3 := Lib.hid x3
          have S2 := Lib.hid s2
          have E3 := Lib.hid s1
          have HB3W := Lib.hid hb3w
          clear s2 x3 hb3w hout houtK
          have hout : ¬ LetsOut (Exit.then K3 (Exit.inBlock 4 (ownPostG W0.heap.size (Below w.heap.size)
            (fun (pre : List FRow) W => W.heap[g7]? = some (.cells (.int .i64 (mp : Int) :: bys dp).toArray 53 (0, 0)) ∧ Boxed W (g11 + 1) 4 (.bool (insL (mp, dp) (pre.map Subtype.val)).2) ∧ OutC w.heap.size g11 (insL (mp, dp) (pre.map Subtype.val)).1 W ∧ Below w.heap.size w W ∧ W0.heap.size ≤ W.heap.size)
            (fun _ _ _ => False) (pre ++ [x]) U))) := fun ⟨_, _, h⟩ => h
          refine start_in (m := 12) (S := (fun V => V.cell? ⟨Bx, 0, none⟩ = some (.int .i64 (x.m : Int)) ∧ V.cell? ⟨g7, 0, none⟩ = some (.int .i64 (mp : Int)) ∧ V.heap[Bx]? = some (.cells (.int .i64 (x.m : Int) :: bys x.1.f1).toArray 53 (0, 0)) ∧ V.heap[g7]? = some (.cells (.int .i64 (mp : Int) :: bys dp).toArray 53 (0, 0)) ∧ Below u3.heap.size u3 V)) (ds := [11]) #[false, false, false, false, false, false, false, false, false, false, false, false] (by kernel_rfl) (by rfl) hout rfl rfl ⟨s0, c7, X3.out, s1, (Below.refl _ _).drew⟩ (fun hHeld => ?_)
          refine pure_ (i := 0) (N := some 71) (v := ?_) (a' := ?_) #[true, false, false, false, false, false, false, false, false, false, false, false] rfl rfl (by kernel_rfl) (fun _ _ _ h => h) (Or.inl ⟨by rfl, ?_⟩) ?_ ?_
          rotate_left
          · intro w'
            go_simp
            with_reducible rfl
          rotate_left
          · simp only [Act.put, List.setIfInBounds_toArray, List.set_cons_zero, List.set_cons_succ, i64_w, i32_w]
            rfl
          refine pure_ (i := 2) (N := some 73) (v := ?_) (a' := ?_) #[true, false, true, false, false, false, false, false, false, false, false, false] rfl rfl (by kernel_rfl) (fun _ _ _ h => h) (Or.inl ⟨by rfl, ?_⟩) ?_ ?_
          rotate_left
          · intro w'
            go_simp
            with_reducible rfl
          rotate_left
          · simp only [Act.put, List.setIfInBounds_toArray, List.set_cons_zero, List.set_cons_succ, i64_w, i32_w]
            rfl
          refine pure_ (i := 5) (N := some 76) (v := ?_) (a' := ?_) #[true, false, true, false, false, true, false, false, false, false, false, false] rfl rfl (by kernel_rfl) (fun _ _ _ h => h) (Or.inl ⟨by rfl, ?_⟩) ?_ ?_
          rotate_left
          · intro w'
            go_simp
            with_reducible rfl
          rotate_left
          · simp only [Act.put, List.setIfInBounds_toArray, List.set_cons_zero, List.set_cons_succ, i64_w, i32_w]
            rfl
          refine pure_ (i := 7) (N := some 78) (v := ?_) (a' := ?_) #[true, false, true, false, false, true, false, true, false, false, false, false] rfl rfl (by kernel_rfl) (fun _ _ _ h => h) (Or.inl ⟨by rfl, ?_⟩) ?_ ?_
          rotate_left
          · intro w'
            go_simp
            with_reducible rfl
          rotate_left
          · simp only [Act.put, List.setIfInBounds_toArray, List.set_cons_zero, List.set_cons_succ, i64_w, i32_w]
            rfl
          refine take_ (i := 1) (N := some 72) (v := ?_) (a' := ?_) #[true, true, true, false, false, true, false, true, false, false, false, false] rfl rfl (by kernel_rfl) (fun _ _ _ h => h) (Or.inl ⟨by rfl, ?_⟩) hHeld ?_ ?_
          rotate_left
          · rintro w' ⟨s0, s1, s2, s3, s4⟩
            go_simp
            with_reducible rfl
          rotate_left
          · simp only [Act.put, List.setIfInBounds_toArray, List.set_cons_zero, List.set_cons_succ, i64_w, i32_w]
            rfl
          refine take_ (i := 3) (N := some 74) (v := ?_) (a' := ?_) #[true, true, true, true, false, true, false, true, false, false, false, false] rfl rfl (by kernel_rfl) (fun _ _ _ h => h) (Or.inl ⟨by rfl, ?_⟩) hHeld ?_ ?_
          rotate_left
          · rintro w' ⟨s0, s1, s2, s3, s4⟩
            go_simp
            with_reducible rfl
          rotate_left
          · simp only [Act.put, List.setIfInBounds_toArray, List.set_cons_zero, List.set_cons_succ, i64_w, i32_w]
            rfl
          refine pure_ (i := 4) (N := some 75) (v := ?_) (a' := ?_) #[true, true, true, true, true, true, false, true, false, false, false, false] rfl rfl (by kernel_rfl) (fun _ _ _ h => h) (Or.inl ⟨by rfl, ?_⟩) ?_ ?_
          rotate_left
          · intro w'
            go_simp
            with_reducible rfl
          rotate_left
          · simp only [Act.put, List.setIfInBounds_toArray, List.set_cons_zero, List.set_cons_succ, i64_w, i32_w]
            rfl
          refine take_ (i := 6) (N := some 77) (v := _) (a' := ?_) #[true, true, true, true, true, true, true, true, false, false, false, false] rfl rfl (by kernel_rfl) (fun _ _ _ h => h) (mid_if (by rfl) 51 _ rfl Bx rfl _ (bys x.1.f1) 53 _ (fun _ hS => hS.2.2.1) Try.underlying51 rfl J1.out) hHeld ?_ ?_
          rotate_left
          · simp only [Act.put, List.setIfInBounds_toArray, List.set_cons_zero, List.set_cons_succ, i64_w, i32_w]
            rfl
          refine take_ (i := 8) (N := some 79) (v := _) (a' := ?_) #[true, true, true, true, true, true, true, true, true, false, false, false] rfl rfl (by kernel_rfl) (fun _ _ _ h => h) (mid_if (by rfl) 51 _ rfl g7 rfl _ (bys dp) 53 _ (fun _ hS => hS.2.2.2.1) Try.underlying51 rfl J2.out) hHeld ?_ ?_
          rotate_left
          · simp only [Act.put, List.setIfInBounds_toArray, List.set_cons_zero, List.set_cons_succ, i64_w, i32_w]
            rfl
          refine one_ (i := 9) (N := some 80) #[true, true, true, true, true, true, true, true, true, true, false, false] rfl rfl (by kernel_rfl) (by decide) (fun K hK => ?_)
          refine goes_ Try.func33 (by kernel_rfl) rfl #[.agg (bys x.1.f1).toArray, .agg (bys dp).toArray] (by rfl) rfl rfl (by simp only [List.map_toArray, List.map_cons, List.map_nil]; rfl) ?_
          refine (plus_calls x.1.f1 dp HXS.out.2.2 HDP.out _).mono ?_
          rintro e4 u4 ⟨rfl, hb⟩
          refine ⟨_, rfl, ?_⟩
          obtain ⟨t0, t1, t2, t3, t4⟩ := hHeld
          have t5 := t4.trans (hb.mono t4.size)
          refine hK.out _ _ ⟨(hb.cell (World.block_lt_of_cell? _ _ t0)).trans t0, (hb.cell (World.block_lt_of_cell? _ _ t1)).trans t1, (hb.block _ (Array.getElem?_eq_some_iff.1 t2).1).trans t2, (hb.block _ (Array.getElem?_eq_some_iff.1 t3).1).trans t3, t5⟩ (fun hHeld => ?_)
          clear hK K t0 t1 t2 t3 t4 t5 hb
          refine norm_ (a' := ?_) ?_ ?_
          rotate_left
          · show Act.put _ (some 80) _ = _
            simp only [Act.put, List.setIfInBounds_toArray, List.set_cons_zero, List.set_cons_succ, i64_w, i32_w]
            rfl
          refine pure_ (i := 10) (N := some 81) (v := .agg (.int .i64 ((x.m ^^^ mp : Nat) : Int) :: bys (xorD x.1.f1 dp)).toArray) (a' := ?_) #[true, true, true, true, true, true, true, true, true, true, true, false] rfl rfl (by kernel_rfl) (fun _ _ _ h => h) (Or.inl ⟨by rfl, ?_⟩) ?_ ?_
          · intro w'
            refine exec_build rfl (vs := #[(0, .int .i64 ((x.m ^^^ mp : Nat) : Int)), (1, .agg (bys (xorD x.1.f1 dp)).toArray)]) ?_ (run_build53 _ _ HLX.out _)
            simp only [List.map_toArray, List.map_cons, List.map_nil]
            rw [← HXOR.out]
            rfl
          rotate_left
          · simp only [Act.put, List.setIfInBounds_toArray, List.set_cons_zero, List.set_cons_succ, i64_w, i32_w]
            rfl
          refine last_ (i := 11) (N := none) #[true, true, true, true, true, true, true, true, true, true, true, true] rfl rfl (by kernel_rfl) (by decide) (fun K hK => ?_)
          obtain ⟨t0, t1, t2, t3, t4⟩ := hHeld
          refine skip_row (by rfl) rfl 53 _ _ rfl Bx (.int .i64 ((x.m ^^^ mp : Nat) : Int) :: bys (xorD x.1.f1 dp)) _ 53 rfl rfl t2 (by simp only [List.size_toArray, List.length_cons, bys_len, HXS.out.2.2, HLX.out]) J3.out (eq_one _ _) ?_
          intro w1 q1 q2 q3 q4
          refine hK.out _ _ ?_
          refine done_ (by kernel_rfl) ?_
          have h34 := t4.size
          have hq4 : Below w.heap.size u3 w1 := q4 _ _ (by omega) (t4.mono (by omega))
          have ho4 := outC_below (outC_below HO2.out S2.out) t4
          refine HREST2.out _ _ _ _ _ _ _ _ _ _ _ _ _ _ _ _ _ _ _ _ _ _ _ _ _ _ _ _ _ _ _ w1 (x.m ^^^ mp) (xorD x.1.f1 dp) HLX.out ((HK2.out.trans (keeps_of_below S2.out _)).trans ((keeps_of_below t4 _).trans (keeps_of_cells t2 q2 q3 _))) (HB3W.out.trans hq4) ?_ q1 ?_ (outC_write ho4 t2 (by decide) (by decide) (by omega) q2) (by omega) ?_
          · rw [q2 _ (by omega)]; exact t3
          · exact (q2 _ (by omega)).trans (boxed_block (boxed_block HP2.out S2.out) t4)
          · unfold mixE
            rw [if_pos (by simpa [FRow.m] using hbit)]
            rfl
      have hout2 : ∀ K2 : Act → World → Prop, ¬ LetsOut (Exit.then K2 (Exit.then K1 (Exit.inBlock 4 (ownPostG W0.heap.size (Below w.heap.size)
        (fun (pre : List FRow) W => W.heap[g7]? = some (.cells (.int .i64 (mp : Int) :: bys dp).toArray 53 (0, 0)) ∧ Boxed W (g11 + 1) 4 (.bool (insL (mp, dp) (pre.map Subtype.val)).2) ∧ OutC w.heap.size g11 (insL (mp, dp) (pre.map Subtype.val)).1 W ∧ Below w.heap.size w W ∧ W0.heap.size ≤ W.heap.size)
        (fun _ _ _ => False) (pre ++ [x]) U)))) := fun K2 ⟨_, _, h⟩ => h
      have HREST := Lib.hid rest
      clear rest hK1
      refine wpIn_seq_k (fun K2 hK2 => ?_)
      have hout := hout2 K2
      have cP := hbP.cell
      have H7U := Lib.hid h7U
      have HX := Lib.hid hx
      have BP := Lib.hid hbP
      have HO := Lib.hid hOut
      clear h7U hx hbP hOut
      cases pl
      · refine start_in (m := 9) (S := (fun V => V.cell? ⟨g11 + 1, 0, none⟩ = some (.bool false) ∧ V.heap[Bx]? = some (.cells (.int .i64 (x.m : Int) :: bys x.1.f1).toArray 53 (0, 0)) ∧ V.heap[g7]? = some (.cells (.int .i64 (mp : Int) :: bys dp).toArray 53 (0, 0)) ∧ Below U.heap.size U V)) (ds := []) #[false, false, false, false, false, false, false, false, false] (by kernel_rfl) (by rfl) hout rfl rfl ⟨cP, HX.out, H7U.out, (Below.refl _ _).drew⟩ (fun hHeld => ?_)
        refine take_ (i := 0) (N := some 51) (v := ?_) (a' := ?_) #[true, false, false, false, false, false, false, false, false] rfl rfl (by kernel_rfl) (fun _ _ _ h => h) (Or.inl ⟨by rfl, ?_⟩) hHeld ?_ ?_
        rotate_left
        · rintro w' ⟨s0, s1, s2, s3⟩
          go_simp
          with_reducible rfl
        rotate_left
        · simp only [Act.put, List.setIfInBounds_toArray, List.set_cons_zero, List.set_cons_succ, i64_w, i32_w]
          rfl
        refine pure_ (i := 1) (N := some 52) (v := ?_) (a' := ?_) #[true, true, false, false, false, false, false, false, false] rfl rfl (by kernel_rfl) (fun _ _ _ h => h) (Or.inl ⟨by rfl, ?_⟩) ?_ ?_
        rotate_left
        · intro w'
          go_simp
          with_reducible rfl
        rotate_left
        · simp only [Act.put, List.setIfInBounds_toArray, List.set_cons_zero, List.set_cons_succ, i64_w, i32_w]
          rfl
        refine pure_ (i := 2) (N := some 53) (v := ?_) (a' := ?_) #[true, true, true, false, false, false, false, false, false] rfl rfl (by kernel_rfl) (fun _ _ _ h => h) (Or.inl ⟨by rfl, ?_⟩) ?_ ?_
        rotate_left
        · intro w'
          go_simp
          with_reducible rfl
        rotate_left
        · simp only [Act.put, List.setIfInBounds_toArray, List.set_cons_zero, List.set_cons_succ, i64_w, i32_w]
          rfl
        refine take_ (i := 3) (N := some 54) (v := _) (a' := ?_) #[true, true, true, true, false, false, false, false, false] rfl rfl (by kernel_rfl) (fun _ _ _ h => h) (row_if (by rfl) 53 _ rfl Bx rfl (.int .i64 (x.m : Int) :: bys x.1.f1) 53 _ (fun _ hS => hS.2.1) Try.underlying53 rfl HI17.out) hHeld ?_ ?_
        rotate_left
        · simp only [Act.put, List.setIfInBounds_toArray, List.set_cons_zero, List.set_cons_succ, i64_w, i32_w]
          rfl
        refine take_ (i := 5) (N := some 56) (v := _) (a' := ?_) #[true, true, true, true, false, true, false, false, false] rfl rfl (by kernel_rfl) (fun _ _ _ h => h) (row_if (by rfl) 53 _ rfl g7 rfl (.int .i64 (mp : Int) :: bys dp) 53 _ (fun _ hS => hS.2.2.1) Try.underlying53 rfl HI7.out) hHeld ?_ ?_
        rotate_left
        · simp only [Act.put, List.setIfInBounds_toArray, List.set_cons_zero, List.set_cons_succ, i64_w, i32_w]
          rfl
        refine one_ (i := 4) (N := some 55) #[true, true, true, true, true, true, false, false, false] rfl rfl (by kernel_rfl) (by decide) (fun K hK => ?_)
        refine goes_ Try.func32 (by kernel_rfl) rfl #[.agg (.int .i64 (x.m : Int) :: bys x.1.f1).toArray] (by rfl) rfl rfl (by simp only [List.map_toArray, List.map_cons, List.map_nil]; rfl) ?_
        refine (leading_calls x.m hmx _ _).mono ?_
        rintro e1 u1 ⟨rfl, hb⟩
        refine ⟨_, rfl, ?_⟩
        obtain ⟨s0, s1, s2, s3⟩ := hHeld
        have tt := s3.trans (hb.mono s3.size)
        refine hK.out _ _ ⟨(hb.cell (World.block_lt_of_cell? _ _ s0)).trans s0, (hb.block _ (Array.getElem?_eq_some_iff.1 s1).1).trans s1, (hb.block _ (Array.getElem?_eq_some_iff.1 s2).1).trans s2, tt⟩ (fun hHeld => ?_)
        clear hK K tt hb s0 s1 s2 s3
        refine norm_ (a' := ?_) ?_ ?_
        rotate_left
        · show Act.put _ (some 55) _ = _
          simp only [Act.put, List.setIfInBounds_toArray, List.set_cons_zero, List.set_cons_succ, i64_w, i32_w]
          rfl
        refine one_ (i := 6) (N := some 57) #[true, true, true, true, true, true, true, false, false] rfl rfl (by kernel_rfl) (by decide) (fun K hK => ?_)
        refine goes_ Try.func32 (by kernel_rfl) rfl #[.agg (.int .i64 (mp : Int) :: bys dp).toArray] (by rfl) rfl rfl (by simp only [List.map_toArray, List.map_cons, List.map_nil]; rfl) ?_
        refine (leading_calls mp hmp _ _).mono ?_
        rintro e2 u2 ⟨rfl, hb⟩
        refine ⟨_, rfl, ?_⟩
        obtain ⟨s0, s1, s2, s3⟩ := hHeld
        have tt := s3.trans (hb.mono s3.size)
        refine hK.out _ _ ⟨(hb.cell (World.block_lt_of_cell? _ _ s0)).trans s0, (hb.block _ (Array.getElem?_eq_some_iff.1 s1).1).trans s1, (hb.block _ (Array.getElem?_eq_some_iff.1 s2).1).trans s2, tt⟩ (fun hHeld => ?_)
        clear hK K tt hb s0 s1 s2 s3
        refine norm_ (a' := ?_) ?_ ?_
        rotate_left
        · show Act.put _ (some 57) _ = _
          simp only [Act.put, List.setIfInBounds_toArray, List.set_cons_zero, List.set_cons_succ, i64_w, i32_w]
          rfl
        refine pure_ (i := 7) (N := some 58) (v := ?_) (a' := ?_) #[true, true, true, true, true, true, true, true, false] rfl rfl (by kernel_rfl) (fun _ _ _ h => h) (Or.inl ⟨by rfl, ?_⟩) ?_ ?_
        rotate_left
        · intro w'
          go_simp
          with_reducible rfl
        rotate_left
        · simp only [Act.put, List.setIfInBounds_toArray, List.set_cons_zero, List.set_cons_succ, i64_w, i32_w]
          rfl
        refine pure_ (i := 8) (N := some 59) (v := ?_) (a' := ?_) #[true, true, true, true, true, true, true, true, true] rfl rfl (by kernel_rfl) (fun _ _ _ h => h) (Or.inl ⟨by rfl, ?_⟩) ?_ ?_
        rotate_left
        · intro w'
          go_simp
          with_reducible rfl
        rotate_left
        · simp only [Act.put, List.setIfInBounds_toArray, List.set_cons_zero, List.set_cons_succ, i64_w, i32_w]
          rfl
        refine done_ (by kernel_rfl) ?_
        obtain ⟨t0, t1, t2, t3⟩ := hHeld
        have hu2 := t3.size
        have hwu2 : w.heap.size ≤ u2.heap.size := by omega
        refine hK2 _ _ ?_
        by_cases hlt : lead x.m < lead mp
        · refine wpIn_cond_true (by show Value.bool _ = _; congr 1; simp; omega) ?_
          obtain ⟨v, hbv, hSv⟩ := outC_below HO.out t3
          have cO := hbv.cell
          have BV := Lib.hid hbv
          have HSV := Lib.hid hSv
          have T3 := Lib.hid t3
          have T2 := Lib.hid t2
          have T1 := Lib.hid t1
          clear hbv hSv t3 hout hout2
          have hout : ¬ LetsOut (Exit.then K1 (Exit.inBlock 4 (ownPostG W0.heap.size (Below w.heap.size)
            (fun (pre : List FRow) W => W.heap[g7]? = some (.cells (.int .i64 (mp : Int) :: bys dp).toArray 53 (0, 0)) ∧ Boxed W (g11 + 1) 4 (.bool (insL (mp, dp) (pre.map Subtype.val)).2) ∧ OutC w.heap.size g11 (insL (mp, dp) (pre.map Subtype.val)).1 W ∧ Below w.heap.size w W ∧ W0.heap.size ≤ W.heap.size)
            (fun _ _ _ => False) (pre ++ [x]) U))) := fun ⟨_, _, h⟩ => h
          refine start_in (m := 7) (S := (fun V => V.cell? ⟨g11, 0, none⟩ = some v ∧ V.heap[g7]? = some (.cells (.int .i64 (mp : Int) :: bys dp).toArray 53 (0, 0)) ∧ Below u2.heap.size u2 V)) (ds := [4, 5, 6]) #[false, false, false, false, false, false, false] (by kernel_rfl) (by rfl) hout rfl rfl ⟨cO, t2, (Below.refl _ _).drew⟩ (fun hHeld => ?_)
          refine take_ (i := 0) (N := some 60) (v := ?_) (a' := ?_) #[true, false, false, false, false, false, false] rfl rfl (by kernel_rfl) (fun _ _ _ h => h) (Or.inl ⟨by rfl, ?_⟩) hHeld ?_ ?_
          rotate_left
          · rintro w' ⟨s0, s1, s2⟩
            go_simp
            with_reducible rfl
          rotate_left
          · simp only [Act.put, List.setIfInBounds_toArray, List.set_cons_zero, List.set_cons_succ, i64_w, i32_w]
            rfl
          refine take_ (i := 1) (N := some 61) (v := _) (a' := ?_) #[true, true, false, false, false, false, false] rfl rfl (by kernel_rfl) (fun _ _ _ h => h) (row_if (by rfl) 53 _ rfl g7 rfl (.int .i64 (mp : Int) :: bys dp) 53 _ (fun _ hS => hS.2.1) Try.underlying53 rfl HI7.out) hHeld ?_ ?_
          rotate_left
          · simp only [Act.put, List.setIfInBounds_toArray, List.set_cons_zero, List.set_cons_succ, i64_w, i32_w]
            rfl
          refine one_ (i := 2) (N := some 62) #[true, true, true, false, false, false, false] rfl rfl (by kernel_rfl) (by decide) (fun K hK => ?_)
          refine goes_ Try.func31 (by kernel_rfl) rfl #[.agg (.int .i64 (mp : Int) :: bys dp).toArray] (by rfl) rfl rfl (by simp only [List.map_toArray, List.map_cons, List.map_nil]; rfl) ?_
          refine (row_calls (mp : Int) dp HDP.out _).mono ?_
          rintro e u ⟨gr, hg1, rfl, hg3, hb⟩
          refine ⟨_, rfl, ?_⟩
          obtain ⟨s0, s1, s2⟩ := hHeld
          have hgrU : u2.heap.size ≤ gr := Nat.le_trans s2.size hg1
          have t2 := s2.trans (hb.mono s2.size)
          have HG3 := Lib.hid hg3
          refine hK.out _ _ ⟨(hb.cell (World.block_lt_of_cell? _ _ s0)).trans s0, (hb.block _ (Array.getElem?_eq_some_iff.1 s1).1).trans s1, t2⟩ (fun hHeld => ?_)
          clear hK K s0 s1 s2 t2 hb hg1 hg3
          refine norm_ (a' := ?_) ?_ ?_
          rotate_left
          · show Act.put _ (some 62) _ = _
            simp only [Act.put, List.setIfInBounds_toArray, List.set_cons_zero, List.set_cons_succ, i64_w, i32_w]
            rfl
          refine one_ (i := 3) (N := some 63) #[true, true, true, true, false, false, false] rfl rfl (by kernel_rfl) (by decide) (fun K hK => ?_)
          obtain ⟨s0, s1, s2⟩ := hHeld
          refine event_step (by rfl) (exec_bs rfl (vs := #[(0, .agg #[.int .i64 (mp : Int), .slice (some ⟨gr, 0, none⟩) 16 16])]) (by simp only [List.map_toArray, List.map_cons, List.map_nil]; rfl) (run_bs _ gr u)) ?_
          have HU2 := Lib.hid s2
          have ha := (Below.refl u.heap.size u).alloc (Nat.le_refl _) (.cells #[.int .i64 (mp : Int), .slice (some ⟨gr, 0, none⟩) 16 16] 25)
          refine hK.out _ _ ⟨(ha.cell (World.block_lt_of_cell? _ _ s0)).trans s0, (ha.block _ (Array.getElem?_eq_some_iff.1 s1).1).trans s1, s2.trans (ha.mono s2.size)⟩ (fun hHeld => ?_)
          clear hK K s0 s1 s2 ha
          refine norm_ (a' := ?_) ?_ ?_
          rotate_left
          · show Act.put _ (some 63) _ = _
            simp only [Act.put, List.setIfInBounds_toArray, List.set_cons_zero, List.set_cons_succ, i64_w, i32_w]
            rfl
          refine last_ (i := 4) (N := some 64) #[true, true, true, true, true, false, false] rfl rfl (by kernel_rfl) (by decide) (fun K hK => ?_)
          have s2 := HU2.out
          have hus := s2.size
          refine app_step (by rfl) (.tmp 60) (.tmp 63) rfl u2 u w.heap.size v (xs0) (mp : Int) dp gr rfl rfl (Kd.S_mono (Kd.S_below (Kd.S_bound HSV.out) s2) (fun k hk => by have := hk.2.2.1; omega)) HG3.out (by omega) HDP.out (s2.mono hwu2) (by omega) (by omega) ?_
          intro v1 w1 h1 h2 h3 h4
          obtain ⟨A', c', rfl⟩ := Kd.R_slice (Kd.S_R h1)
          have bv1 : Boxed w1 g11 22 v := h4 _ _ (boxed_block BV.out s2) (fun cs e => by cases e)
          refine hK.out _ _ ?_
          clear hK K
          refine norm_ (a' := ?_) ?_ ?_
          rotate_left
          · show Act.put _ (some 64) _ = _
            simp only [Act.put, List.setIfInBounds_toArray, List.set_cons_zero, List.set_cons_succ, i64_w, i32_w]
            rfl
          refine last_ (i := 5) (N := none) #[true, true, true, true, true, true, false] rfl rfl (by kernel_rfl) (by decide) (fun K hK => ?_)
          refine store_step (by rfl) rfl rfl rfl rfl (run_st22 g11 v w1 A' _ c' bv1) ?_
          refine hK.out _ _ ?_
          clear hK K
          have bp1 : Boxed w1 (g11 + 1) 4 (.bool false) := h4 _ _ (boxed_block (boxed_block BP.out T3.out) s2) (fun cs e => by cases e)
          have bp2 := bp1.other (B' := g11) (by omega) (.slice A' (xs0 ++ [(⟨(mp : Int), dp⟩ : S25)]).length c')
          refine last_ (i := 6) (N := none) #[true, true, true, true, true, true, true] rfl rfl (by kernel_rfl) (by decide) (fun K hK => ?_)
          refine store_step (by rfl) rfl rfl rfl rfl (run_st4 (g11 + 1) (.bool false) _ true bp2) ?_
          refine hK.out _ _ ?_
          refine done_ (by kernel_rfl) ?_
          have hBf : Below w.heap.size u2 ((w1.setCell ⟨g11, 0, none⟩ (.slice A' (xs0 ++ [(⟨(mp : Int), dp⟩ : S25)]).length c')).setCell ⟨g11 + 1, 0, none⟩ (.bool true)) := (h2.setCell (p := ⟨g11, 0, none⟩) hg9 _).setCell (p := ⟨g11 + 1, 0, none⟩) (by simp; omega) _
          have hrow : ∀ (k : Nat) (c : Array Value), k < g11 ∨ g11 + 1 < k → u2.heap[k]? = some (.cells c 53 (0, 0)) → ((w1.setCell ⟨g11, 0, none⟩ (.slice A' (xs0 ++ [(⟨(mp : Int), dp⟩ : S25)]).length c')).setCell ⟨g11 + 1, 0, none⟩ (.bool true)).heap[k]? = some (.cells c 53 (0, 0)) := by
            intro k c hk hc
            rw [Below.heap_setCell _ _ _ _ (by simp; omega), Below.heap_setCell _ _ _ _ (by simp; omega)]
            exact h4 _ _ ((HU2.out.block _ (Array.getElem?_eq_some_iff.1 hc).1).trans hc) (fun cs e => by cases e)
          have hs1 := S_own h1 bv1 (.slice A' (xs0 ++ [(⟨(mp : Int), dp⟩ : S25)]).length c')
          refine HREST.out _ _ _ _ _ _ _ _ _ _ _ _ _ _ _ (xs0 ++ [(⟨(mp : Int), dp⟩ : S25)]) true ((keeps_of_below T3.out _).trans ((((keeps_of_below HU2.out _).trans (keeps_app h3 h4 _)).trans (keeps_set bv1 _ _)).trans (keeps_set bp2 _ _))) ((T3.out.mono hwW).trans hBf) (hrow _ _ (by omega) T2.out) (hrow _ _ (by omega) T1.out) (bp2.set _)
            (outC_write ⟨_, bv1.set _, hs1⟩ bp2 (by decide) (by decide) (by omega) (fun k hk => Below.heap_setCell _ _ _ _ hk)) (by simp; omega) (by rw [World.size_setCell, World.size_setCell]; have := HU2.out.size; omega) ?_
          rw [HSN.out]
          unfold insStep
          rw [if_pos ⟨rfl, hlt⟩]
          simp [rowE]
        · refine wpIn_cond_false (by show Value.bool _ = _; congr 1; simp; omega) (wpIn_skip ?_)
          refine HREST.out _ _ _ _ _ _ _ _ _ _ _ _ _ _ u2 xs0 false (keeps_of_below t3 _) (t3.mono hwW) t2 t1 (boxed_block BP.out t3) (outC_below HO.out t3) (by omega) (by omega) ?_
          rw [HSN.out]
          unfold insStep
          rw [if_neg (fun h => hlt h.2)]
      · refine start_in (m := 9) (S := (fun V => V.cell? ⟨g11 + 1, 0, none⟩ = some (.bool true) ∧ Below U.heap.size U V)) (ds := []) #[false, false, false, false, false, false, false, false, false] (by kernel_rfl) (by rfl) hout rfl rfl ⟨cP, (Below.refl _ _).drew⟩ (fun hHeld => ?_)
        refine take_ (i := 0) (N := some 51) (v := ?_) (a' := ?_) #[true, false, false, false, false, false, false, false, false] rfl rfl (by kernel_rfl) (fun _ _ _ h => h) (Or.inl ⟨by rfl, ?_⟩) hHeld ?_ ?_
        rotate_left
        · rintro w' ⟨s0, s1⟩
          go_simp
          with_reducible rfl
        rotate_left
        · simp only [Act.put, List.setIfInBounds_toArray, List.set_cons_zero, List.set_cons_succ, i64_w, i32_w]
          rfl
        refine pure_ (i := 1) (N := some 52) (v := ?_) (a' := ?_) #[true, true, false, false, false, false, false, false, false] rfl rfl (by kernel_rfl) (fun _ _ _ h => h) (Or.inl ⟨by rfl, ?_⟩) ?_ ?_
        rotate_left
        · intro w'
          go_simp
          with_reducible rfl
        rotate_left
        · simp only [Act.put, List.setIfInBounds_toArray, List.set_cons_zero, List.set_cons_succ, i64_w, i32_w]
          rfl
        refine pure_ (i := 2) (N := some 53) (v := ?_) (a' := ?_) #[true, true, true, false, false, false, false, false, false] rfl rfl (by kernel_rfl) (fun _ _ _ h => h) (Or.inl ⟨by rfl, ?_⟩) ?_ ?_
        rotate_left
        · intro w'
          go_simp
          with_reducible rfl
        rotate_left
        · simp only [Act.put, List.setIfInBounds_toArray, List.set_cons_zero, List.set_cons_succ, i64_w, i32_w]
          rfl
        refine pure_ (i := 3) (N := some 54) (v := undef) (a' := ?_) #[true, true, true, true, false, false, false, false, false] rfl rfl (by kernel_rfl) (fun _ _ _ h => h) (Or.inr ⟨by rfl, rfl⟩) ?_ ?_
        rotate_left
        · simp only [Act.put, List.setIfInBounds_toArray, List.set_cons_zero, List.set_cons_succ, i64_w, i32_w]
          rfl
        refine pure_ (i := 4) (N := some 55) (v := undef) (a' := ?_) #[true, true, true, true, true, false, false, false, false] rfl rfl (by kernel_rfl) (fun _ _ _ h => h) (Or.inr ⟨by rfl, rfl⟩) ?_ ?_
        rotate_left
        · simp only [Act.put, List.setIfInBounds_toArray, List.set_cons_zero, List.set_cons_succ, i64_w, i32_w]
          rfl
        refine pure_ (i := 5) (N := some 56) (v := undef) (a' := ?_) #[true, true, true, true, true, true, false, false, false] rfl rfl (by kernel_rfl) (fun _ _ _ h => h) (Or.inr ⟨by rfl, rfl⟩) ?_ ?_
        rotate_left
        · simp only [Act.put, List.setIfInBounds_toArray, List.set_cons_zero, List.set_cons_succ, i64_w, i32_w]
          rfl
        refine pure_ (i := 6) (N := some 57) (v := undef) (a' := ?_) #[true, true, true, true, true, true, true, false, false] rfl rfl (by kernel_rfl) (fun _ _ _ h => h) (Or.inr ⟨by rfl, rfl⟩) ?_ ?_
        rotate_left
        · simp only [Act.put, List.setIfInBounds_toArray, List.set_cons_zero, List.set_cons_succ, i64_w, i32_w]
          rfl
        refine pure_ (i := 7) (N := some 58) (v := undef) (a' := ?_) #[true, true, true, true, true, true, true, true, false] rfl rfl (by kernel_rfl) (fun _ _ _ h => h) (Or.inr ⟨by rfl, rfl⟩) ?_ ?_
        rotate_left
        · simp only [Act.put, List.setIfInBounds_toArray, List.set_cons_zero, List.set_cons_succ, i64_w, i32_w]
          rfl
        refine pure_ (i := 8) (N := some 59) (v := ?_) (a' := ?_) #[true, true, true, true, true, true, true, true, true] rfl rfl (by kernel_rfl) (fun _ _ _ h => h) (Or.inl ⟨by rfl, ?_⟩) ?_ ?_
        rotate_left
        · intro w'
          go_simp
          with_reducible rfl
        rotate_left
        · simp only [Act.put, List.setIfInBounds_toArray, List.set_cons_zero, List.set_cons_succ, i64_w, i32_w]
          rfl
        refine done_ (by kernel_rfl) ?_
        obtain ⟨t0, t1⟩ := hHeld
        refine hK2 _ _ (wpIn_cond_false rfl (wpIn_skip ?_))
        refine HREST.out _ _ _ _ _ _ _ _ _ _ _ _ _ _ _ xs0 true (keeps_of_below t1 _) (t1.mono hwW) ((t1.block _ (Array.getElem?_eq_some_iff.1 H7U.out).1).trans H7U.out) ((t1.block _ (Array.getElem?_eq_some_iff.1 HX.out).1).trans HX.out) (boxed_block BP.out t1) (outC_below HO.out t1) (by omega) (by have := t1.size; omega) ?_
        rw [HSN.out]
        unfold insStep
        rw [if_neg (fun h => by cases h.1)]
    case done =>
      rintro D xs U hD hxs ⟨h7D, hbP, hOut, hB2, hz2⟩ hKm
      have hx2 : xs.map Subtype.val = zs := by rw [hxs]; exact HFZ.out
      rw [hx2] at hbP hOut
      have hil := insL_len (mp, dp) zs
      generalize hst : insL (mp, dp) zs = st at hbP hOut hil
      obtain ⟨xs0, pl⟩ := st
      simp only at hbP hOut hil
      obtain ⟨v, hbv, hSv⟩ := hOut
      have hwW := hB2.size
      have cO := hbv.cell
      have cP := hbP.cell
      have BV := Lib.hid hbv
      have BP := Lib.hid hbP
      have HSV := Lib.hid hSv
      have H7D := Lib.hid h7D
      have HKm := Lib.hid hKm
      have HST := Lib.hid hst
      have hi17' : (Try.prog.info? 53).map (·.size) = some (Value.int .i64 (mp : Int) :: bys dp).length := by rw [HL2.out]; exact size53
      have HI7 := Lib.hid hi17'
      clear hxs hx2 hbv hbP hSv h7D hKm hst hi17' hO b5 hPP h7
      cases pl
      · go_wp2
        refine wp_normal ?_
        refine start_ (n := 6) (S := (fun V => V.cell? ⟨g11, 0, none⟩ = some v ∧ V.heap[g7]? = some (.cells (.int .i64 (mp : Int) :: bys dp).toArray 53 (0, 0)) ∧ Below U.heap.size U V)) (ds := [4, 5]) #[false, false, false, false, false, false] (by kernel_rfl) rfl rfl ⟨cO, H7D.out, (Below.refl _ _).drew⟩ (fun hHeld => ?_)
        refine take_ (i := 0) (N := some 89) (v := ?_) (a' := ?_) #[true, false, false, false, false, false] rfl rfl (by kernel_rfl) (fun _ _ _ h => h) (Or.inl ⟨by rfl, ?_⟩) hHeld ?_ ?_
        rotate_left
        · rintro w' ⟨s0, s1, s2⟩
          go_simp
          with_reducible rfl
        rotate_left
        · simp only [Act.put, List.setIfInBounds_toArray, List.set_cons_zero, List.set_cons_succ, i64_w, i32_w]
          rfl
        refine take_ (i := 1) (N := some 90) (v := _) (a' := ?_) #[true, true, false, false, false, false] rfl rfl (by kernel_rfl) (fun _ _ _ h => h) (row_if (by rfl) 53 _ rfl g7 rfl (.int .i64 (mp : Int) :: bys dp) 53 _ (fun _ hS => hS.2.1) Try.underlying53 rfl HI7.out) hHeld ?_ ?_
        rotate_left
        · simp only [Act.put, List.setIfInBounds_toArray, List.set_cons_zero, List.set_cons_succ, i64_w, i32_w]
          rfl
        refine one_ (i := 2) (N := some 91) #[true, true, true, false, false, false] rfl rfl (by kernel_rfl) (by decide) (fun K hK => ?_)
        refine goes_ Try.func31 (by kernel_rfl) rfl #[.agg (.int .i64 (mp : Int) :: bys dp).toArray] (by rfl) rfl rfl (by simp only [List.map_toArray, List.map_cons, List.map_nil]; rfl) ?_
        refine (row_calls (mp : Int) dp HDP.out _).mono ?_
        rintro e u ⟨gr, hg1, rfl, hg3, hb⟩
        refine ⟨_, rfl, ?_⟩
        obtain ⟨s0, s1, s2⟩ := hHeld
        have hgrU : U.heap.size ≤ gr := Nat.le_trans s2.size hg1
        have t2 := s2.trans (hb.mono s2.size)
        have HG3 := Lib.hid hg3
        refine hK.out _ _ ⟨(hb.cell (World.block_lt_of_cell? _ _ s0)).trans s0, (hb.block _ (Array.getElem?_eq_some_iff.1 s1).1).trans s1, t2⟩ (fun hHeld => ?_)
        clear hK K s0 s1 s2 t2 hb hg1 hg3
        refine norm_ (a' := ?_) ?_ ?_
        rotate_left
        · show Act.put _ (some 91) _ = _
          simp only [Act.put, List.setIfInBounds_toArray, List.set_cons_zero, List.set_cons_succ, i64_w, i32_w]
          rfl
        refine one_ (i := 3) (N := some 92) #[true, true, true, true, false, false] rfl rfl (by kernel_rfl) (by decide) (fun K hK => ?_)
        obtain ⟨s0, s1, s2⟩ := hHeld
        refine event_step (by rfl) (exec_bs rfl (vs := #[(0, .agg #[.int .i64 (mp : Int), .slice (some ⟨gr, 0, none⟩) 16 16])]) (by simp only [List.map_toArray, List.map_cons, List.map_nil]; rfl) (run_bs _ gr u)) ?_
        have HU2 := Lib.hid s2
        have ha := (Below.refl u.heap.size u).alloc (Nat.le_refl _) (.cells #[.int .i64 (mp : Int), .slice (some ⟨gr, 0, none⟩) 16 16] 25)
        refine hK.out _ _ ⟨(ha.cell (World.block_lt_of_cell? _ _ s0)).trans s0, (ha.block _ (Array.getElem?_eq_some_iff.1 s1).1).trans s1, s2.trans (ha.mono s2.size)⟩ (fun hHeld => ?_)
        clear hK K s0 s1 s2 ha
        refine norm_ (a' := ?_) ?_ ?_
        rotate_left
        · show Act.put _ (some 92) _ = _
          simp only [Act.put, List.setIfInBounds_toArray, List.set_cons_zero, List.set_cons_succ, i64_w, i32_w]
          rfl
        refine last_ (i := 4) (N := some 93) #[true, true, true, true, true, false] rfl rfl (by kernel_rfl) (by decide) (fun K hK => ?_)
        have s2 := HU2.out
        have hus := s2.size
        refine app_step (by rfl) (.tmp 89) (.tmp 92) rfl U u w.heap.size v (xs0) (mp : Int) dp gr rfl rfl (Kd.S_mono (Kd.S_below (Kd.S_bound HSV.out) s2) (fun k hk => by have := hk.2.2.1; omega)) HG3.out (by omega) HDP.out (s2.mono hwW) (by omega) (by omega) ?_
        intro v1 w1 h1 h2 h3 h4
        obtain ⟨A', c', rfl⟩ := Kd.R_slice (Kd.S_R h1)
        have bv1 : Boxed w1 g11 22 v := h4 _ _ (boxed_block BV.out s2) (fun cs e => by cases e)
        refine hK.out _ _ ?_
        clear hK K
        refine norm_ (a' := ?_) ?_ ?_
        rotate_left
        · show Act.put _ (some 93) _ = _
          simp only [Act.put, List.setIfInBounds_toArray, List.set_cons_zero, List.set_cons_succ, i64_w, i32_w]
          rfl
        refine last_ (i := 5) (N := none) #[true, true, true, true, true, true] rfl rfl (by kernel_rfl) (by decide) (fun K hK => ?_)
        refine store_step (by rfl) rfl rfl rfl rfl (run_st22 g11 v w1 A' _ c' bv1) ?_
        refine hK.out _ _ ?_
        refine done_ (by kernel_rfl) ?_
        have bvf := bv1.set (.slice A' (xs0 ++ [(⟨(mp : Int), dp⟩ : S25)]).length c')
        have hSf := S_own h1 bv1 (.slice A' (xs0 ++ [(⟨(mp : Int), dp⟩ : S25)]).length c')
        have hBf : Below w.heap.size U (w1.setCell ⟨g11, 0, none⟩ (.slice A' (xs0 ++ [(⟨(mp : Int), dp⟩ : S25)]).length c')) := h2.setCell (p := ⟨g11, 0, none⟩) hg9 _
        have hKf : (w1.setCell ⟨g11, 0, none⟩ (.slice A' (xs0 ++ [(⟨(mp : Int), dp⟩ : S25)]).length c')).heap[D]? = some (.deferred (some [])) := by
          rw [Below.heap_setCell _ _ _ _ (by simp; omega)]
          exact h4 _ _ ((HU2.out.block _ (Array.getElem?_eq_some_iff.1 HKm.out).1).trans HKm.out) (fun cs e => by cases e)
        have hans2 : insS (mp, dp) zs = xs0 ++ [(⟨(mp : Int), dp⟩ : S25)] := by
          unfold insS; rw [HST.out]; rfl
        generalize w1.setCell ⟨g11, 0, none⟩ (.slice A' (xs0 ++ [(⟨(mp : Int), dp⟩ : S25)]).length c') = V at *
        have cO2 := bvf.cell
        have HSF := Lib.hid hSf
        have HKF := Lib.hid hKf
        clear hSf hKf bvf h1 h2 h3 h4 bv1 cO cP
        go_wp2
        refine ⟨by simp, .inl ⟨_, _, rfl, run_takeDeferred HKF.out, ?_⟩⟩
        refine ⟨.tuple #[.slice A' (xs0 ++ [(⟨(mp : Int), dp⟩ : S25)]).length c', .bool true, .int .i64 0], by simp [results, Try.results12, go_sem], ?_⟩
        rw [HANS.out, hans2]
        exact add_fin HSF.out HKF.out (by omega) (hB2.trans hBf)
      · go_wp2
        have hans2 : insS (mp, dp) zs = xs0 := by
          unfold insS; rw [HST.out]; rfl
        obtain ⟨A', c', rfl⟩ := Kd.R_slice (Kd.S_R HSV.out)
        refine ⟨by simp, .inl ⟨_, _, rfl, run_takeDeferred HKm.out, ?_⟩⟩
        refine ⟨.tuple #[.slice A' xs0.length c', .bool true, .int .i64 0], by simp [results, Try.results12, go_sem], ?_⟩
        rw [HANS.out, hans2]
        exact add_fin HSV.out HKm.out (by omega) hB2
    case stop =>
      rintro D c pre W _ _ h _
      exact h.elim
end Go.Proofs.Ytknlbeojdmeljaa.H
namespace Go.Proofs.Ytknlbeojdmeljaa.P
open Go.RowKit Go.Proofs.YtknlbeojdmeljaaW.PrintWords Go.Proofs.YtknlbeojdmeljaaW.PrintLast Go.Proofs.YtknlbeojdmeljaaW.PrintMore
attribute [local go_sem] max2_int min2_int max_two min_two max_three min_three max_four min_four   -- for this text's walks alone
set_option linter.unusedVariables false
set_option linter.unusedSimpArgs false
def slotmeshref33_Bytes.l0 : Nat → List Int → List Int → Int → Option (Bool)
  | 0, _, _, _ => none
  | k + 1, x0, x1, x5 => if x5 < (x0.length : Int) then (if 0 ≤ x5 then (if x5 < (x1.length : Int) then (if (rd x0 x5) = (rd x1 x5) then (slotmeshref33_Bytes.l0 k x0 x1 (wrap64 (x5 + 1))) else (some false)) else (none)) else (none)) else (some true)
def slotmeshref33_Bytes.f (k : Nat) (l0 : List Int) (l1 : List Int) : Option (Bool) := if (l0.length : Int) = (l1.length : Int) then (slotmeshref33_Bytes.l0 k l0 l1 0) else (some false)
set_option maxHeartbeats 8000000 in
set_option maxRecDepth 100000 in
theorem slotmeshref33_Bytes.calls (k : Nat) (A0 : Option Addr) (c0 : Nat) (l0 : List Int) (A1 : Option Addr) (c1 : Nat) (l1 : List Int) (r : Bool) (w : World) (hr0 : Kd.C (Kd.int .u8) w A0 l0.length l0) (hc0 : l0.length ≤ c0) (hr1 : Kd.C (Kd.int .u8) w A1 l1.length l1) (hc1 : l1.length ≤ c1) (h : slotmeshref33_Bytes.f k l0 l1 = some r) :
    Calls Try.prog 19 #[.slice A0 l0.length c0, .slice A1 l1.length c1] w fun e w' => e = .returned (.bool r) ∧ Drawn0 w w' := by
  have HR0 := Aside0.mk hr0
  have HC0 := Aside0.mk hc0
  clear hr0 hc0
  have HR1 := Aside0.mk hr1
  have HC1 := Aside0.mk hc1
  clear hr1 hc1
  have H : (if (l0.length : Int) = (l1.length : Int) then (slotmeshref33_Bytes.l0 k l0 l1 0) else (some false)) = some r := h
  clear h
  by_cases c3 : (l0.length : Int) = (l1.length : Int)
  · rw [if_pos c3] at H
    have c3b0 : ((l0.length : Int) == (l1.length : Int)) = true := beq_iff_eq.mpr c3
    have c3b1 : ((l0.length : Int) != (l1.length : Int)) = false := bne_eq_false_iff_eq.mpr c3
    have c3b2 : (l0.length == l1.length) = true := by first | simpa using c3 | (simp at c3 ⊢; omega)
    clear c3
    have H' := Aside0.mk H
    clear H
    go_enter Try.func19, Try.ntmps19
    go_wp2
    repeat (go_quiet (fail); try go_wp2)
    go_loopg [5] k (fun kq v5 w' => ∃ (x5_1 : Int), v5 = .int .i64 x5_1 ∧ Aside0 (slotmeshref33_Bytes.l0 kq l0 l1 x5_1 = some r) ∧ Aside0 (kq ≤ k) ∧ Drawn0 w w')
    case atStart => exact ⟨(0), (by first | rfl | (simp; done) | (simp [*]; done)), H', ⟨Nat.le_refl _⟩, by repeat (first | exact Drawn0.refl _ | apply Drawn0.step)⟩
    case round =>
      clear H'
      try clear c1
      try clear p2
      try clear c3
      try clear c3b0
      try clear c3b1
      try clear c3b2
      obtain ⟨x5_1, rfl, HA, HK1, ⟨m1, rfl⟩⟩ := hrel
      cases gk with
      | zero => exact absurd HA.out (by simp [slotmeshref33_Bytes.l0])
      | succ k1 =>
        have H := HA.out
        clear HA
        simp only [slotmeshref33_Bytes.l0] at H
        by_cases c4 : x5_1 < (l0.length : Int)
        · rw [if_pos c4] at H
          have c4b0 : decide (x5_1 < (l0.length : Int)) = true := decide_eq_true c4
          clear c4
          by_cases c5 : 0 ≤ x5_1
          · rw [if_pos c5] at H
            have c5b0 : decide (0 ≤ x5_1) = true := decide_eq_true c5
            clear c5
            by_cases c6 : x5_1 < (l1.length : Int)
            · rw [if_pos c6] at H
              have c6b0 : decide (x5_1 < (l1.length : Int)) = true := decide_eq_true c6
              clear c6
              by_cases c7 : (rd l0 x5_1) = (rd l1 x5_1)
              · rw [if_pos c7] at H
                have c7b0 : ((rd l0 x5_1) == (rd l1 x5_1)) = true := beq_iff_eq.mpr c7
                have c7b1 : ((rd l0 x5_1) != (rd l1 x5_1)) = false := bne_eq_false_iff_eq.mpr c7
                clear c7
                have H' := Aside0.mk H
                clear H
                have p157 : 0 ≤ (x5_1 : Int) := of_decide_eq_true (by first | (with_reducible assumption) | assumption)
                have q157 : x5_1 < (l0.length : Int) := of_decide_eq_true (by first | (with_reducible assumption) | assumption)
                obtain ⟨ad157, e157, hx157_0⟩ := Kd.at_int HR0.out x5_1 p157 q157
                cases e157
                replace p157 := eq_true p157
                replace q157 := eq_true q157
                have p158 : 0 ≤ (x5_1 : Int) := of_decide_eq_true (by first | (with_reducible assumption) | assumption)
                have q158 : x5_1 < (l1.length : Int) := of_decide_eq_true (by first | (with_reducible assumption) | assumption)
                obtain ⟨ad158, e158, hx158_0⟩ := Kd.at_int HR1.out x5_1 p158 q158
                cases e158
                replace p158 := eq_true p158
                replace q158 := eq_true q158
                go_wp2
                repeat (go_quiet (fail); try go_wp2)
                go_roundg k1
                case measure => have := HK1.out; omega
                case rel => exact ⟨(wrap64 (x5_1 + 1)), (by first | rfl | (simp; done) | (simp [*]; done)), H', ⟨by have := HK1.out; omega⟩, by repeat (first | exact Drawn0.refl _ | apply Drawn0.step)⟩
              · rw [if_neg c7] at H
                have c7b0 : ((rd l0 x5_1) == (rd l1 x5_1)) = false := beq_eq_false_iff_ne.mpr c7
                have c7b1 : ((rd l0 x5_1) != (rd l1 x5_1)) = true := bne_iff_ne.mpr c7
                obtain rfl := Option.some.inj H
                have p157 : 0 ≤ (x5_1 : Int) := of_decide_eq_true (by first | (with_reducible assumption) | assumption)
                have q157 : x5_1 < (l0.length : Int) := of_decide_eq_true (by first | (with_reducible assumption) | assumption)
                obtain ⟨ad157, e157, hx157_0⟩ := Kd.at_int HR0.out x5_1 p157 q157
                cases e157
                replace p157 := eq_true p157
                replace q157 := eq_true q157
                have p158 : 0 ≤ (x5_1 : Int) := of_decide_eq_true (by first | (with_reducible assumption) | assumption)
                have q158 : x5_1 < (l1.length : Int) := of_decide_eq_true (by first | (with_reducible assumption) | assumption)
                obtain ⟨ad158, e158, hx158_0⟩ := Kd.at_int HR1.out x5_1 p158 q158
                cases e158
                replace p158 := eq_true p158
                replace q158 := eq_true q158
                go_wp2
                repeat (go_quiet (fail); try go_wp2)
                go_ret
                exact ⟨by first | rfl | (simp; done) | (simp [*]; done), by repeat (first | exact Drawn0.refl _ | apply Drawn0.step)⟩
            · rw [if_neg c6] at H
              exact absurd H (by simp)
          · rw [if_neg c5] at H
            exact absurd H (by simp)
        · rw [if_neg c4] at H
          have c4b0 : decide (x5_1 < (l0.length : Int)) = false := decide_eq_false c4
          clear c4
          obtain rfl := Option.some.inj H
          go_wp2
          repeat (go_quiet (fail); try go_wp2)
          go_ret
          exact ⟨by first | rfl | (simp; done) | (simp [*]; done), by repeat (first | exact Drawn0.refl _ | apply Drawn0.step)⟩
  · rw [if_neg c3] at H
    have c3b0 : ((l0.length : Int) == (l1.length : Int)) = false := beq_eq_false_iff_ne.mpr c3
    have c3b1 : ((l0.length : Int) != (l1.length : Int)) = true := bne_iff_ne.mpr c3
    have c3b2 : (l0.length == l1.length) = false := by first | simpa using c3 | (simp at c3 ⊢; omega)
    obtain rfl := Option.some.inj H
    go_enter Try.func19, Try.ntmps19
    go_wp2
    repeat (go_quiet (fail); try go_wp2)
    go_ret
    exact ⟨by first | rfl | (simp; done) | (simp [*]; done), by repeat (first | exact Drawn0.refl _ | apply Drawn0.step)⟩
def slotmeshref33_Same.l0 : Nat → List (S25) → List (S25) → Int → Option (Bool)
  | 0, _, _, _ => none
  | k + 1, x0, x1, x5 => if x5 < (x0.length : Int) then (if 0 ≤ x5 then (if x5 < (x1.length : Int) then (if ((rd_T25 x0 x5).f0) = ((rd_T25 x1 x5).f0) then ((slotmeshref33_Bytes.f k ((rd_T25 x0 x5).f1) ((rd_T25 x1 x5).f1)).bind fun t163 => (if t163 = true then (slotmeshref33_Same.l0 k x0 x1 (wrap64 (x5 + 1))) else (some false))) else (some false)) else (none)) else (none)) else (some true)
def slotmeshref33_Same.f (k : Nat) (l0 : List (S25)) (l1 : List (S25)) : Option (Bool) := if (l0.length : Int) = (l1.length : Int) then (slotmeshref33_Same.l0 k l0 l1 0) else (some false)
set_option maxHeartbeats 8000000 in
set_option maxRecDepth 100000 in
theorem slotmeshref33_Same.calls (k : Nat) (A0 : Option Addr) (c0 : Nat) (l0 : List (S25)) (A1 : Option Addr) (c1 : Nat) (l1 : List (S25)) (r : Bool) (w : World) (hr0 : Kd.C k25 w A0 l0.length l0) (hc0 : l0.length ≤ c0) (hr1 : Kd.C k25 w A1 l1.length l1) (hc1 : l1.length ≤ c1) (h : slotmeshref33_Same.f k l0 l1 = some r) :
    Calls Try.prog 18 #[.slice A0 l0.length c0, .slice A1 l1.length c1] w fun e w' => e = .returned (.bool r) ∧ Drawn0 w w' := by
  have HR0 := Aside0.mk hr0
  have HC0 := Aside0.mk hc0
  clear hr0 hc0
  have HR1 := Aside0.mk hr1
  have HC1 := Aside0.mk hc1
  clear hr1 hc1
  have H : (if (l0.length : Int) = (l1.length : Int) then (slotmeshref33_Same.l0 k l0 l1 0) else (some false)) = some r := h
  clear h
  by_cases c3 : (l0.length : Int) = (l1.length : Int)
  · rw [if_pos c3] at H
    have c3b0 : ((l0.length : Int) == (l1.length : Int)) = true := beq_iff_eq.mpr c3
    have c3b1 : ((l0.length : Int) != (l1.length : Int)) = false := bne_eq_false_iff_eq.mpr c3
    have c3b2 : (l0.length == l1.length) = true := by first | simpa using c3 | (simp at c3 ⊢; omega)
    clear c3
    have H' := Aside0.mk H
    clear H
    go_enter Try.func18, Try.ntmps18
    go_wp2
    repeat (go_quiet (fail); try go_wp2)
    go_loopg [5] k (fun kq v5 w' => ∃ (x5_1 : Int), v5 = .int .i64 x5_1 ∧ Aside0 (slotmeshref33_Same.l0 kq l0 l1 x5_1 = some r) ∧ Aside0 (kq ≤ k) ∧ Drawn0 w w')
    case atStart => exact ⟨(0), (by first | rfl | (simp; done) | (simp [*]; done)), H', ⟨Nat.le_refl _⟩, by repeat (first | exact Drawn0.refl _ | apply Drawn0.step)⟩
    case round =>
      clear H'
      try clear c1
      try clear p2
      try clear c3
      try clear c3b0
      try clear c3b1
      try clear c3b2
      obtain ⟨x5_1, rfl, HA, HK1, ⟨m1, rfl⟩⟩ := hrel
      cases gk with
      | zero => exact absurd HA.out (by simp [slotmeshref33_Same.l0])
      | succ k1 =>
        have H := HA.out
        clear HA
        simp only [slotmeshref33_Same.l0] at H
        by_cases c4 : x5_1 < (l0.length : Int)
        · rw [if_pos c4] at H
          have c4b0 : decide (x5_1 < (l0.length : Int)) = true := decide_eq_true c4
          clear c4
          by_cases c5 : 0 ≤ x5_1
          · rw [if_pos c5] at H
            have c5b0 : decide (0 ≤ x5_1) = true := decide_eq_true c5
            clear c5
            by_cases c6 : x5_1 < (l1.length : Int)
            · rw [if_pos c6] at H
              have c6b0 : decide (x5_1 < (l1.length : Int)) = true := decide_eq_true c6
              clear c6
              by_cases c7 : ((rd_T25 l0 x5_1).f0) = ((rd_T25 l1 x5_1).f0)
              · rw [if_pos c7] at H
                have c7b0 : (((rd_T25 l0 x5_1).f0) == ((rd_T25 l1 x5_1).f0)) = true := beq_iff_eq.mpr c7
                have c7b1 : (((rd_T25 l0 x5_1).f0) != ((rd_T25 l1 x5_1).f0)) = false := bne_eq_false_iff_eq.mpr c7
                clear c7
                replace H := Option.bind_eq_some_iff.mp H
                obtain ⟨t163, A80, H⟩ := H
                replace H : (if t163 = true then (slotmeshref33_Same.l0 k1 l0 l1 (wrap64 (x5_1 + 1))) else (some false)) = some r := H
                have A8 := Aside0.mk A80
                clear A80
                by_cases c9 : t163 = true
                · subst c9
                  have H1 : (slotmeshref33_Same.l0 k1 l0 l1 (wrap64 (x5_1 + 1))) = some r := by rw [if_pos rfl] at H; exact H
                  clear H
                  have H := H1
                  clear H1
                  have H' := Aside0.mk H
                  clear H
                  have p159 : 0 ≤ (x5_1 : Int) := of_decide_eq_true (by first | (with_reducible assumption) | assumption)
                  have q159 : x5_1 < (l0.length : Int) := of_decide_eq_true (by first | (with_reducible assumption) | assumption)
                  obtain ⟨ad159, A159_1, c159_1, e159, hx159_0, hx159_1, hl159_1, hi159_1⟩ := at_T25 HR0.out x5_1 p159 q159
                  cases e159
                  have HR159_1 := Aside0.mk hi159_1
                  have HC159_1 := Aside0.mk hl159_1
                  clear hi159_1 hl159_1
                  replace p159 := eq_true p159
                  replace q159 := eq_true q159
                  have p160 : 0 ≤ (x5_1 : Int) := of_decide_eq_true (by first | (with_reducible assumption) | assumption)
                  have q160 : x5_1 < (l1.length : Int) := of_decide_eq_true (by first | (with_reducible assumption) | assumption)
                  obtain ⟨ad160, A160_1, c160_1, e160, hx160_0, hx160_1, hl160_1, hi160_1⟩ := at_T25 HR1.out x5_1 p160 q160
                  cases e160
                  have HR160_1 := Aside0.mk hi160_1
                  have HC160_1 := Aside0.mk hl160_1
                  clear hi160_1 hl160_1
                  replace p160 := eq_true p160
                  replace q160 := eq_true q160
                  have p161 : 0 ≤ (x5_1 : Int) := of_decide_eq_true (by first | (with_reducible assumption) | assumption)
                  have q161 : x5_1 < (l0.length : Int) := of_decide_eq_true (by first | (with_reducible assumption) | assumption)
                  obtain ⟨ad161, A161_1, c161_1, e161, hx161_0, hx161_1, hl161_1, hi161_1⟩ := at_T25 HR0.out x5_1 p161 q161
                  obtain rfl : ad159 = ad161 := (by injection e161)
                  have HR161_1 := Aside0.mk hi161_1
                  have HC161_1 := Aside0.mk hl161_1
                  clear hi161_1 hl161_1
                  replace p161 := eq_true p161
                  replace q161 := eq_true q161
                  have ea_ := Option.some.inj (hx159_1.symm.trans hx161_1)
                  injection ea_ with ea_ en_ ec_
                  subst ea_
                  subst ec_
                  clear en_
                  have p162 : 0 ≤ (x5_1 : Int) := of_decide_eq_true (by first | (with_reducible assumption) | assumption)
                  have q162 : x5_1 < (l1.length : Int) := of_decide_eq_true (by first | (with_reducible assumption) | assumption)
                  obtain ⟨ad162, A162_1, c162_1, e162, hx162_0, hx162_1, hl162_1, hi162_1⟩ := at_T25 HR1.out x5_1 p162 q162
                  obtain rfl : ad160 = ad162 := (by injection e162)
                  have HR162_1 := Aside0.mk hi162_1
                  have HC162_1 := Aside0.mk hl162_1
                  clear hi162_1 hl162_1
                  replace p162 := eq_true p162
                  replace q162 := eq_true q162
                  have ea_ := Option.some.inj (hx160_1.symm.trans hx162_1)
                  injection ea_ with ea_ en_ ec_
                  subst ea_
                  subst ec_
                  clear en_
                  go_wp2_with (first | (go_at_call 19; (with_reducible refine (slotmeshref33_Bytes.calls k1 _ _ ((rd_T25 l0 x5_1).f1) _ _ ((rd_T25 l1 x5_1).f1) true _ ?side1 ?side2 ?side3 ?side4 A8.out).mono ?_); (case side1 => repeat (first | exact HR161_1.out | (with_reducible refine Kd.C_alloc ?_ _) | (with_reducible refine Kd.C_drewN ?_ _) | (with_reducible refine Kd.C_drew ?_))); (case side2 => exact HC161_1.out); (case side3 => repeat (first | exact HR162_1.out | (with_reducible refine Kd.C_alloc ?_ _) | (with_reducible refine Kd.C_drewN ?_ _) | (with_reducible refine Kd.C_drew ?_))); (case side4 => exact HC162_1.out); rintro e w' ⟨rfl, ⟨nd, rfl⟩⟩; (try first | exact ⟨rfl, _, World.drewN_drewN _ _ _⟩ | exact ⟨rfl, _, Eq.trans (World.drewN_drewN _ _ _) (congrArg (World.drewN _) (Nat.add_assoc _ _ _))⟩)))
                  repeat (go_quiet (first | (go_at_call 19; (with_reducible refine (slotmeshref33_Bytes.calls k1 _ _ ((rd_T25 l0 x5_1).f1) _ _ ((rd_T25 l1 x5_1).f1) true _ ?side1 ?side2 ?side3 ?side4 A8.out).mono ?_); (case side1 => repeat (first | exact HR161_1.out | (with_reducible refine Kd.C_alloc ?_ _) | (with_reducible refine Kd.C_drewN ?_ _) | (with_reducible refine Kd.C_drew ?_))); (case side2 => exact HC161_1.out); (case side3 => repeat (first | exact HR162_1.out | (with_reducible refine Kd.C_alloc ?_ _) | (with_reducible refine Kd.C_drewN ?_ _) | (with_reducible refine Kd.C_drew ?_))); (case side4 => exact HC162_1.out); rintro e w' ⟨rfl, ⟨nd, rfl⟩⟩; (try first | exact ⟨rfl, _, World.drewN_drewN _ _ _⟩ | exact ⟨rfl, _, Eq.trans (World.drewN_drewN _ _ _) (congrArg (World.drewN _) (Nat.add_assoc _ _ _))⟩))); try go_wp2_with (first | (go_at_call 19; (with_reducible refine (slotmeshref33_Bytes.calls k1 _ _ ((rd_T25 l0 x5_1).f1) _ _ ((rd_T25 l1 x5_1).f1) true _ ?side1 ?side2 ?side3 ?side4 A8.out).mono ?_); (case side1 => repeat (first | exact HR161_1.out | (with_reducible refine Kd.C_alloc ?_ _) | (with_reducible refine Kd.C_drewN ?_ _) | (with_reducible refine Kd.C_drew ?_))); (case side2 => exact HC161_1.out); (case side3 => repeat (first | exact HR162_1.out | (with_reducible refine Kd.C_alloc ?_ _) | (with_reducible refine Kd.C_drewN ?_ _) | (with_reducible refine Kd.C_drew ?_))); (case side4 => exact HC162_1.out); rintro e w' ⟨rfl, ⟨nd, rfl⟩⟩; (try first | exact ⟨rfl, _, World.drewN_drewN _ _ _⟩ | exact ⟨rfl, _, Eq.trans (World.drewN_drewN _ _ _) (congrArg (World.drewN _) (Nat.add_assoc _ _ _))⟩))))
                  go_roundg k1
                  case measure => have := HK1.out; omega
                  case rel => exact ⟨(wrap64 (x5_1 + 1)), (by first | rfl | (simp; done) | (simp [*]; done)), H', ⟨by have := HK1.out; omega⟩, by repeat (first | exact Drawn0.refl _ | apply Drawn0.step)⟩
                · replace c9 := Bool.eq_false_iff.mpr c9
                  subst c9
                  have H1 : (some false) = some r := by rw [if_neg (show ¬ (false = true) by decide)] at H; exact H
                  clear H
                  have H := H1
                  clear H1
                  obtain rfl := Option.some.inj H
                  have p159 : 0 ≤ (x5_1 : Int) := of_decide_eq_true (by first | (with_reducible assumption) | assumption)
                  have q159 : x5_1 < (l0.length : Int) := of_decide_eq_true (by first | (with_reducible assumption) | assumption)
                  obtain ⟨ad159, A159_1, c159_1, e159, hx159_0, hx159_1, hl159_1, hi159_1⟩ := at_T25 HR0.out x5_1 p159 q159
                  cases e159
                  have HR159_1 := Aside0.mk hi159_1
                  have HC159_1 := Aside0.mk hl159_1
                  clear hi159_1 hl159_1
                  replace p159 := eq_true p159
                  replace q159 := eq_true q159
                  have p160 : 0 ≤ (x5_1 : Int) := of_decide_eq_true (by first | (with_reducible assumption) | assumption)
                  have q160 : x5_1 < (l1.length : Int) := of_decide_eq_true (by first | (with_reducible assumption) | assumption)
                  obtain ⟨ad160, A160_1, c160_1, e160, hx160_0, hx160_1, hl160_1, hi160_1⟩ := at_T25 HR1.out x5_1 p160 q160
                  cases e160
                  have HR160_1 := Aside0.mk hi160_1
                  have HC160_1 := Aside0.mk hl160_1
                  clear hi160_1 hl160_1
                  replace p160 := eq_true p160
                  replace q160 := eq_true q160
                  have p161 : 0 ≤ (x5_1 : Int) := of_decide_eq_true (by first | (with_reducible assumption) | assumption)
                  have q161 : x5_1 < (l0.length : Int) := of_decide_eq_true (by first | (with_reducible assumption) | assumption)
                  obtain ⟨ad161, A161_1, c161_1, e161, hx161_0, hx161_1, hl161_1, hi161_1⟩ := at_T25 HR0.out x5_1 p161 q161
                  obtain rfl : ad159 = ad161 := (by injection e161)
                  have HR161_1 := Aside0.mk hi161_1
                  have HC161_1 := Aside0.mk hl161_1
                  clear hi161_1 hl161_1
                  replace p161 := eq_true p161
                  replace q161 := eq_true q161
                  have ea_ := Option.some.inj (hx159_1.symm.trans hx161_1)
                  injection ea_ with ea_ en_ ec_
                  subst ea_
                  subst ec_
                  clear en_
                  have p162 : 0 ≤ (x5_1 : Int) := of_decide_eq_true (by first | (with_reducible assumption) | assumption)
                  have q162 : x5_1 < (l1.length : Int) := of_decide_eq_true (by first | (with_reducible assumption) | assumption)
                  obtain ⟨ad162, A162_1, c162_1, e162, hx162_0, hx162_1, hl162_1, hi162_1⟩ := at_T25 HR1.out x5_1 p162 q162
                  obtain rfl : ad160 = ad162 := (by injection e162)
                  have HR162_1 := Aside0.mk hi162_1
                  have HC162_1 := Aside0.mk hl162_1
                  clear hi162_1 hl162_1
                  replace p162 := eq_true p162
                  replace q162 := eq_true q162
                  have ea_ := Option.some.inj (hx160_1.symm.trans hx162_1)
                  injection ea_ with ea_ en_ ec_
                  subst ea_
                  subst ec_
                  clear en_
                  go_wp2_with (first | (go_at_call 19; (with_reducible refine (slotmeshref33_Bytes.calls k1 _ _ ((rd_T25 l0 x5_1).f1) _ _ ((rd_T25 l1 x5_1).f1) false _ ?side1 ?side2 ?side3 ?side4 A8.out).mono ?_); (case side1 => repeat (first | exact HR161_1.out | (with_reducible refine Kd.C_alloc ?_ _) | (with_reducible refine Kd.C_drewN ?_ _) | (with_reducible refine Kd.C_drew ?_))); (case side2 => exact HC161_1.out); (case side3 => repeat (first | exact HR162_1.out | (with_reducible refine Kd.C_alloc ?_ _) | (with_reducible refine Kd.C_drewN ?_ _) | (with_reducible refine Kd.C_drew ?_))); (case side4 => exact HC162_1.out); rintro e w' ⟨rfl, ⟨nd, rfl⟩⟩; (try first | exact ⟨rfl, _, World.drewN_drewN _ _ _⟩ | exact ⟨rfl, _, Eq.trans (World.drewN_drewN _ _ _) (congrArg (World.drewN _) (Nat.add_assoc _ _ _))⟩)))
                  repeat (go_quiet (first | (go_at_call 19; (with_reducible refine (slotmeshref33_Bytes.calls k1 _ _ ((rd_T25 l0 x5_1).f1) _ _ ((rd_T25 l1 x5_1).f1) false _ ?side1 ?side2 ?side3 ?side4 A8.out).mono ?_); (case side1 => repeat (first | exact HR161_1.out | (with_reducible refine Kd.C_alloc ?_ _) | (with_reducible refine Kd.C_drewN ?_ _) | (with_reducible refine Kd.C_drew ?_))); (case side2 => exact HC161_1.out); (case side3 => repeat (first | exact HR162_1.out | (with_reducible refine Kd.C_alloc ?_ _) | (with_reducible refine Kd.C_drewN ?_ _) | (with_reducible refine Kd.C_drew ?_))); (case side4 => exact HC162_1.out); rintro e w' ⟨rfl, ⟨nd, rfl⟩⟩; (try first | exact ⟨rfl, _, World.drewN_drewN _ _ _⟩ | exact ⟨rfl, _, Eq.trans (World.drewN_drewN _ _ _) (congrArg (World.drewN _) (Nat.add_assoc _ _ _))⟩))); try go_wp2_with (first | (go_at_call 19; (with_reducible refine (slotmeshref33_Bytes.calls k1 _ _ ((rd_T25 l0 x5_1).f1) _ _ ((rd_T25 l1 x5_1).f1) false _ ?side1 ?side2 ?side3 ?side4 A8.out).mono ?_); (case side1 => repeat (first | exact HR161_1.out | (with_reducible refine Kd.C_alloc ?_ _) | (with_reducible refine Kd.C_drewN ?_ _) | (with_reducible refine Kd.C_drew ?_))); (case side2 => exact HC161_1.out); (case side3 => repeat (first | exact HR162_1.out | (with_reducible refine Kd.C_alloc ?_ _) | (with_reducible refine Kd.C_drewN ?_ _) | (with_reducible refine Kd.C_drew ?_))); (case side4 => exact HC162_1.out); rintro e w' ⟨rfl, ⟨nd, rfl⟩⟩; (try first | exact ⟨rfl, _, World.drewN_drewN _ _ _⟩ | exact ⟨rfl, _, Eq.trans (World.drewN_drewN _ _ _) (congrArg (World.drewN _) (Nat.add_assoc _ _ _))⟩))))
                  go_ret
                  exact ⟨by first | rfl | (simp; done) | (simp [*]; done), by repeat (first | exact Drawn0.refl _ | apply Drawn0.step)⟩
              · rw [if_neg c7] at H
                have c7b0 : (((rd_T25 l0 x5_1).f0) == ((rd_T25 l1 x5_1).f0)) = false := beq_eq_false_iff_ne.mpr c7
                have c7b1 : (((rd_T25 l0 x5_1).f0) != ((rd_T25 l1 x5_1).f0)) = true := bne_iff_ne.mpr c7
                obtain rfl := Option.some.inj H
                have p159 : 0 ≤ (x5_1 : Int) := of_decide_eq_true (by first | (with_reducible assumption) | assumption)
                have q159 : x5_1 < (l0.length : Int) := of_decide_eq_true (by first | (with_reducible assumption) | assumption)
                obtain ⟨ad159, A159_1, c159_1, e159, hx159_0, hx159_1, hl159_1, hi159_1⟩ := at_T25 HR0.out x5_1 p159 q159
                cases e159
                have HR159_1 := Aside0.mk hi159_1
                have HC159_1 := Aside0.mk hl159_1
                clear hi159_1 hl159_1
                replace p159 := eq_true p159
                replace q159 := eq_true q159
                have p160 : 0 ≤ (x5_1 : Int) := of_decide_eq_true (by first | (with_reducible assumption) | assumption)
                have q160 : x5_1 < (l1.length : Int) := of_decide_eq_true (by first | (with_reducible assumption) | assumption)
                obtain ⟨ad160, A160_1, c160_1, e160, hx160_0, hx160_1, hl160_1, hi160_1⟩ := at_T25 HR1.out x5_1 p160 q160
                cases e160
                have HR160_1 := Aside0.mk hi160_1
                have HC160_1 := Aside0.mk hl160_1
                clear hi160_1 hl160_1
                replace p160 := eq_true p160
                replace q160 := eq_true q160
                go_wp2
                repeat (go_quiet (fail); try go_wp2)
                go_ret
                exact ⟨by first | rfl | (simp; done) | (simp [*]; done), by repeat (first | exact Drawn0.refl _ | apply Drawn0.step)⟩
            · rw [if_neg c6] at H
              exact absurd H (by simp)
          · rw [if_neg c5] at H
            exact absurd H (by simp)
        · rw [if_neg c4] at H
          have c4b0 : decide (x5_1 < (l0.length : Int)) = false := decide_eq_false c4
          clear c4
          obtain rfl := Option.some.inj H
          go_wp2
          repeat (go_quiet (fail); try go_wp2)
          go_ret
          exact ⟨by first | rfl | (simp; done) | (simp [*]; done), by repeat (first | exact Drawn0.refl _ | apply Drawn0.step)⟩
  · rw [if_neg c3] at H
    have c3b0 : ((l0.length : Int) == (l1.length : Int)) = false := beq_eq_false_iff_ne.mpr c3
    have c3b1 : ((l0.length : Int) != (l1.length : Int)) = true := bne_iff_ne.mpr c3
    have c3b2 : (l0.length == l1.length) = false := by first | simpa using c3 | (simp at c3 ⊢; omega)
    obtain rfl := Option.some.inj H
    go_enter Try.func18, Try.ntmps18
    go_wp2
    repeat (go_quiet (fail); try go_wp2)
    go_ret
    exact ⟨by first | rfl | (simp; done) | (simp [*]; done), by repeat (first | exact Drawn0.refl _ | apply Drawn0.step)⟩
end Go.Proofs.Ytknlbeojdmeljaa.P
namespace Go.Proofs.Ytknlbeojdmeljaa.L
open Go.RowKit Go.Proofs.YtknlbeojdmeljaaW.PrintWords Go.Proofs.YtknlbeojdmeljaaW.PrintLast Go.Proofs.YtknlbeojdmeljaaW.PrintMore Go.Proofs.Ytknlbeojdmeljaa.P Go.Proofs.Ytknlbeojdmeljaa.H
set_option linter.unusedVariables false
set_option linter.unusedSimpArgs false
/-- with fuel enough -/
def Ev {α : Type} (f : Nat → Option α) (r : α) : Prop := ∃ K, ∀ k, K ≤ k → f k = some r
theorem Ev.succ {α β : Type} {f : Nat → Option α} {g : Nat → Option β} {r : α} {s : β} (h : Ev f r) (e : ∀ k, f k = some r → g (k + 1) = some s) : Ev g s := by
  obtain ⟨K, h⟩ := h
  refine ⟨K + 1, fun k hk => ?_⟩
  obtain ⟨j, rfl⟩ : ∃ j, k = j + 1 := ⟨k - 1, by omega⟩
  exact e j (h j (by omega))
theorem Ev.map {α β : Type} {f : Nat → Option α} {g : Nat → Option β} {r : α} {s : β} (h : Ev f r) (e : ∀ k, f k = some r → g k = some s) : Ev g s := by
  obtain ⟨K, h⟩ := h
  exact ⟨K, fun k hk => e k (h k hk)⟩
theorem Ev.one {α : Type} {f : Nat → Option α} {r : α} (e : ∀ k, f (k + 1) = some r) : Ev f r := ⟨1, fun k hk => by
  obtain ⟨j, rfl⟩ : ∃ j, k = j + 1 := ⟨k - 1, by omega⟩
  exact e j⟩
theorem Ev.and {α β : Type} {f : Nat → Option α} {g : Nat → Option β} {r : α} {s : β} (h1 : Ev f r) (h2 : Ev g s) : ∃ K, ∀ k, K ≤ k → f k = some r ∧ g k = some s := by
  obtain ⟨K1, h1⟩ := h1
  obtain ⟨K2, h2⟩ := h2
  exact ⟨K1 + K2, fun k hk => ⟨h1 k (by omega), h2 k (by omega)⟩⟩
theorem wrap_succ (i : Nat) (h : i < 9223372036854775807) : wrap64 ((i : Int) + 1) = ((i + 1 : Nat) : Int) := by unfold wrap64; omega
theorem lead_spec (m : Nat) (h1 : 1 ≤ m) (h : m < 65536) : ∃ j, j < 16 ∧ lead m = 2 ^ j ∧ 2 ^ j ≤ m ∧ m < 2 ^ (j + 1) := by
  obtain ⟨h2, h3, h4⟩ := Lib.bitLenAux_bounds 64 m (by omega) (by omega)
  have h5 := bitLen16 m h
  have e : Lib.bitLen m = Lib.bitLenAux 64 m := rfl
  rw [← e] at h2 h3 h4
  refine ⟨Lib.bitLen m - 1, by omega, ?_, h3, ?_⟩
  · unfold lead
    have : 2 ^ Lib.bitLen m = 2 * 2 ^ (Lib.bitLen m - 1) := by rw [← Nat.pow_succ']; congr 1; omega
    omega
  · rwa [show Lib.bitLen m - 1 + 1 = Lib.bitLen m by omega]
def at_ (l : List S25) (i : Nat) : S25 := l.getD i z25
def mk (l : List S25) (i : Nat) : Nat := (at_ l i).f0.toNat
theorem fine_spec {m : Int} {d : List Int} (h : fineB m d = true) : 1 ≤ m ∧ m < 65536 ∧ d.length = 16 := FRow.spec ⟨⟨m, d⟩, h⟩
theorem and_two_pow (m j : Nat) : m &&& 2 ^ j = if m.testBit j then 2 ^ j else 0 := by
  apply Nat.eq_of_testBit_eq
  intro i
  rw [Nat.testBit_and, Nat.testBit_two_pow]
  by_cases h : m.testBit j = true
  · rw [if_pos h, Nat.testBit_two_pow]
    by_cases e : j = i
    · subst e; simp [h]
    · simp [e]
  · rw [if_neg h]
    by_cases e : j = i
    · subst e; simpa using h
    · simp [e]
theorem top_bit {m j : Nat} (h1 : 2 ^ j ≤ m) (h2 : m < 2 ^ (j + 1)) : m.testBit j = true := by
  obtain ⟨i, hi, hb⟩ := Nat.exists_ge_and_testBit_of_ge_two_pow h1
  by_cases e : i = j
  · rw [← e]; exact hb
  · have := Nat.testBit_lt_two_pow (x := m) (i := i) (Nat.lt_of_lt_of_le h2 (Nat.pow_le_pow_right (by omega) (by omega)))
    rw [this] at hb
    cases hb
/-- the leads of a list, together -/
def orL (l : List S25) : Nat := l.foldl (fun a x => a ||| lead x.f0.toNat) 0
theorem val1_val (l : List S25) : ∀ st, (∀ x ∈ l, fineB x.f0 x.f1 = true) → ((st.2 :: l.map (fun x => lead x.f0.toNat)).Pairwise (· > ·)) → val1 l st = some (l.foldl (fun a x => a ||| lead x.f0.toNat) st.1, (l.map (fun x => lead x.f0.toNat)).getLast?.getD st.2) := by
  induction l with
  | nil => intro st _ _; rfl
  | cons x l ih =>
    intro st hf hp
    simp only [List.map_cons, List.pairwise_cons] at hp
    have h1 : fineB x.f0 x.f1 = true ∧ lead x.f0.toNat < st.2 := ⟨hf x (by simp), hp.1 _ (by simp)⟩
    rw [val1, if_pos h1, ih _ (fun y hy => hf y (by simp [hy]))]
    · simp only [List.foldl_cons, List.map_cons, List.getLast?_cons]
      simp
    · simp only [List.pairwise_cons]
      exact ⟨hp.2.1, hp.2.2⟩
theorem val1_conv (l : List S25) : ∀ st st', val1 l st = some st' → (∀ x ∈ l, fineB x.f0 x.f1 = true) ∧ ((st.2 :: l.map (fun x => lead x.f0.toNat)).Pairwise (· > ·)) := by
  induction l with
  | nil => intro st st' _; simp
  | cons x l ih =>
    intro st st' h
    rw [val1] at h
    split at h
    · rename_i hc
      obtain ⟨h1, h2⟩ := ih _ _ h
      refine ⟨fun y hy => ?_, ?_⟩
      · rcases List.mem_cons.1 hy with rfl | hy
        · exact hc.1
        · exact h1 y hy
      · simp only [List.map_cons, List.pairwise_cons] at h2 ⊢
        refine ⟨fun b hb => ?_, h2⟩
        rcases List.mem_cons.1 hb with rfl | hb
        · exact hc.2
        · exact Nat.lt_trans (h2.1 b hb) hc.2
    · cases h
/-- what valid rows are, in plain words -/
structure VP (l : List S25) : Prop where
  fine : ∀ x ∈ l, fineB x.f0 x.f1 = true
  desc : (l.map (fun x => lead x.f0.toNat)).Pairwise (· > ·)
  red : ∀ i k, i < l.length → k < l.length → i ≠ k → mk l k &&& lead (mk l i) = 0
theorem lead_lt16 (x : S25) (h : fineB x.f0 x.f1 = true) : lead x.f0.toNat < 65536 := lead_lt _ (by have := fine_spec h; omega)
theorem testBit_foldl_or (l : List S25) (i : Nat) : ∀ a : Nat, (l.foldl (fun a x => a ||| lead x.f0.toNat) a).testBit i = (a.testBit i || l.any (fun x => (lead x.f0.toNat).testBit i)) := by
  induction l with
  | nil => intro a; simp
  | cons x l ih => intro a; rw [List.foldl_cons, ih, Nat.testBit_or]; simp [Bool.or_assoc]
theorem mem_at {l : List S25} {i : Nat} (h : i < l.length) : at_ l i ∈ l := by
  unfold at_
  rw [List.getD_eq_getElem?_getD, List.getElem?_eq_getElem h]
  exact List.getElem_mem h
theorem at_mem {l : List S25} {x : S25} (h : x ∈ l) : ∃ i, i < l.length ∧ at_ l i = x := by
  obtain ⟨i, hi, e⟩ := List.getElem_of_mem h
  exact ⟨i, hi, by unfold at_; rw [List.getD_eq_getElem?_getD, List.getElem?_eq_getElem hi]; exact e⟩
theorem lead_inj_at {l : List S25} (hd : (l.map (fun x => lead x.f0.toNat)).Pairwise (· > ·)) {i k : Nat} (hi : i < l.length) (hk : k < l.length) (hne : i ≠ k) : lead (mk l i) ≠ lead (mk l k) := by
  have key : ∀ a b, a < b → b < l.length → lead (mk l b) < lead (mk l a) := by
    intro a b hab hb
    have := List.pairwise_iff_getElem.1 hd a b (by simp; omega) (by simpa using hb) hab
    simp only [List.getElem_map] at this
    unfold mk at_
    rw [List.getD_eq_getElem?_getD, List.getD_eq_getElem?_getD, List.getElem?_eq_getElem hb, List.getElem?_eq_getElem (show a < l.length by omega)]
    exact this
  rcases Nat.lt_or_gt_of_ne hne with h | h
  · have := key i k h hk; omega
  · have := key k i h hi; omega
theorem validS_iff (l : List S25) : validS l = true ↔ VP l := by
  have lead2 : ∀ x ∈ l, fineB x.f0 x.f1 = true → ∃ j, j < 16 ∧ lead x.f0.toNat = 2 ^ j ∧ x.f0.toNat.testBit j = true := by
    intro x hx hf
    have := fine_spec hf
    obtain ⟨j, h1, h2, h3, h4⟩ := lead_spec x.f0.toNat (by omega) (by omega)
    exact ⟨j, h1, h2, top_bit h3 h4⟩
  -- the test of the second loop, bit by bit
  have second : ∀ (hf : ∀ x ∈ l, fineB x.f0 x.f1 = true) (hd : (l.map (fun x => lead x.f0.toNat)).Pairwise (· > ·)), ((l.all fun x => x.f0.toNat &&& orL l == lead x.f0.toNat) = true ↔ ∀ i k, i < l.length → k < l.length → i ≠ k → mk l k &&& lead (mk l i) = 0) := by
    intro hf hd
    rw [List.all_eq_true]
    constructor
    · intro h i k hi hk hne
      have hx := h (at_ l k) (mem_at hk)
      simp only [beq_iff_eq] at hx
      obtain ⟨j, hj, e, _⟩ := lead2 _ (mem_at hi) (hf _ (mem_at hi))
      show (at_ l k).f0.toNat &&& lead (at_ l i).f0.toNat = 0
      rw [e, and_two_pow]
      by_cases hb : (at_ l k).f0.toNat.testBit j = true
      · exfalso
        have ht : ((at_ l k).f0.toNat &&& orL l).testBit j = true := by
          rw [Nat.testBit_and, hb, orL, testBit_foldl_or]
          simp only [Bool.true_and, Nat.zero_testBit, Bool.false_or, List.any_eq_true]
          exact ⟨at_ l i, mem_at hi, by rw [e, Nat.testBit_two_pow_self]⟩
        rw [hx] at ht
        obtain ⟨j2, _, e2, _⟩ := lead2 _ (mem_at hk) (hf _ (mem_at hk))
        rw [e2, Nat.testBit_two_pow] at ht
        have : j2 = j := by simpa using ht
        exact lead_inj_at hd hi hk hne (by show lead (at_ l i).f0.toNat = lead (at_ l k).f0.toNat; rw [e, e2, this])
      · rw [if_neg hb]
    · intro h x hx
      obtain ⟨k, hk, rfl⟩ := at_mem hx
      obtain ⟨j, hj, e, hb⟩ := lead2 _ hx (hf _ hx)
      simp only [beq_iff_eq]
      apply Nat.eq_of_testBit_eq
      intro i
      rw [Nat.testBit_and, orL, testBit_foldl_or, e, Nat.testBit_two_pow]
      simp only [Nat.zero_testBit, Bool.false_or]
      by_cases hij : j = i
      · subst hij
        rw [hb]
        simp only [Bool.true_and, decide_true, List.any_eq_true]
        exact ⟨_, hx, by rw [e, Nat.testBit_two_pow_self]⟩
      · simp only [hij, decide_false, Bool.and_eq_false_iff]
        by_cases hbi : (at_ l k).f0.toNat.testBit i = true
        · right
          rw [List.any_eq_false]
          intro y hy ht
          obtain ⟨k2, hk2, rfl⟩ := at_mem hy
          obtain ⟨j2, _, e2, _⟩ := lead2 _ hy (hf _ hy)
          rw [e2, Nat.testBit_two_pow] at ht
          have hji : j2 = i := by simpa using ht
          by_cases hkk : k2 = k
          · subst hkk
            rw [e] at e2
            have := (Nat.pow_right_inj (show 1 < 2 by omega)).1 e2
            omega
          · have := h k2 k hk2 hk hkk
            have h3 : (at_ l k).f0.toNat &&& lead (at_ l k2).f0.toNat = 0 := this
            rw [e2, and_two_pow, hji, if_pos hbi] at h3
            have := Nat.two_pow_pos i
            omega
        · left
          simpa using hbi
  constructor
  · intro h
    unfold validS at h
    split at h
    · cases h
    · rename_i st hv
      obtain ⟨h1, h2⟩ := val1_conv _ _ _ hv
      have h3 := val1_val l (0, 65536) h1 h2
      rw [hv] at h3
      injection h3 with h3
      simp only [List.pairwise_cons] at h2
      rw [h3] at h
      exact ⟨h1, h2.2, (second h1 h2.2).1 h⟩
  · rintro ⟨h1, h2, h3⟩
    have hp : (((0, 65536) : Nat × Nat).2 :: l.map (fun x => lead x.f0.toNat)).Pairwise (· > ·) := by
      rw [List.pairwise_cons]
      refine ⟨fun b hb => ?_, h2⟩
      obtain ⟨x, hx, rfl⟩ := List.mem_map.1 hb
      exact lead_lt16 x (h1 x hx)
    unfold validS
    rw [val1_val l (0, 65536) h1 hp]
    exact (second h1 h2).2 h3
end Go.Proofs.Ytknlbeojdmeljaa.L
namespace Go.Proofs.Ytknlbeojdmeljaa.L
open Go.RowKit Go.Proofs.YtknlbeojdmeljaaW.PrintWords Go.Proofs.YtknlbeojdmeljaaW.PrintLast Go.Proofs.YtknlbeojdmeljaaW.PrintMore Go.Proofs.Ytknlbeojdmeljaa.P Go.Proofs.Ytknlbeojdmeljaa.H
set_option linter.unusedVariables false
set_option linter.unusedSimpArgs false
theorem rd_nat (l : List Int) (i : Nat) : rd l (i : Int) = l.getD i 0 := by simp [rd]
theorem bytes_l0 (a b : List Int) (he : a.length = b.length) (hl : a.length < 9223372036854775808) : ∀ n i, i + n = a.length → Ev (fun k => slotmeshref33_Bytes.l0 k a b (i : Int)) (a.drop i == b.drop i) := by
  intro n
  induction n with
  | zero =>
    intro i hi
    refine Ev.one (fun k => ?_)
    rw [slotmeshref33_Bytes.l0, if_neg (by omega), List.drop_of_length_le (by omega), List.drop_of_length_le (by omega)]
    rfl
  | succ n ih =>
    intro i hi
    have hd : ∀ c : List Int, i < c.length → c.drop i = c.getD i 0 :: c.drop (i + 1) := fun c hc => by
      rw [List.drop_eq_getElem_cons hc, List.getD_eq_getElem?_getD, List.getElem?_eq_getElem hc]
      rfl
    rw [hd a (by omega), hd b (by omega)]
    by_cases hz : a.getD i 0 = b.getD i 0
    · refine (ih (i + 1) (by omega)).succ (fun k hk => ?_)
      rw [slotmeshref33_Bytes.l0, if_pos (by omega), if_pos (by omega), if_pos (by omega), rd_nat, rd_nat, if_pos hz, wrap_succ i (by omega), hz]
      simpa using hk
    · refine Ev.one (fun k => ?_)
      rw [slotmeshref33_Bytes.l0, if_pos (by omega), if_pos (by omega), if_pos (by omega), rd_nat, rd_nat, if_neg hz]
      simp only [Option.some.injEq]
      symm
      rw [beq_eq_false_iff_ne]
      intro h
      injection h with h1
      exact hz h1
theorem refBytes (a b : List Int) (hl : a.length < 9223372036854775808) : Ev (fun k => slotmeshref33_Bytes.f k a b) (a == b) := by
  by_cases he : a.length = b.length
  · refine (bytes_l0 a b he hl a.length 0 (by omega)).map (fun k hk => ?_)
    rw [slotmeshref33_Bytes.f, if_pos (by omega)]
    exact hk
  · refine ⟨0, fun k _ => ?_⟩
    show slotmeshref33_Bytes.f k a b = _
    rw [slotmeshref33_Bytes.f, if_neg (by omega)]
    congr 1
    symm
    rw [beq_eq_false_iff_ne]
    rintro rfl
    exact he rfl
end Go.Proofs.Ytknlbeojdmeljaa.L
namespace Go.Proofs.Ytknlbeojdmeljaa.L
open Go.RowKit Go.Proofs.YtknlbeojdmeljaaW.PrintWords Go.Proofs.YtknlbeojdmeljaaW.PrintLast Go.Proofs.YtknlbeojdmeljaaW.PrintMore Go.Proofs.Ytknlbeojdmeljaa.P Go.Proofs.Ytknlbeojdmeljaa.H
set_option linter.unusedVariables false
set_option linter.unusedSimpArgs false
theorem Ev.bind {α β : Type} {f : Nat → Option α} {g : Nat → α → Option β} {r : α} {s : β} (h1 : Ev f r) (h2 : Ev (fun k => g k r) s) : Ev (fun k => (f k).bind (g k)) s := by
  obtain ⟨K1, h1⟩ := h1
  obtain ⟨K2, h2⟩ := h2
  exact ⟨K1 + K2, fun k hk => by show (f k).bind (g k) = some s; rw [h1 k (by omega)]; exact h2 k (by omega)⟩
theorem Ev.const {α : Type} (r : α) : Ev (fun _ => some r) r := ⟨0, fun _ _ => rfl⟩
theorem Ev.up {α : Type} {f g : Nat → Option α} {r : α} (h : Ev f r) (e : ∀ k, g (k + 1) = f k) : Ev g r := h.succ (fun k hk => (e k).trans hk)
end Go.Proofs.Ytknlbeojdmeljaa.L
namespace Go.Proofs.Ytknlbeojdmeljaa.L
open Go.RowKit Go.Proofs.YtknlbeojdmeljaaW.PrintWords Go.Proofs.YtknlbeojdmeljaaW.PrintLast Go.Proofs.YtknlbeojdmeljaaW.PrintMore Go.Proofs.Ytknlbeojdmeljaa.P Go.Proofs.Ytknlbeojdmeljaa.H
set_option linter.unusedVariables false
set_option linter.unusedSimpArgs false
def isB (a : Int) : Prop := 0 ≤ a ∧ a < 256
theorem xorB_nat (a b : Nat) (ha : a < 256) (hb : b < 256) : xorB (a : Int) (b : Int) = ((a ^^^ b : Nat) : Int) := by
  have hx : a ^^^ b < 2 ^ 8 := Nat.xor_lt_two_pow (by omega) (by omega)
  have h1 : (BitVec.ofInt 8 (a : Int)).toNat = a := by
    rw [BitVec.ofInt_natCast, BitVec.toNat_ofNat]; exact Nat.mod_eq_of_lt (by omega)
  have h2 : (BitVec.ofInt 8 (b : Int)).toNat = b := by
    rw [BitVec.ofInt_natCast, BitVec.toNat_ofNat]; exact Nat.mod_eq_of_lt (by omega)
  show IntKind.u8.wrap ((BitVec.ofInt 8 (a : Int) ^^^ BitVec.ofInt 8 (b : Int)).toNat : Int) = _
  rw [BitVec.toNat_xor, h1, h2]
  show (((a ^^^ b : Nat) : Int) % 256) = _
  omega
theorem isB_nat {a : Int} (h : isB a) : ∃ n : Nat, a = (n : Int) ∧ n < 256 := by
  obtain ⟨n, rfl⟩ := Int.eq_ofNat_of_zero_le h.1
  exact ⟨n, rfl, by have := h.2; omega⟩
theorem xorB_isB {a b : Int} (ha : isB a) (hb : isB b) : isB (xorB a b) := by
  obtain ⟨m, rfl, hm⟩ := isB_nat ha
  obtain ⟨n, rfl, hn⟩ := isB_nat hb
  rw [xorB_nat m n hm hn]
  have hx : m ^^^ n < 2 ^ 8 := Nat.xor_lt_two_pow (by omega) (by omega)
  exact ⟨by omega, by omega⟩
theorem xorB_comm {a b : Int} (ha : isB a) (hb : isB b) : xorB a b = xorB b a := by
  obtain ⟨m, rfl, hm⟩ := isB_nat ha
  obtain ⟨n, rfl, hn⟩ := isB_nat hb
  rw [xorB_nat m n hm hn, xorB_nat n m hn hm, Nat.xor_comm]
theorem xorB_assoc {a b c : Int} (ha : isB a) (hb : isB b) (hc : isB c) : xorB (xorB a b) c = xorB a (xorB b c) := by
  obtain ⟨m, rfl, hm⟩ := isB_nat ha
  obtain ⟨n, rfl, hn⟩ := isB_nat hb
  obtain ⟨k, rfl, hk⟩ := isB_nat hc
  have h1 : m ^^^ n < 2 ^ 8 := Nat.xor_lt_two_pow (by omega) (by omega)
  have h2 : n ^^^ k < 2 ^ 8 := Nat.xor_lt_two_pow (by omega) (by omega)
  rw [xorB_nat m n hm hn, xorB_nat n k hn hk, xorB_nat _ k (by omega) hk, xorB_nat m _ hm (by omega), Nat.xor_assoc]
theorem xorB_self {a : Int} (ha : isB a) : xorB a a = 0 := by
  obtain ⟨m, rfl, hm⟩ := isB_nat ha
  rw [xorB_nat m m hm hm, Nat.xor_self]
  rfl
theorem xorB_zero {a : Int} (ha : isB a) : xorB a 0 = a := by
  obtain ⟨m, rfl, hm⟩ := isB_nat ha
  have := xorB_nat m 0 hm (by omega)
  rw [Nat.xor_zero] at this
  exact this
structure GE (x : Nat × List Int) : Prop where
  m : x.1 < 65536
  len : x.2.length = 16
  rng : ∀ b ∈ x.2, isB b
def addE (x y : Nat × List Int) : Nat × List Int := (x.1 ^^^ y.1, xorD x.2 y.2)
def zeroE : Nat × List Int := (0, z16)
theorem zeroE_ge : GE zeroE := ⟨by decide, rfl, by intro b hb; have : b = 0 := List.eq_of_mem_replicate hb; subst this; exact ⟨by omega, by omega⟩⟩
theorem xorD_len {a b : List Int} (ha : a.length = 16) (hb : b.length = 16) : (xorD a b).length = 16 := by simp [xorD, List.length_zipWith, ha, hb]
theorem GE.at_ {x : Nat × List Int} (h : GE x) (i : Nat) (hi : i < x.2.length) : isB x.2[i] := h.rng _ (List.getElem_mem hi)
theorem GE.add {x y : Nat × List Int} (hx : GE x) (hy : GE y) : GE (addE x y) := by
  refine ⟨?_, xorD_len hx.len hy.len, ?_⟩
  · have := Nat.xor_lt_two_pow (n := 16) (x := x.1) (y := y.1) (by have := hx.m; omega) (by have := hy.m; omega)
    simpa [addE] using this
  · intro b hb
    obtain ⟨i, hi, rfl⟩ := List.getElem_of_mem hb
    simp only [addE, xorD, List.getElem_zipWith]
    have h1 := hx.len
    have h2 := hy.len
    have h3 : i < 16 := by simp only [addE] at hi; rw [xorD_len h1 h2] at hi; exact hi
    exact xorB_isB (hx.at_ i (by omega)) (hy.at_ i (by omega))
theorem pair_ext {x y : Nat × List Int} (h1 : x.1 = y.1) (h2 : x.2 = y.2) : x = y := Prod.ext h1 h2
theorem addE_comm {x y : Nat × List Int} (hx : GE x) (hy : GE y) : addE x y = addE y x := by
  refine pair_ext (Nat.xor_comm _ _) ?_
  have h1 := hx.len
  have h2 := hy.len
  refine List.ext_getElem (by simp [addE, xorD, List.length_zipWith, h1, h2]) (fun i hi hj => ?_)
  simp only [addE] at hi
  rw [xorD_len h1 h2] at hi
  simp only [addE, xorD, List.getElem_zipWith]
  exact xorB_comm (hx.at_ i (by omega)) (hy.at_ i (by omega))
theorem addE_assoc {x y z : Nat × List Int} (hx : GE x) (hy : GE y) (hz : GE z) : addE (addE x y) z = addE x (addE y z) := by
  refine pair_ext (Nat.xor_assoc _ _ _) ?_
  have h1 := hx.len
  have h2 := hy.len
  have h3 := hz.len
  refine List.ext_getElem (by simp [addE, xorD, List.length_zipWith, h1, h2, h3]) (fun i hi hj => ?_)
  simp only [addE] at hi
  rw [xorD_len (xorD_len h1 h2) h3] at hi
  simp only [addE, xorD, List.getElem_zipWith]
  exact xorB_assoc (hx.at_ i (by omega)) (hy.at_ i (by omega)) (hz.at_ i (by omega))
theorem addE_self {x : Nat × List Int} (hx : GE x) : addE x x = zeroE := by
  refine pair_ext (Nat.xor_self _) ?_
  have h1 := hx.len
  refine List.ext_getElem (by simp [addE, xorD, List.length_zipWith, h1, zeroE, z16]) (fun i hi hj => ?_)
  simp only [addE] at hi
  rw [xorD_len h1 h1] at hi
  simp only [addE, xorD, List.getElem_zipWith, zeroE, z16, List.getElem_replicate]
  exact xorB_self (hx.at_ i (by omega))
theorem addE_zero {x : Nat × List Int} (hx : GE x) : addE x zeroE = x := by
  refine pair_ext (Nat.xor_zero _) ?_
  have h1 := hx.len
  refine List.ext_getElem (by simp [addE, xorD, List.length_zipWith, h1, zeroE, z16]) (fun i hi hj => ?_)
  simp only [addE] at hi
  rw [xorD_len h1 rfl] at hi
  simp only [addE, xorD, List.getElem_zipWith, zeroE, z16, List.getElem_replicate]
  exact xorB_zero (hx.at_ i (by omega))
theorem zero_addE {x : Nat × List Int} (hx : GE x) : addE zeroE x = x := (addE_comm zeroE_ge hx).trans (addE_zero hx)
/-- (a+b)+(c+d) = (a+c)+(b+d) -/
theorem addE_four {a b c d : Nat × List Int} (ha : GE a) (hb : GE b) (hc : GE c) (hd : GE d) : addE (addE a b) (addE c d) = addE (addE a c) (addE b d) := by
  rw [addE_assoc ha hb (hc.add hd), ← addE_assoc hb hc hd, addE_comm hb hc, addE_assoc hc hb hd, ← addE_assoc ha hc (hb.add hd)]
theorem addE_cancel {x y : Nat × List Int} (hx : GE x) (hy : GE y) : addE (addE x y) y = x := by
  rw [addE_assoc hx hy hy, addE_self hy, addE_zero hx]
def rowv (r : S25) : Nat × List Int := (r.f0.toNat, r.f1)
/-- rows whose bytes are bytes -/
structure GR (l : List S25) : Prop where
  fine : ∀ x ∈ l, fineB x.f0 x.f1 = true
  rng : ∀ x ∈ l, ∀ b ∈ x.f1, isB b
theorem GR.row {l : List S25} (h : GR l) {r : S25} (hr : r ∈ l) : GE (rowv r) := by
  have := fine_spec (h.fine r hr)
  exact ⟨by show r.f0.toNat < 65536; omega, this.2.2, h.rng r hr⟩
theorem GR.lead {l : List S25} (h : GR l) {r : S25} (hr : r ∈ l) : ∃ j, j < 16 ∧ H.lead r.f0.toNat = 2 ^ j ∧ r.f0.toNat.testBit j = true := by
  have := fine_spec (h.fine r hr)
  obtain ⟨j, h1, h2, h3, h4⟩ := lead_spec r.f0.toNat (by omega) (by omega)
  exact ⟨j, h1, h2, top_bit h3 h4⟩
theorem GR.tail {l : List S25} {r : S25} (h : GR (r :: l)) : GR l := ⟨fun x hx => h.fine x (by simp [hx]), fun x hx => h.rng x (by simp [hx])⟩
theorem stepS_eq (x : Nat × List Int) (r : S25) {j : Nat} (hj : H.lead r.f0.toNat = 2 ^ j) : stepS x r = if x.1.testBit j = true then addE x (rowv r) else x := by
  unfold stepS
  rw [hj, and_two_pow]
  by_cases h : x.1.testBit j = true
  · rw [if_pos h, if_pos h, if_pos (by have := Nat.two_pow_pos j; omega)]
    rfl
  · rw [if_neg h, if_neg h, if_neg (by simp)]
theorem stepS_ge {x : Nat × List Int} {r : S25} (hx : GE x) (hr : GE (rowv r)) {j : Nat} (hj : H.lead r.f0.toNat = 2 ^ j) : GE (stepS x r) := by
  rw [stepS_eq x r hj]
  split
  · exact hx.add hr
  · exact hx
theorem stepS_lin {x y : Nat × List Int} {r : S25} (hx : GE x) (hy : GE y) (hr : GE (rowv r)) {j : Nat} (hj : H.lead r.f0.toNat = 2 ^ j) : stepS (addE x y) r = addE (stepS x r) (stepS y r) := by
  rw [stepS_eq _ r hj, stepS_eq x r hj, stepS_eq y r hj]
  have hb : (addE x y).1.testBit j = (x.1.testBit j ^^ y.1.testBit j) := Nat.testBit_xor _ _ _
  cases h1 : x.1.testBit j <;> cases h2 : y.1.testBit j
  · rw [if_neg (by rw [hb, h1, h2]; simp), if_neg (by simp), if_neg (by simp)]
  · rw [if_pos (by rw [hb, h1, h2]; simp), if_neg (by simp), if_pos (by simp)]
    exact addE_assoc hx hy hr
  · rw [if_pos (by rw [hb, h1, h2]; simp), if_pos (by simp), if_neg (by simp)]
    rw [addE_assoc hx hy hr, addE_comm hy hr, ← addE_assoc hx hr hy]
  · rw [if_neg (by rw [hb, h1, h2]; simp), if_pos (by simp), if_pos (by simp)]
    rw [addE_four hx hr hy hr, addE_self hr, addE_zero (hx.add hy)]
theorem redS_ge {l : List S25} (hl : GR l) : ∀ {x : Nat × List Int}, GE x → GE (redS l x) := by
  induction l with
  | nil => intro x hx; exact hx
  | cons r l ih =>
    intro x hx
    obtain ⟨j, _, hj, _⟩ := hl.lead (List.mem_cons_self)
    exact ih hl.tail (stepS_ge hx (hl.row List.mem_cons_self) hj)
theorem redS_lin {l : List S25} (hl : GR l) : ∀ {x y : Nat × List Int}, GE x → GE y → redS l (addE x y) = addE (redS l x) (redS l y) := by
  induction l with
  | nil => intro x y hx hy; rfl
  | cons r l ih =>
    intro x y hx hy
    obtain ⟨j, _, hj, _⟩ := hl.lead (List.mem_cons_self)
    have hr := hl.row (r := r) List.mem_cons_self
    show redS l (stepS (addE x y) r) = addE (redS l (stepS x r)) (redS l (stepS y r))
    rw [stepS_lin hx hy hr hj]
    exact ih hl.tail (stepS_ge hx hr hj) (stepS_ge hy hr hj)
end Go.Proofs.Ytknlbeojdmeljaa.L
namespace Go.Proofs.Ytknlbeojdmeljaa.R
open Go.ChangeShapes Go.WideShapes Go.ChangeAt Go.RowKit Go.Proofs.YtknlbeojdmeljaaW.PrintWords Go.Proofs.Ytknlbeojdmeljaa.P
open Go.Proofs.Ytknlbeojdmeljaa.L (isB)
set_option linter.unusedVariables false
theorem cell5 : Try.prog.cellsOf 5 = 1 := by kernel_rfl
instance : Inhabited S25 := ⟨z25⟩
end Go.Proofs.Ytknlbeojdmeljaa.R
namespace Go.Proofs.Ytknlbeojdmeljaa.H
open Go.RowKit Go.Proofs.YtknlbeojdmeljaaW.PrintWords Go.Proofs.YtknlbeojdmeljaaW.PrintLast Go.Proofs.YtknlbeojdmeljaaW.PrintMore Go.Proofs.Ytknlbeojdmeljaa.P
set_option linter.unusedVariables false
set_option linter.unusedSimpArgs false
def rp (x : Int) : List Int := [x, x, x, x, x, x, x, x, x, x, x, x, x, x, x, x]
theorem block_f (x : Int) : slotmeshlaw33_block.f 40 x = some (rp x) := by kernel_rfl
theorem row_f (m x : Int) : slotmeshlaw33_row.f 40 m x = some (m, rp x) := by kernel_rfl
/-- What is held of rows and blocks, in one bundle. -/
def Hold (w0 w : World) (ls : List (Option Addr × Nat × List S25)) (bs : List (Option Addr × Nat × List Int)) : Prop :=
  Below w0.heap.size w0 w ∧ (∀ p ∈ ls, Kd.C k25 w p.1 p.2.1 p.2.2) ∧ (∀ p ∈ bs, Kd.C (Kd.int .u8) w p.1 p.2.1 p.2.2)
theorem Hold.below {w0 w u : World} {ls : List (Option Addr × Nat × List S25)} {bs : List (Option Addr × Nat × List Int)} (h : Hold w0 w ls bs) (hb : Below w.heap.size w u) : Hold w0 u ls bs :=
  ⟨h.1.trans (hb.mono h.1.size), fun p hp => Kd.C_below (h.2.1 p hp) hb, fun p hp => Kd.C_below (h.2.2 p hp) hb⟩
theorem Hold.addl {w0 w : World} {ls : List (Option Addr × Nat × List S25)} {bs : List (Option Addr × Nat × List Int)} (h : Hold w0 w ls bs) {A : Option Addr} {n : Nat} {xs : List S25} (hc : Kd.C k25 w A n xs) : Hold w0 w ((A, n, xs) :: ls) bs :=
  ⟨h.1, fun p hp => by rcases List.mem_cons.1 hp with rfl | hp; exact hc; exact h.2.1 p hp, h.2.2⟩
theorem Hold.addb {w0 w : World} {ls : List (Option Addr × Nat × List S25)} {bs : List (Option Addr × Nat × List Int)} (h : Hold w0 w ls bs) {A : Option Addr} {n : Nat} {xs : List Int} (hc : Kd.C (Kd.int .u8) w A n xs) : Hold w0 w ls ((A, n, xs) :: bs) :=
  ⟨h.1, h.2.1, fun p hp => by rcases List.mem_cons.1 hp with rfl | hp; exact hc; exact h.2.2 p hp⟩
theorem row_h {w0 w : World} {ls : List (Option Addr × Nat × List S25)} {bs : List (Option Addr × Nat × List Int)} (m x : Int) (h : Hold w0 w ls bs) :
    Calls Try.prog 26 #[.int .i64 m, .int .u8 x] w fun e u => ∃ A c, e = .returned (.agg #[.int .i64 m, .slice A 16 c]) ∧ 16 ≤ c ∧ Hold w0 u ls ((A, 16, rp x) :: bs) := by
  refine (slotmeshlaw33_row.calls 40 m x m (rp x) w (row_f m x)).mono ?_
  rintro e u ⟨v, rfl, hR, hb⟩
  obtain ⟨A, c, rfl⟩ := Kd.R_slice hR
  obtain ⟨_, hl, hc⟩ := Kd.R_reads' hR
  exact ⟨A, c, rfl, hl, (h.below hb).addb hc⟩
theorem block_h {w0 w : World} {ls : List (Option Addr × Nat × List S25)} {bs : List (Option Addr × Nat × List Int)} (x : Int) (h : Hold w0 w ls bs) :
    Calls Try.prog 27 #[.int .u8 x] w fun e u => ∃ A c, e = .returned (.slice A 16 c) ∧ 16 ≤ c ∧ Hold w0 u ls ((A, 16, rp x) :: bs) := by
  refine (slotmeshlaw33_block.calls 40 x (rp x) w (block_f x)).mono ?_
  rintro e u ⟨v, rfl, hR, hb⟩
  obtain ⟨A, c, rfl⟩ := Kd.R_slice hR
  obtain ⟨_, hl, hc⟩ := Kd.R_reads' hR
  exact ⟨A, c, rfl, hl, (h.below hb).addb hc⟩
theorem add_h {w0 w : World} {ls : List (Option Addr × Nat × List S25)} {bs : List (Option Addr × Nat × List Int)} (h : Hold w0 w ls bs) {A A1 : Option Addr} {cap c1 n n1 : Nat} (xs : List S25) (m : Int) (d : List Int) (ys : List S25) (b : Bool) (er : Int) (k : Nat)
    (hA : (A, n, xs) ∈ ls) (hB : (A1, n1, d) ∈ bs) (hn : n = xs.length) (hn1 : n1 = d.length) (hl : xs.length ≤ 1000000) (hr : addS xs m d = (ys, b, er)) (hk : ys.length = k) :
    Calls Try.prog 12 #[.slice A n cap, .agg #[.int .i64 m, .slice A1 n1 c1]] w fun e u => ∃ A' c', e = .returned (.tuple #[.slice A' k c', .bool b, .int .i64 er]) ∧ k ≤ c' ∧ Hold w0 u ((A', k, ys) :: ls) bs := by
  subst hn hn1 hk
  have hc := add_calls A cap xs m A1 c1 d w (h.2.1 _ hA) (h.2.2 _ hB) hl
  rw [hr] at hc
  refine hc.mono ?_
  rintro e u ⟨v, rfl, hS, hb⟩
  obtain ⟨A', c', rfl⟩ := Kd.R_slice (Kd.S_R hS)
  obtain ⟨_, hl', hc⟩ := Kd.R_reads' (Kd.S_R hS)
  exact ⟨A', c', rfl, hl', (h.below hb).addl hc⟩
theorem solved_h {w0 w : World} {ls : List (Option Addr × Nat × List S25)} {bs : List (Option Addr × Nat × List Int)} (h : Hold w0 w ls bs) {A : Option Addr} {cap n : Nat} (xs : List S25) (i : Int) (ys : List Int) (b : Bool) (k : Nat)
    (hA : (A, n, xs) ∈ ls) (hn : n = xs.length) (hr : solvedS xs i = (ys, b)) (hk : ys.length = k) :
    Calls Try.prog 14 #[.slice A n cap, .int .i64 i] w fun e u => ∃ A' c', e = .returned (.tuple #[.slice A' k c', .bool b]) ∧ k ≤ c' ∧ Hold w0 u ls ((A', k, ys) :: bs) := by
  subst hn hk
  have hc := solved_calls A cap xs i w (h.2.1 _ hA)
  rw [hr] at hc
  refine hc.mono ?_
  rintro e u ⟨v, rfl, hR, hb⟩
  obtain ⟨A', c', rfl⟩ := Kd.R_slice hR
  obtain ⟨_, hl', hc⟩ := Kd.R_reads' hR
  exact ⟨A', c', rfl, hl', (h.below hb).addb hc⟩
theorem sum_h {w0 w : World} {ls : List (Option Addr × Nat × List S25)} {bs : List (Option Addr × Nat × List Int)} (h : Hold w0 w ls bs) {A : Option Addr} {cap n : Nat} (xs : List S25) (i : Int) (ys : List Int) (b : Bool) (k : Nat)
    (hA : (A, n, xs) ∈ ls) (hn : n = xs.length) (hr : sumS xs i = (ys, b)) (hk : ys.length = k) :
    Calls Try.prog 16 #[.slice A n cap, .int .i64 i] w fun e u => ∃ A' c', e = .returned (.tuple #[.slice A' k c', .bool b]) ∧ k ≤ c' ∧ Hold w0 u ls ((A', k, ys) :: bs) := by
  subst hn hk
  have hc := sum_calls A cap xs i w (h.2.1 _ hA)
  rw [hr] at hc
  refine hc.mono ?_
  rintro e u ⟨v, rfl, hV, hb⟩
  obtain ⟨A', c', rfl⟩ := Kd.V_slice hV
  obtain ⟨_, hl', hc⟩ := Kd.V_reads' hV
  exact ⟨A', c', rfl, hl', (h.below hb).addb hc⟩
theorem valid_h {w0 w : World} {ls : List (Option Addr × Nat × List S25)} {bs : List (Option Addr × Nat × List Int)} (h : Hold w0 w ls bs) {A : Option Addr} {cap n : Nat} (xs : List S25) (r : Bool)
    (hA : (A, n, xs) ∈ ls) (hn : n = xs.length) (hr : validS xs = r) :
    Calls Try.prog 20 #[.slice A n cap] w fun e u => e = .returned (.bool r) ∧ Hold w0 u ls bs := by
  subst hn hr
  refine (valid_calls A cap xs w (h.2.1 _ hA)).mono ?_
  rintro e u ⟨rfl, hb⟩
  exact ⟨rfl, h.below hb⟩
theorem bytes_h {w0 w : World} {ls : List (Option Addr × Nat × List S25)} {bs : List (Option Addr × Nat × List Int)} (h : Hold w0 w ls bs) {A A1 : Option Addr} {c c1 n n1 : Nat} (xs ys : List Int) (r : Bool)
    (hA : (A, n, xs) ∈ bs) (hB : (A1, n1, ys) ∈ bs) (hn : n = xs.length) (hn1 : n1 = ys.length) (hc : n ≤ c) (hc1 : n1 ≤ c1) (hr : slotmeshref33_Bytes.f 60 xs ys = some r) :
    Calls Try.prog 19 #[.slice A n c, .slice A1 n1 c1] w fun e u => e = .returned (.bool r) ∧ Hold w0 u ls bs := by
  subst hn hn1
  refine (slotmeshref33_Bytes.calls 60 A c xs A1 c1 ys r w (h.2.2 _ hA) hc (h.2.2 _ hB) hc1 hr).mono ?_
  rintro e u ⟨rfl, hb⟩
  exact ⟨rfl, h.below (hb.below)⟩
theorem same_h {w0 w : World} {ls : List (Option Addr × Nat × List S25)} {bs : List (Option Addr × Nat × List Int)} (h : Hold w0 w ls bs) {A A1 : Option Addr} {c c1 n n1 : Nat} (xs ys : List S25) (r : Bool)
    (hA : (A, n, xs) ∈ ls) (hB : (A1, n1, ys) ∈ ls) (hn : n = xs.length) (hn1 : n1 = ys.length) (hc : n ≤ c) (hc1 : n1 ≤ c1) (hr : slotmeshref33_Same.f 60 xs ys = some r) :
    Calls Try.prog 18 #[.slice A n c, .slice A1 n1 c1] w fun e u => e = .returned (.bool r) ∧ Hold w0 u ls bs := by
  subst hn hn1
  refine (slotmeshref33_Same.calls 60 A c xs A1 c1 ys r w (h.2.1 _ hA) hc (h.2.1 _ hB) hc1 hr).mono ?_
  rintro e u ⟨rfl, hb⟩
  exact ⟨rfl, h.below (hb.below)⟩
def flat (items : List (S25 × Option Addr × Nat)) : List Value := items.flatMap (fun p => [.int .i64 p.1.f0, .slice p.2.1 p.1.f1.length p.2.2])
theorem flat_at : ∀ (items : List (S25 × Option Addr × Nat)) (j : Nat) (p : S25 × Option Addr × Nat), items[j]? = some p → (flat items)[j * 2]? = some (.int .i64 p.1.f0) ∧ (flat items)[j * 2 + 1]? = some (.slice p.2.1 p.1.f1.length p.2.2)
  | [], j, p, h => by simp at h
  | q :: items, 0, p, h => by simp at h; subst h; simp [flat]
  | q :: items, j + 1, p, h => by
    have := flat_at items j p (by simpa using h)
    rw [show (j + 1) * 2 = j * 2 + 1 + 1 by omega]
    simpa [flat] using this
theorem lit_C {w : World} {g : Nat} (items : List (S25 × Option Addr × Nat)) (hn : items.length ≤ 1000) (hb : w.heap[g]? = some (.cells (flat items).toArray 25 (0, 0)))
    (hC : ∀ p ∈ items, p.1.f1.length ≤ p.2.2 ∧ Kd.C (Kd.int .u8) w p.2.1 p.1.f1.length p.1.f1) : Kd.C k25 w (some ⟨g, 0, none⟩) items.length (items.map (·.1)) := by
  refine ⟨by simp, by omega, fun _ => ⟨⟨g, 0, none⟩, rfl, fun j p hj => ?_⟩⟩
  rw [List.getElem?_map] at hj
  obtain ⟨q, hq, rfl⟩ := Option.map_eq_some_iff.1 hj
  obtain ⟨h1, h2⟩ := hC q (List.mem_of_getElem? hq)
  obtain ⟨f1, f2⟩ := flat_at items j q hq
  refine ⟨[.int .i64 q.1.f0, .slice q.2.1 q.1.f1.length q.2.2], rfl, k25_mk w q.1 h1 h2, fun i u hu => ?_⟩
  have hsz : k25.sz = 2 := rfl
  rw [hsz]
  have hcell := blk_cell hb (j * 2 + i)
  match i, hu with
  | 0, hu =>
    simp at hu; subst hu
    rw [add_at, Nat.zero_add]
    exact hcell.trans (by simpa using f1)
  | 1, hu =>
    simp at hu; subst hu
    rw [add_at, Nat.zero_add]
    exact hcell.trans (by simpa using f2)
def L1 : List S25 := [⟨3, rp 3⟩]
def L2 : List S25 := [⟨5, rp 5⟩, ⟨3, rp 3⟩]
def LM : List S25 := [⟨4, rp 4⟩, ⟨2, rp 2⟩, ⟨1, rp 1⟩]
def LX : List S25 := [⟨6, rp 6⟩, ⟨3, rp 3⟩, ⟨2, rp 2⟩]
theorem e1 : addS [] 3 (rp 3) = (L1, true, 0) := by kernel_rfl
theorem e2 : addS L1 6 (rp 6) = (L2, true, 0) := by kernel_rfl
theorem e3 : solvedS L2 0 = ([], false) := by kernel_rfl
theorem e4 : sumS L2 5 = (rp 5, true) := by kernel_rfl
theorem e5 : addS L2 2 (rp 2) = (LM, true, 0) := by kernel_rfl
theorem e6 : addS LM 5 (rp 5) = (LM, false, 0) := by kernel_rfl
theorem e7 : addS LM 5 (rp 4) = ([], false, 12) := by kernel_rfl
theorem e8 : addS LM 1 [] = ([], false, 1) := by kernel_rfl
theorem e9 : solvedS LM 0 = (rp 1, true) := by kernel_rfl
theorem e10 : validS LM = true := by kernel_rfl
theorem e11 : validS LX = false := by kernel_rfl
theorem e12 : slotmeshref33_Bytes.f 60 (rp 5) (rp 5) = some true := by kernel_rfl
theorem e15 : slotmeshref33_Bytes.f 60 (rp 1) (rp 1) = some true := by kernel_rfl
theorem e13 : slotmeshref33_Same.f 60 L2 L2 = some true := by kernel_rfl
theorem e14 : slotmeshref33_Same.f 60 LM LM = some true := by kernel_rfl
theorem C_nil8 (w : World) : Kd.C (Kd.int .u8) w none 0 [] := (Kd.R_reads' (Kd.R_nil (Kd.int .u8) 5 w 0 (fun _ => True))).2.2
theorem C_nil25 (w : World) : Kd.C k25 w none 0 [] := (Kd.R_reads' (Kd.R_nil k25 25 w 0 (fun _ => True))).2.2
theorem Hold.lit {w0 w : World} {ls : List (Option Addr × Nat × List S25)} {bs : List (Option Addr × Nat × List Int)} (h : Hold w0 w ls bs) (items : List (S25 × Option Addr × Nat)) (hn : items.length ≤ 1000)
    (hC : ∀ p ∈ items, p.1.f1.length ≤ p.2.2 ∧ (p.2.1, p.1.f1.length, p.1.f1) ∈ bs) : Hold w0 (w.alloc (.cells (flat items).toArray 25)) ((some ⟨w.heap.size, 0, none⟩, items.length, items.map (·.1)) :: ls) bs := by
  have hb : Below w.heap.size w (w.alloc (.cells (flat items).toArray 25)) := (Below.refl _ _).alloc (Nat.le_refl _) _
  exact (h.below hb).addl (lit_C items hn (blk_new rfl) (fun p hp => ⟨(hC p hp).1, (h.below hb).2.2 _ (hC p hp).2⟩))
theorem same_lit2 {w0 w : World} {ls : List (Option Addr × Nat × List S25)} {bs : List (Option Addr × Nat × List Int)} (h : Hold w0 w ls bs) {A A1 A2 : Option Addr} {c c1 c2 n : Nat} (xs : List S25) (m1 m2 : Int) (d1 d2 : List Int)
    (hA : (A, n, xs) ∈ ls) (hB1 : (A1, 16, d1) ∈ bs) (hB2 : (A2, 16, d2) ∈ bs) (hn : n = xs.length) (h1 : d1.length = 16) (h2 : d2.length = 16) (hc : n ≤ c) (hc1 : 16 ≤ c1) (hc2 : 16 ≤ c2) (hr : slotmeshref33_Same.f 60 xs [⟨m1, d1⟩, ⟨m2, d2⟩] = some true) :
    Calls Try.prog 18 #[.slice A n c, .slice (some ⟨w.heap.size, 0, none⟩) 2 2] (w.alloc (.cells #[.int .i64 m1, .slice A1 16 c1, .int .i64 m2, .slice A2 16 c2] 25)) fun e u => e = .returned (.bool true) ∧ ∃ ls', Hold w0 u (ls' ++ ls) bs := by
  have hl := h.lit [(⟨m1, d1⟩, A1, c1), (⟨m2, d2⟩, A2, c2)] (by simp) (by intro p hp; simp at hp; rcases hp with rfl | rfl; exact ⟨by simp only; omega, by simp only [h1]; exact hB1⟩; exact ⟨by simp only; omega, by simp only [h2]; exact hB2⟩)
  simp only [flat, List.flatMap_cons, List.flatMap_nil, List.append_nil, List.cons_append, List.nil_append, h1, h2] at hl
  refine (same_h (n := n) (n1 := 2) hl xs [⟨m1, d1⟩, ⟨m2, d2⟩] true (List.mem_cons_of_mem _ hA) (by simp) hn rfl hc (Nat.le_refl _) hr).mono ?_
  rintro e u ⟨rfl, hh⟩
  exact ⟨rfl, [_], hh⟩
theorem same_lit3 {w0 w : World} {ls : List (Option Addr × Nat × List S25)} {bs : List (Option Addr × Nat × List Int)} (h : Hold w0 w ls bs) {A A1 A2 A3 : Option Addr} {c c1 c2 c3 n : Nat} (xs : List S25) (m1 m2 m3 : Int) (d1 d2 d3 : List Int)
    (hA : (A, n, xs) ∈ ls) (hB1 : (A1, 16, d1) ∈ bs) (hB2 : (A2, 16, d2) ∈ bs) (hB3 : (A3, 16, d3) ∈ bs) (hn : n = xs.length) (h1 : d1.length = 16) (h2 : d2.length = 16) (h3 : d3.length = 16) (hc : n ≤ c) (hc1 : 16 ≤ c1) (hc2 : 16 ≤ c2) (hc3 : 16 ≤ c3) (hr : slotmeshref33_Same.f 60 xs [⟨m1, d1⟩, ⟨m2, d2⟩, ⟨m3, d3⟩] = some true) :
    Calls Try.prog 18 #[.slice A n c, .slice (some ⟨w.heap.size, 0, none⟩) 3 3] (w.alloc (.cells #[.int .i64 m1, .slice A1 16 c1, .int .i64 m2, .slice A2 16 c2, .int .i64 m3, .slice A3 16 c3] 25)) fun e u => e = .returned (.bool true) ∧ ∃ ls', Hold w0 u (ls' ++ ls) bs := by
  have hl := h.lit [(⟨m1, d1⟩, A1, c1), (⟨m2, d2⟩, A2, c2), (⟨m3, d3⟩, A3, c3)] (by simp) (by intro p hp; simp at hp; rcases hp with rfl | rfl | rfl; exact ⟨by simp only; omega, by simp only [h1]; exact hB1⟩; exact ⟨by simp only; omega, by simp only [h2]; exact hB2⟩; exact ⟨by simp only; omega, by simp only [h3]; exact hB3⟩)
  simp only [flat, List.flatMap_cons, List.flatMap_nil, List.append_nil, List.cons_append, List.nil_append, h1, h2, h3] at hl
  refine (same_h (n := n) (n1 := 3) hl xs [⟨m1, d1⟩, ⟨m2, d2⟩, ⟨m3, d3⟩] true (List.mem_cons_of_mem _ hA) (by simp) hn rfl hc (Nat.le_refl _) hr).mono ?_
  rintro e u ⟨rfl, hh⟩
  exact ⟨rfl, [_], hh⟩
theorem valid_lit3 {w0 w : World} {ls : List (Option Addr × Nat × List S25)} {bs : List (Option Addr × Nat × List Int)} (h : Hold w0 w ls bs) {A1 A2 A3 : Option Addr} {c1 c2 c3 : Nat} (m1 m2 m3 : Int) (d1 d2 d3 : List Int) (r : Bool)
    (hB1 : (A1, 16, d1) ∈ bs) (hB2 : (A2, 16, d2) ∈ bs) (hB3 : (A3, 16, d3) ∈ bs) (h1 : d1.length = 16) (h2 : d2.length = 16) (h3 : d3.length = 16) (hc1 : 16 ≤ c1) (hc2 : 16 ≤ c2) (hc3 : 16 ≤ c3) (hr : validS [⟨m1, d1⟩, ⟨m2, d2⟩, ⟨m3, d3⟩] = r) :
    Calls Try.prog 20 #[.slice (some ⟨w.heap.size, 0, none⟩) 3 3] (w.alloc (.cells #[.int .i64 m1, .slice A1 16 c1, .int .i64 m2, .slice A2 16 c2, .int .i64 m3, .slice A3 16 c3] 25)) fun e u => e = .returned (.bool r) ∧ ∃ ls', Hold w0 u (ls' ++ ls) bs := by
  have hl := h.lit [(⟨m1, d1⟩, A1, c1), (⟨m2, d2⟩, A2, c2), (⟨m3, d3⟩, A3, c3)] (by simp) (by intro p hp; simp at hp; rcases hp with rfl | rfl | rfl; exact ⟨by simp only; omega, by simp only [h1]; exact hB1⟩; exact ⟨by simp only; omega, by simp only [h2]; exact hB2⟩; exact ⟨by simp only; omega, by simp only [h3]; exact hB3⟩)
  simp only [flat, List.flatMap_cons, List.flatMap_nil, List.append_nil, List.cons_append, List.nil_append, h1, h2, h3] at hl
  refine (valid_h (n := 3) hl [⟨m1, d1⟩, ⟨m2, d2⟩, ⟨m3, d3⟩] r (by simp) rfl hr).mono ?_
  rintro e u ⟨rfl, hh⟩
  exact ⟨rfl, [_], hh⟩
set_option maxRecDepth 100000 in
set_option maxHeartbeats 4000000 in
theorem head_calls (w : World) : Calls Try.prog 10 #[] w fun e w' => e = .returned (.bool true) ∧ Below w.heap.size w w' := by
  have HH := Lib.hid (show Hold w w [(none, 0, [])] [(none, 0, [])] from ⟨Below.refl _ _, by intro p hp; rw [List.mem_singleton.1 hp]; exact C_nil25 w, by intro p hp; rw [List.mem_singleton.1 hp]; exact C_nil8 w⟩)
  go_enter Try.func10, Try.ntmps10
  go_wp2_with (first
    | (go_at_call 26; refine (row_h _ _ HH.out).mono ?_; rintro e u ⟨A', c', rfl, hc', hh⟩; clear HH; have HH := Lib.hid hh; clear hh)
    | (go_at_call 27; refine (block_h _ HH.out).mono ?_; rintro e u ⟨A', c', rfl, hc', hh⟩; clear HH; have HH := Lib.hid hh; clear hh)
    | (go_at_call 20; have := M14; clear this; refine (valid_lit3 HH.out 6 3 2 (rp 6) (rp 3) (rp 2) false (by simp) (by simp) (by simp) rfl rfl rfl (by omega) (by omega) (by omega) e11).mono ?_; rintro e u ⟨rfl, ls', hh⟩; clear HH; have HH := Lib.hid hh; clear hh; have M15 : True := trivial)
    | (go_at_call 20; have := M13; clear this; refine (valid_h (n := 3) HH.out LM true (by simp) rfl e10).mono ?_; rintro e u ⟨rfl, hh⟩; clear HH; have HH := Lib.hid hh; clear hh; have M14 : True := trivial)
    | (go_at_call 18; have := M12; clear this; refine (same_lit3 (n := 3) HH.out LM 4 2 1 (rp 4) (rp 2) (rp 1) (by simp) (by simp) (by simp) (by simp) rfl rfl rfl rfl (by omega) (by omega) (by omega) (by omega) e14).mono ?_; rintro e u ⟨rfl, ls', hh⟩; clear HH; have HH := Lib.hid hh; clear hh; have M13 : True := trivial)
    | (go_at_call 18; have := M11; clear this; refine (same_lit2 (n := 2) HH.out L2 5 3 (rp 5) (rp 3) (by simp) (by simp) (by simp) rfl rfl rfl (by omega) (by omega) (by omega) e13).mono ?_; rintro e u ⟨rfl, ls', hh⟩; clear HH; have HH := Lib.hid hh; clear hh; have M12 : True := trivial)
    | (go_at_call 19; have := M10; clear this; refine (bytes_h (n := 16) (n1 := 16) HH.out (rp 1) (rp 1) true (by simp) (by simp) rfl rfl (by omega) (by omega) e15).mono ?_; rintro e u ⟨rfl, hh⟩; clear HH; have HH := Lib.hid hh; clear hh; have M11 : True := trivial)
    | (go_at_call 19; have := M9; clear this; refine (bytes_h (n := 16) (n1 := 16) HH.out (rp 5) (rp 5) true (by simp) (by simp) rfl rfl (by omega) (by omega) e12).mono ?_; rintro e u ⟨rfl, hh⟩; clear HH; have HH := Lib.hid hh; clear hh; have M10 : True := trivial)
    | (go_at_call 14; have := M8; clear this; refine (solved_h (n := 3) HH.out LM 0 (rp 1) true 16 (by simp) rfl e9 rfl).mono ?_; rintro e u ⟨A', c', rfl, hc', hh⟩; clear HH; have HH := Lib.hid hh; clear hh; have M9 : True := trivial)
    | (go_at_call 12; have := M7; clear this; refine (add_h (n := 3) (n1 := 0) HH.out LM 1 [] [] false 1 0 (by simp) (by simp) rfl rfl (by decide) e8 rfl).mono ?_; rintro e u ⟨A', c', rfl, hc', hh⟩; clear HH; have HH := Lib.hid hh; clear hh; have M8 : True := trivial)
    | (go_at_call 12; have := M6; clear this; refine (add_h (n := 3) (n1 := 16) HH.out LM 5 (rp 4) [] false 12 0 (by simp) (by simp) rfl rfl (by decide) e7 rfl).mono ?_; rintro e u ⟨A', c', rfl, hc', hh⟩; clear HH; have HH := Lib.hid hh; clear hh; have M7 : True := trivial)
    | (go_at_call 12; have := M5; clear this; refine (add_h (n := 3) (n1 := 16) HH.out LM 5 (rp 5) LM false 0 3 (by simp) (by simp) rfl rfl (by decide) e6 rfl).mono ?_; rintro e u ⟨A', c', rfl, hc', hh⟩; clear HH; have HH := Lib.hid hh; clear hh; have M6 : True := trivial)
    | (go_at_call 12; have := M4; clear this; refine (add_h (n := 2) (n1 := 16) HH.out L2 2 (rp 2) LM true 0 3 (by simp) (by simp) rfl rfl (by decide) e5 rfl).mono ?_; rintro e u ⟨A', c', rfl, hc', hh⟩; clear HH; have HH := Lib.hid hh; clear hh; have M5 : True := trivial)
    | (go_at_call 16; have := M3; clear this; refine (sum_h (n := 2) HH.out L2 5 (rp 5) true 16 (by simp) rfl e4 rfl).mono ?_; rintro e u ⟨A', c', rfl, hc', hh⟩; clear HH; have HH := Lib.hid hh; clear hh; have M4 : True := trivial)
    | (go_at_call 14; have := M2; clear this; refine (solved_h (n := 2) HH.out L2 0 [] false 0 (by simp) rfl e3 rfl).mono ?_; rintro e u ⟨A', c', rfl, hc', hh⟩; clear HH; have HH := Lib.hid hh; clear hh; have M3 : True := trivial)
    | (go_at_call 12; have := M1; clear this; refine (add_h (n := 1) (n1 := 16) HH.out L1 6 (rp 6) L2 true 0 2 (by simp) (by simp) rfl rfl (by decide) e2 rfl).mono ?_; rintro e u ⟨A', c', rfl, hc', hh⟩; clear HH; have HH := Lib.hid hh; clear hh; have M2 : True := trivial)
    | (go_at_call 12; refine (add_h (n := 0) (n1 := 16) HH.out [] 3 (rp 3) L1 true 0 1 (by simp) (by simp) rfl rfl (by decide) e1 rfl).mono ?_; rintro e u ⟨A', c', rfl, hc', hh⟩; clear HH; have HH := Lib.hid hh; clear hh; have M1 : True := trivial))
  go_ret
  exact ⟨rfl, HH.out.1⟩
end Go.Proofs.Ytknlbeojdmeljaa.H
namespace Go.Proofs.Ytknlbeojdmeljaa.L
open Go.RowKit Go.Proofs.YtknlbeojdmeljaaW.PrintWords Go.Proofs.YtknlbeojdmeljaaW.PrintLast Go.Proofs.YtknlbeojdmeljaaW.PrintMore Go.Proofs.Ytknlbeojdmeljaa.P Go.Proofs.Ytknlbeojdmeljaa.H
set_option linter.unusedVariables false
set_option linter.unusedSimpArgs false
theorem sumS_eq {l : List S25} (hv : validS l = true) (m : Nat) (hm : m < 65536) : sumS l (m : Int) = if (redS l (m, z16)).1 ≠ 0 then ([], false) else ((redS l (m, z16)).2, true) := by
  unfold sumS; rw [if_neg (by rw [hv]; simp; omega)]; rfl
theorem mask_ge (m : Nat) (hm : m < 65536) : GE (m, z16) := ⟨hm, zeroE_ge.len, zeroE_ge.rng⟩
end Go.Proofs.Ytknlbeojdmeljaa.L
namespace Go.Proofs.Ytknlbeojdmeljaa.L
open Go.RowKit Go.Proofs.YtknlbeojdmeljaaW.PrintWords Go.Proofs.YtknlbeojdmeljaaW.PrintLast Go.Proofs.YtknlbeojdmeljaaW.PrintMore Go.Proofs.Ytknlbeojdmeljaa.P Go.Proofs.Ytknlbeojdmeljaa.H
set_option linter.unusedVariables false
set_option linter.unusedSimpArgs false
/-- rows by pairs -/
theorem VP.pair {l : List S25} (h : VP l) : l.Pairwise (fun a b => b.f0.toNat &&& H.lead a.f0.toNat = 0 ∧ a.f0.toNat &&& H.lead b.f0.toNat = 0 ∧ H.lead a.f0.toNat > H.lead b.f0.toNat) := by
  rw [List.pairwise_iff_getElem]
  intro i j hi hj hij
  have hg : ∀ k (hk : k < l.length), at_ l k = l[k] := fun k hk => by
    unfold at_; rw [List.getD_eq_getElem?_getD, List.getElem?_eq_getElem hk]; rfl
  have h1 := h.red i j hi hj (by omega)
  have h2 := h.red j i hj hi (by omega)
  have h3 := List.pairwise_iff_getElem.1 h.desc i j (by simpa using hi) (by simpa using hj) hij
  simp only [L.mk, hg i hi, hg j hj] at h1 h2
  simp only [List.getElem_map] at h3
  exact ⟨h1, h2, h3⟩
theorem redS_id {l : List S25} (hl : GR l) : ∀ {x : Nat × List Int}, (∀ r ∈ l, x.1 &&& H.lead r.f0.toNat = 0) → redS l x = x := by
  induction l with
  | nil => intro x _; rfl
  | cons r l ih =>
    intro x h
    have h0 := h r List.mem_cons_self
    show redS l (stepS x r) = x
    have : stepS x r = x := by unfold stepS; rw [if_neg (by simpa using h0)]
    rw [this]
    exact ih hl.tail (fun s hs => h s (List.mem_cons_of_mem _ hs))
theorem and_xor_zero {a b c : Nat} (h1 : a &&& c = 0) (h2 : b &&& c = 0) : (a ^^^ b) &&& c = 0 := by
  rw [Nat.and_xor_distrib_right, h1, h2]
  rfl
end Go.Proofs.Ytknlbeojdmeljaa.L
namespace Go.Proofs.Ytknlbeojdmeljaa.L
open Go.RowKit Go.Proofs.YtknlbeojdmeljaaW.PrintWords Go.Proofs.YtknlbeojdmeljaaW.PrintLast Go.Proofs.YtknlbeojdmeljaaW.PrintMore Go.Proofs.Ytknlbeojdmeljaa.P Go.Proofs.Ytknlbeojdmeljaa.H
set_option linter.unusedVariables false
set_option linter.unusedSimpArgs false
/-- what is reduced has no lead bit of the rows -/
theorem redS_clear {l : List S25} (hl : GR l) (hv : VP l) : ∀ {x : Nat × List Int}, GE x → ∀ r ∈ l, (redS l x).1 &&& H.lead r.f0.toNat = 0 := by
  have key : ∀ (p q : List S25), l = p ++ q → ∀ {x : Nat × List Int}, GE x → (∀ r ∈ p, x.1 &&& H.lead r.f0.toNat = 0) → ∀ r ∈ l, (redS q x).1 &&& H.lead r.f0.toNat = 0 := by
    intro p q
    induction q generalizing p with
    | nil =>
      intro e x hx hp r hr
      rw [e, List.append_nil] at hr
      exact hp r hr
    | cons s q ih =>
      intro e x hx hp
      have hs : s ∈ l := by rw [e]; simp
      obtain ⟨j, _, hj, hb⟩ := hl.lead hs
      have hpair := hv.pair
      rw [e, List.pairwise_append, List.pairwise_cons] at hpair
      obtain ⟨_, _, hpq⟩ := hpair
      refine ih (p ++ [s]) (by rw [e]; simp) (stepS_ge hx (hl.row hs) hj) (fun r hr => ?_)
      rw [stepS_eq x s hj]
      rcases List.mem_append.1 hr with hr | hr
      · have h1 := hp r hr
        have h2 := (hpq r hr s List.mem_cons_self).1
        split
        · exact and_xor_zero h1 h2
        · exact h1
      · rw [List.mem_singleton.1 hr, hj]
        split
        · rename_i hbit
          show (x.1 ^^^ s.f0.toNat) &&& 2 ^ j = 0
          rw [and_two_pow, if_neg]
          rw [Nat.testBit_xor, hbit, hb]
          simp
        · rename_i hbit
          rw [and_two_pow, if_neg hbit]
  intro x hx r hr
  exact key [] l rfl hx (by simp) r hr
/-- sums of rows -/
inductive Sp (l : List S25) : Nat × List Int → Prop
  | zero : Sp l zeroE
  | add {y : Nat × List Int} {r : S25} : Sp l y → r ∈ l → Sp l (addE y (rowv r))
theorem Sp.ge {l : List S25} (hl : GR l) {y : Nat × List Int} (h : Sp l y) : GE y := by
  induction h with
  | zero => exact zeroE_ge
  | add _ hr ih => exact ih.add (hl.row hr)
theorem Sp.sum {l : List S25} (hl : GR l) {y z : Nat × List Int} (hy : Sp l y) (hz : Sp l z) : Sp l (addE y z) := by
  induction hz with
  | zero => rw [addE_zero (hy.ge hl)]; exact hy
  | add hz hr ih => rw [← addE_assoc (hy.ge hl) (hz.ge hl) (hl.row hr)]; exact Sp.add ih hr
theorem Sp.row {l : List S25} (hl : GR l) {r : S25} (hr : r ∈ l) : Sp l (rowv r) := by
  have := Sp.add (Sp.zero (l := l)) hr
  rwa [zero_addE (hl.row hr)] at this
theorem Sp.of {l l' : List S25} (hl : GR l) (hl' : GR l') (h : ∀ r ∈ l, Sp l' (rowv r)) {y : Nat × List Int} (hy : Sp l y) : Sp l' y := by
  induction hy with
  | zero => exact Sp.zero
  | add _ hr ih => exact ih.sum hl' (h _ hr)
end Go.Proofs.Ytknlbeojdmeljaa.L
namespace Go.Proofs.Ytknlbeojdmeljaa.L
open Go.RowKit Go.Proofs.YtknlbeojdmeljaaW.PrintWords Go.Proofs.YtknlbeojdmeljaaW.PrintLast Go.Proofs.YtknlbeojdmeljaaW.PrintMore Go.Proofs.Ytknlbeojdmeljaa.P Go.Proofs.Ytknlbeojdmeljaa.H
set_option linter.unusedVariables false
set_option linter.unusedSimpArgs false
theorem ins_true (e : Nat × List Int) : ∀ (l acc : List S25), l.foldl (insStep e) (acc, true) = (acc ++ l.map (mixE e), true)
  | [], acc => by simp
  | r :: l, acc => by
    have : insStep e (acc, true) r = (acc ++ [mixE e r], true) := by unfold insStep; rw [if_neg (fun h => by cases h.1)]
    rw [List.foldl_cons, this, ins_true e l]
    simp
theorem ins_split (e : Nat × List Int) : ∀ (l acc : List S25), (l.map (fun x => H.lead x.f0.toNat)).Pairwise (· > ·) →
    ∃ p q, l = p ++ q ∧ (∀ r ∈ p, ¬ H.lead r.f0.toNat < H.lead e.1) ∧ (∀ r ∈ q, H.lead r.f0.toNat < H.lead e.1) ∧
      (if (l.foldl (insStep e) (acc, false)).2 = true then (l.foldl (insStep e) (acc, false)).1 else (l.foldl (insStep e) (acc, false)).1 ++ [rowE e]) = acc ++ (p.map (mixE e) ++ rowE e :: q.map (mixE e))
  | [], acc, _ => ⟨[], [], rfl, by simp, by simp, by simp⟩
  | r :: l, acc, hd => by
    simp only [List.map_cons, List.pairwise_cons] at hd
    by_cases hlt : H.lead r.f0.toNat < H.lead e.1
    · refine ⟨[], r :: l, rfl, by simp, fun s hs => ?_, ?_⟩
      · rcases List.mem_cons.1 hs with rfl | hs
        · exact hlt
        · exact Nat.lt_trans (hd.1 _ (List.mem_map.2 ⟨s, hs, rfl⟩)) hlt
      · have : insStep e (acc, false) r = (acc ++ [rowE e, mixE e r], true) := by unfold insStep; rw [if_pos ⟨rfl, hlt⟩]
        rw [List.foldl_cons, this, ins_true]
        simp
    · obtain ⟨p, q, h1, h2, h3, h4⟩ := ins_split e l (acc ++ [mixE e r]) hd.2
      have : insStep e (acc, false) r = (acc ++ [mixE e r], false) := by unfold insStep; rw [if_neg (fun h => hlt h.2)]
      refine ⟨r :: p, q, by rw [h1]; rfl, fun s hs => ?_, h3, ?_⟩
      · rcases List.mem_cons.1 hs with rfl | hs
        · exact hlt
        · exact h2 s hs
      · rw [List.foldl_cons, this, h4]
        simp
theorem insS_split (e : Nat × List Int) {l : List S25} (hv : VP l) : ∃ p q, l = p ++ q ∧ (∀ r ∈ p, ¬ H.lead r.f0.toNat < H.lead e.1) ∧ (∀ r ∈ q, H.lead r.f0.toNat < H.lead e.1) ∧ insS e l = p.map (mixE e) ++ rowE e :: q.map (mixE e) := by
  obtain ⟨p, q, h1, h2, h3, h4⟩ := ins_split e l [] hv.desc
  rw [List.nil_append] at h4
  exact ⟨p, q, h1, h2, h3, h4⟩
end Go.Proofs.Ytknlbeojdmeljaa.L
namespace Go.Proofs.Ytknlbeojdmeljaa.L
open Go.RowKit Go.Proofs.YtknlbeojdmeljaaW.PrintWords Go.Proofs.YtknlbeojdmeljaaW.PrintLast Go.Proofs.YtknlbeojdmeljaaW.PrintMore Go.Proofs.Ytknlbeojdmeljaa.P Go.Proofs.Ytknlbeojdmeljaa.H
set_option linter.unusedVariables false
set_option linter.unusedSimpArgs false
def Pr (a b : S25) : Prop := b.f0.toNat &&& H.lead a.f0.toNat = 0 ∧ a.f0.toNat &&& H.lead b.f0.toNat = 0 ∧ H.lead a.f0.toNat > H.lead b.f0.toNat
theorem VP.of_pair {l : List S25} (hf : ∀ x ∈ l, fineB x.f0 x.f1 = true) (hp : l.Pairwise Pr) : VP l := by
  have hg : ∀ k (hk : k < l.length), at_ l k = l[k] := fun k hk => by
    unfold at_; rw [List.getD_eq_getElem?_getD, List.getElem?_eq_getElem hk]; rfl
  refine ⟨hf, ?_, fun i k hi hk hne => ?_⟩
  · rw [List.pairwise_map]
    exact hp.imp (fun h => h.2.2)
  · simp only [L.mk, hg i hi, hg k hk]
    rcases Nat.lt_or_gt_of_ne hne with h | h
    · exact (List.pairwise_iff_getElem.1 hp i k hi hk h).1
    · exact (List.pairwise_iff_getElem.1 hp k i hk hi h).2.1
theorem lead_unique {m j : Nat} (h1 : 2 ^ j ≤ m) (h2 : m < 2 ^ (j + 1)) (hm : m < 65536) : H.lead m = 2 ^ j := by
  obtain ⟨i, _, e, h3, h4⟩ := lead_spec m (by have := Nat.two_pow_pos j; omega) hm
  have a1 : i < j + 1 := (Nat.pow_lt_pow_iff_right (show 1 < 2 by omega)).1 (Nat.lt_of_le_of_lt h3 h2)
  have a2 : j < i + 1 := (Nat.pow_lt_pow_iff_right (show 1 < 2 by omega)).1 (Nat.lt_of_le_of_lt h1 h4)
  rw [e, show i = j by omega]
/-- what a new equation must be -/
structure NE (l : List S25) (e : Nat × List Int) : Prop where
  ge : GE e
  ne : e.1 ≠ 0
  clear : ∀ r ∈ l, e.1 &&& H.lead r.f0.toNat = 0
theorem mixE_v (e : Nat × List Int) (r : S25) {j : Nat} (hj : H.lead e.1 = 2 ^ j) (hr : 0 ≤ r.f0) : rowv (mixE e r) = if r.f0.toNat.testBit j = true then (r.f0.toNat ^^^ e.1, xorD r.f1 e.2) else rowv r := by
  unfold mixE
  rw [hj, and_two_pow]
  by_cases h : r.f0.toNat.testBit j = true
  · rw [if_pos h, if_pos h, if_pos (by have := Nat.two_pow_pos j; omega)]
    rfl
  · rw [if_neg h, if_neg h, if_neg (by simp)]
theorem mix_lead {l : List S25} (hl : GR l) {e : Nat × List Int} (he : NE l e) {r : S25} (hr : r ∈ l) : H.lead (mixE e r).f0.toNat = H.lead r.f0.toNat ∧ GE (rowv (mixE e r)) ∧ 1 ≤ (mixE e r).f0 ∧ (mixE e r).f0 < 65536 := by
  have hf := fine_spec (hl.fine r hr)
  obtain ⟨j, hj16, hj, h2, h3⟩ := lead_spec e.1 (by have := he.ne; omega) he.ge.m
  obtain ⟨i, hi16, hi, h4, h5⟩ := lead_spec r.f0.toNat (by omega) (by omega)
  have hv := mixE_v e r hj (by omega)
  by_cases hb : r.f0.toNat.testBit j = true
  · rw [if_pos hb] at hv
    have hm : (mixE e r).f0 = ((r.f0.toNat ^^^ e.1 : Nat) : Int) := by
      unfold mixE
      rw [hj, and_two_pow, if_pos hb, if_pos (by have := Nat.two_pow_pos j; omega)]
    have hji : j ≠ i := by
      rintro rfl
      have hc := he.clear r hr
      rw [hi, and_two_pow, if_pos (top_bit h2 h3)] at hc
      have := Nat.two_pow_pos j
      omega
    have hlt : j < i := by
      rcases Nat.lt_or_gt_of_ne hji with h | h
      · exact h
      · have := Nat.testBit_lt_two_pow (x := r.f0.toNat) (i := j) (Nat.lt_of_lt_of_le h5 (Nat.pow_le_pow_right (by omega) (by omega)))
        rw [this] at hb
        cases hb
    have hei : e.1 < 2 ^ i := Nat.lt_of_lt_of_le h3 (Nat.pow_le_pow_right (by omega) (by omega))
    have hx1 : (r.f0.toNat ^^^ e.1) < 2 ^ (i + 1) := Nat.xor_lt_two_pow h5 (Nat.lt_of_lt_of_le hei (Nat.pow_le_pow_right (by omega) (by omega)))
    have hx2 : 2 ^ i ≤ (r.f0.toNat ^^^ e.1) := by
      refine Nat.ge_two_pow_of_testBit ?_
      rw [Nat.testBit_xor, top_bit h4 h5, Nat.testBit_lt_two_pow hei]
      rfl
    have hx3 : (r.f0.toNat ^^^ e.1) < 65536 := by
      have := Nat.xor_lt_two_pow (n := 16) (x := r.f0.toNat) (y := e.1) (by omega) (by have := he.ge.m; omega)
      omega
    have hp := Nat.two_pow_pos i
    refine ⟨?_, ?_, by omega, by omega⟩
    · rw [hm, Int.toNat_natCast, hi]
      exact lead_unique hx2 hx1 hx3
    · rw [hv]
      exact (hl.row hr).add he.ge
  · rw [if_neg hb] at hv
    have hm : mixE e r = r := by
      unfold mixE
      rw [hj, and_two_pow, if_neg hb, if_neg (by simp)]
    rw [hm]
    exact ⟨rfl, hl.row hr, hf.1, hf.2.1⟩
end Go.Proofs.Ytknlbeojdmeljaa.L
namespace Go.Proofs.Ytknlbeojdmeljaa.L
open Go.RowKit Go.Proofs.YtknlbeojdmeljaaW.PrintWords Go.Proofs.YtknlbeojdmeljaaW.PrintLast Go.Proofs.YtknlbeojdmeljaaW.PrintMore Go.Proofs.Ytknlbeojdmeljaa.P Go.Proofs.Ytknlbeojdmeljaa.H
set_option linter.unusedVariables false
set_option linter.unusedSimpArgs false
theorem NE.lead {l : List S25} {e : Nat × List Int} (he : NE l e) : ∃ j, j < 16 ∧ H.lead e.1 = 2 ^ j ∧ e.1.testBit j = true := by
  obtain ⟨j, hj16, hj, h2, h3⟩ := lead_spec e.1 (by have := he.ne; omega) he.ge.m
  exact ⟨j, hj16, hj, top_bit h2 h3⟩
theorem mix_mask {l : List S25} (hl : GR l) {e : Nat × List Int} (he : NE l e) {r : S25} (hr : r ∈ l) : (mixE e r).f0.toNat = if r.f0.toNat &&& H.lead e.1 ≠ 0 then r.f0.toNat ^^^ e.1 else r.f0.toNat := by
  unfold mixE
  split
  · rw [Int.toNat_natCast]
  · rfl
theorem mix_and {l : List S25} (hl : GR l) {e : Nat × List Int} (he : NE l e) {r : S25} (hr : r ∈ l) {c : Nat} (h1 : r.f0.toNat &&& c = 0) (h2 : e.1 &&& c = 0) : (mixE e r).f0.toNat &&& c = 0 := by
  rw [mix_mask hl he hr]
  split
  · exact and_xor_zero h1 h2
  · exact h1
theorem mix_clear {l : List S25} (hl : GR l) {e : Nat × List Int} (he : NE l e) {r : S25} (hr : r ∈ l) : (mixE e r).f0.toNat &&& H.lead e.1 = 0 := by
  obtain ⟨j, _, hj, hb⟩ := he.lead
  rw [mix_mask hl he hr]
  by_cases h : r.f0.toNat &&& H.lead e.1 = 0
  · rw [if_neg (fun h2 => h2 h)]; exact h
  · rw [if_pos h]
    rw [hj, and_two_pow] at h ⊢
    have hrb : r.f0.toNat.testBit j = true := by
      by_cases h3 : r.f0.toNat.testBit j = true
      · exact h3
      · rw [if_neg h3] at h; exact absurd rfl h
    rw [if_neg]
    rw [Nat.testBit_xor, hrb, hb]
    simp
theorem ne_lead {l : List S25} {e : Nat × List Int} (he : NE l e) {r : S25} (hr : r ∈ l) : H.lead r.f0.toNat ≠ H.lead e.1 := by
  intro h
  obtain ⟨j, _, hj, hb⟩ := he.lead
  have hc := he.clear r hr
  rw [h, hj, and_two_pow, if_pos hb] at hc
  have := Nat.two_pow_pos j
  omega
theorem fineB_of {x : S25} (h1 : 1 ≤ x.f0) (h2 : x.f0 < 65536) (h3 : x.f1.length = 16) : fineB x.f0 x.f1 = true := by
  unfold fineB
  simp [h1, h2, h3]
theorem insS_ok {l : List S25} (hl : GR l) (hv : VP l) {e : Nat × List Int} (he : NE l e) : VP (insS e l) ∧ GR (insS e l) ∧ (insS e l).length = l.length + 1 := by
  obtain ⟨p, q, hpq, hp, hq, hins⟩ := insS_split e hv
  have hsubp : ∀ r ∈ p, r ∈ l := fun r hr => by rw [hpq]; simp [hr]
  have hsubq : ∀ r ∈ q, r ∈ l := fun r hr => by rw [hpq]; simp [hr]
  have hmem : ∀ x ∈ insS e l, x = rowE e ∨ ∃ r ∈ l, x = mixE e r := by
    intro x hx
    rw [hins] at hx
    rcases List.mem_append.1 hx with h | h
    · obtain ⟨r, hr, rfl⟩ := List.mem_map.1 h
      exact .inr ⟨r, hsubp r hr, rfl⟩
    · rcases List.mem_cons.1 h with h | h
      · exact .inl h
      · obtain ⟨r, hr, rfl⟩ := List.mem_map.1 h
        exact .inr ⟨r, hsubq r hr, rfl⟩
  have hfine : ∀ x ∈ insS e l, fineB x.f0 x.f1 = true := by
    intro x hx
    rcases hmem x hx with rfl | ⟨r, hr, rfl⟩
    · have := he.ne
      have := he.ge.m
      exact fineB_of (by show (1 : Int) ≤ (e.1 : Int); omega) (by show (e.1 : Int) < 65536; omega) he.ge.len
    · obtain ⟨_, hg, h1, h2⟩ := mix_lead hl he hr
      exact fineB_of h1 h2 hg.len
  have hpair := hv.pair
  rw [hpq, List.pairwise_append] at hpair
  obtain ⟨hpp, hqq, hcross⟩ := hpair
  have hmm : ∀ a ∈ l, ∀ b ∈ l, (b.f0.toNat &&& H.lead a.f0.toNat = 0 ∧ a.f0.toNat &&& H.lead b.f0.toNat = 0 ∧ H.lead a.f0.toNat > H.lead b.f0.toNat) → Pr (mixE e a) (mixE e b) := by
    intro a ha b hb ⟨h1, h2, h3⟩
    have la := (mix_lead hl he ha).1
    have lb := (mix_lead hl he hb).1
    refine ⟨?_, ?_, by rw [la, lb]; exact h3⟩
    · rw [la]; exact mix_and hl he hb h1 (he.clear a ha)
    · rw [lb]; exact mix_and hl he ha h2 (he.clear b hb)
  have hrow : (rowE e).f0.toNat = e.1 := Int.toNat_natCast _
  have hP : (insS e l).Pairwise Pr := by
    rw [hins, List.pairwise_append, List.pairwise_cons, List.pairwise_map, List.pairwise_map]
    refine ⟨?_, ⟨fun b hb => ?_, ?_⟩, fun a ha b hb => ?_⟩
    · exact hpp.imp_of_mem (fun ha hb h => hmm _ (hsubp _ ha) _ (hsubp _ hb) h)
    · obtain ⟨r, hr, rfl⟩ := List.mem_map.1 hb
      have lr := (mix_lead hl he (hsubq r hr)).1
      refine ⟨?_, ?_, ?_⟩
      · rw [hrow]; exact mix_clear hl he (hsubq r hr)
      · rw [hrow, lr]; exact he.clear r (hsubq r hr)
      · rw [hrow, lr]; exact hq r hr
    · exact hqq.imp_of_mem (fun ha hb h => hmm _ (hsubq _ ha) _ (hsubq _ hb) h)
    · obtain ⟨r, hr, rfl⟩ := List.mem_map.1 ha
      have lr := (mix_lead hl he (hsubp r hr)).1
      rcases List.mem_cons.1 hb with rfl | hb
      · refine ⟨?_, ?_, ?_⟩
        · rw [hrow, lr]; exact he.clear r (hsubp r hr)
        · rw [hrow]; exact mix_clear hl he (hsubp r hr)
        · rw [hrow, lr]
          have h1 := hp r hr
          have h2 := ne_lead he (hsubp r hr)
          omega
      · obtain ⟨s, hs, rfl⟩ := List.mem_map.1 hb
        exact hmm _ (hsubp r hr) _ (hsubq s hs) (hcross r hr s hs)
  refine ⟨VP.of_pair hfine hP, ⟨hfine, fun x hx => ?_⟩, ?_⟩
  · rcases hmem x hx with rfl | ⟨r, hr, rfl⟩
    · exact he.ge.rng
    · exact (mix_lead hl he hr).2.1.rng
  · rw [hins, hpq]
    simp
    omega
end Go.Proofs.Ytknlbeojdmeljaa.L
namespace Go.Proofs.Ytknlbeojdmeljaa.L
open Go.RowKit Go.Proofs.YtknlbeojdmeljaaW.PrintWords Go.Proofs.YtknlbeojdmeljaaW.PrintLast Go.Proofs.YtknlbeojdmeljaaW.PrintMore Go.Proofs.Ytknlbeojdmeljaa.P Go.Proofs.Ytknlbeojdmeljaa.H
set_option linter.unusedVariables false
set_option linter.unusedSimpArgs false
/-- the rows behind an insertion: which they are -/
theorem insS_mem {l : List S25} (hv : VP l) (e : Nat × List Int) : rowE e ∈ insS e l ∧ (∀ r ∈ l, mixE e r ∈ insS e l) ∧ (∀ x ∈ insS e l, x = rowE e ∨ ∃ r ∈ l, x = mixE e r) := by
  obtain ⟨p, q, hpq, _, _, hins⟩ := insS_split e hv
  rw [hins]
  refine ⟨by simp, fun r hr => ?_, fun x hx => ?_⟩
  · rw [hpq] at hr
    rcases List.mem_append.1 hr with h | h
    · exact List.mem_append.2 (.inl (List.mem_map.2 ⟨r, h, rfl⟩))
    · exact List.mem_append.2 (.inr (List.mem_cons_of_mem _ (List.mem_map.2 ⟨r, h, rfl⟩)))
  · rcases List.mem_append.1 hx with h | h
    · obtain ⟨r, hr, rfl⟩ := List.mem_map.1 h
      exact .inr ⟨r, by rw [hpq]; simp [hr], rfl⟩
    · rcases List.mem_cons.1 h with h | h
      · exact .inl h
      · obtain ⟨r, hr, rfl⟩ := List.mem_map.1 h
        exact .inr ⟨r, by rw [hpq]; simp [hr], rfl⟩
theorem rowE_v (e : Nat × List Int) : rowv (rowE e) = e := pair_ext (Int.toNat_natCast _) rfl
theorem mixE_or {l : List S25} (hl : GR l) {e : Nat × List Int} (he : NE l e) {r : S25} (hr : r ∈ l) : rowv (mixE e r) = addE (rowv r) e ∨ rowv (mixE e r) = rowv r := by
  obtain ⟨j, _, hj, _⟩ := he.lead
  have hf := fine_spec (hl.fine r hr)
  rw [mixE_v e r hj (by omega)]
  split
  · exact .inl rfl
  · exact .inr rfl
theorem data_ge {d : List Int} (h1 : d.length = 16) (h2 : ∀ b ∈ d, isB b) : GE (0, d) := ⟨by show (0 : Nat) < 65536; omega, h1, h2⟩
theorem redS_data {l : List S25} (hl : GR l) (d : List Int) : redS l (0, d) = (0, d) := redS_id hl (fun r _ => Nat.zero_and _)
theorem split_eq (m : Nat) (hm : m < 65536) {d : List Int} (h1 : d.length = 16) (h2 : ∀ b ∈ d, isB b) : (m, d) = addE (m, z16) (0, d) := by
  refine pair_ext (Nat.xor_zero _).symm ?_
  exact (congrArg Prod.snd (zero_addE (data_ge h1 h2))).symm
theorem redS_split {l : List S25} (hl : GR l) (m : Nat) (hm : m < 65536) {d : List Int} (h1 : d.length = 16) (h2 : ∀ b ∈ d, isB b) : redS l (m, d) = addE (redS l (m, z16)) (0, d) := by
  have := redS_lin hl (x := (m, z16)) (y := (0, d)) ⟨hm, zeroE_ge.len, zeroE_ge.rng⟩ (data_ge h1 h2)
  rw [← split_eq m hm h1 h2, redS_data hl] at this
  exact this
theorem addE_eq_zero {x y : Nat × List Int} (hx : GE x) (hy : GE y) (h : addE x y = zeroE) : x = y := by
  have := addE_cancel hx hy
  rw [h, zero_addE hy] at this
  exact this.symm
end Go.Proofs.Ytknlbeojdmeljaa.L
namespace Go.Proofs.Ytknlbeojdmeljaa.H
open Go.RowKit Go.Proofs.YtknlbeojdmeljaaW.PrintWords Go.Proofs.YtknlbeojdmeljaaW.PrintLast Go.Proofs.YtknlbeojdmeljaaW.PrintMore Go.Proofs.Ytknlbeojdmeljaa.P
set_option linter.unusedVariables false
set_option linter.unusedSimpArgs false
/-- block i of a page of 256 bytes -/
def blk (B : List Int) (i : Nat) : List Int := (B.drop (16 * i)).take 16
theorem blk_len {B : List Int} (hB : B.length = 256) {i : Nat} (hi : i < 16) : (blk B i).length = 16 := by simp [blk, hB]; omega
theorem und38 : Try.prog.underlying 38 = some (.array 16 37) := by kernel_rfl
theorem und37 : Try.prog.underlying 37 = some (.array 16 5) := by kernel_rfl
theorem size38 : (Try.prog.info? 38).map (·.size) = some 256 := by kernel_rfl
theorem size37 : (Try.prog.info? 37).map (·.size) = some 16 := by kernel_rfl
theorem sizeOf37 (w : World) : (sizeOf 37).run Try.prog w = .ok 16 w := by kernel_rfl
theorem agg37 (w : World) : (isAgg 37).run Try.prog w = .ok true w := by kernel_rfl
theorem run_index38 (B : List Int) (hB : B.length = 256) (k : Nat) (hk : k < 16) (w : World) :
    (Instr.index 38 (.agg (bys B).toArray) (.int .i64 (k : Int))).run Try.prog w = .ok (.agg (bys (blk B k)).toArray) w := by
  have h0 : (0 : Int) ≤ (k : Int) ∧ (k : Int) < ((16 : Nat) : Int) := ⟨by omega, by omega⟩
  have hp : (part 37 (bys B).toArray (k * 16)).run Try.prog w = .ok (.agg (bys (blk B k)).toArray) w := by
    unfold part
    simp only [Sem.run_bind, agg37, Result.andThen_ok, if_true, sizeOf37]
    simp only [Sem.run_pure]
    congr 2
    simp [bys, blk, List.extract_eq_take_drop, Nat.mul_comm]
  simp only [Instr.index, asIntOf, Sem.run_bind, run_underlying und38, Result.andThen_ok, Sem.run_pure]
  rw [if_pos h0]
  simp only [Sem.run_bind, sizeOf37, Result.andThen_ok, Int.toNat_natCast]
  exact hp
theorem bit_test (m k : Nat) (hm : m < 65536) (hk : k < 16) : (Go.bits .and .i64 ((m : Int) / 2 ^ k) 1 == 1) = m.testBit k := by
  have e1 : (m : Int) / 2 ^ k = ((m / 2 ^ k : Nat) : Int) := by
    rw [Int.natCast_ediv]
    congr 1
  have e2 : m / 2 ^ k < 65536 := Nat.lt_of_le_of_lt (Nat.div_le_self _ _) hm
  rw [e1]
  have h := i64_and_nat (m / 2 ^ k) 1 (by omega) (by omega)
  rw [show ((1 : Nat) : Int) = 1 from rfl] at h
  rw [h, Nat.and_one_is_mod, Nat.testBit_eq_decide_div_mod_eq]
  cases h2 : decide (m / 2 ^ k % 2 = 1)
  · simp at h2
    simp
    omega
  · simp at h2
    simp [h2]
def sumTo (B : List Int) (m : Nat) : Nat → List Int
  | 0 => z16
  | k + 1 => if m.testBit k = true then xorD (sumTo B m k) (blk B k) else sumTo B m k
def sumB (B : List Int) (m : Nat) : List Int := sumTo B m 16
theorem sumTo_len {B : List Int} (hB : B.length = 256) (m : Nat) : ∀ k, k ≤ 16 → (sumTo B m k).length = 16
  | 0, _ => rfl
  | k + 1, h => by
    have h1 := sumTo_len hB m k (by omega)
    unfold sumTo
    split
    · simp [xorD, h1, blk_len hB (show k < 16 by omega)]
    · exact h1
set_option maxRecDepth 100000 in
set_option maxHeartbeats 1000000 in
theorem lawsum_calls (B : List Int) (hB : B.length = 256) (m : Nat) (hm : m < 65536) (w : World) :
    Calls Try.prog 23 #[.agg (bys B).toArray, .int .i64 (m : Int)] w fun e w' => ∃ g, e = .returned (.slice (some ⟨g, 0, none⟩) 16 16) ∧ w.heap.size ≤ g ∧ w'.heap[g]? = some (.cells (bys (sumB B m)).toArray 5 (0, 0)) ∧ Below w.heap.size w w' := by
  have HB := Lib.hid hB
  have hs : (Try.prog.info? 38).map (·.size) = some (bys B).length := by rw [size38, bys_len, hB]
  have HS := Lib.hid hs
  clear hB hs
  have hmk : ∀ w : World, (Instr.makeSlice 23 (.int .i64 16) (.int .i64 16)).run Try.prog w = .ok (.slice (some ⟨w.heap.size, 0, none⟩) 16 16) (w.alloc (.cells (Array.replicate 16 (.int .u8 0)) 5)) := fun w => by
    kernel_rfl
  obtain ⟨D, hD⟩ : ∃ D, D = bys B := ⟨_, rfl⟩
  rw [← hD] at HS ⊢
  have HD := Lib.hid hD
  clear hD
  go_enter Try.func23, Try.ntmps23
  have hb : ((w.alloc (.cells D.toArray 38)).alloc (.cells (Array.replicate 16 (.int .u8 0)) 5)).heap[w.heap.size]? = some (.cells D.toArray 38 (0, 0)) := by
    rw [Below.heap_alloc _ _ _ (by simp)]; exact blk_new rfl
  have Hb := Lib.hid hb
  clear hb
  go_wp2_with (first | (refine wpList_load_row rfl 38 _ rfl w.heap.size rfl 38 D.toArray (0, 0) _ Hb.out und38 rfl (by simp only [List.size_toArray]; exact HS.out) ?_))
  go_loopw [11] (fun i wr => ∃ k : Nat, k ≤ 16 ∧ i = .int .i64 (k : Int) ∧ wr.heap[w.heap.size + 1]? = some (.cells (bys (sumTo B m k)).toArray 5 (0, 0)) ∧ Below w.heap.size w wr) (fun i _ => 16 - (intOf i).toNat)
  case atStart => exact ⟨0, by omega, rfl, blk_new (by simp), ((Below.refl _ _).alloc (Nat.le_refl _) _).alloc (by simp) _⟩
  case round =>
    obtain ⟨k, hk, rfl, hg, hB⟩ := hrel
    by_cases hlt : k < 16
    · have hix := run_index38 B HB.out k hlt
      rw [← HD.out] at hix
      have hbl := blk_len HB.out hlt
      have HBL := Lib.hid hbl
      clear hbl
      have HG := Lib.hid hg
      clear hg
      obtain ⟨E, hE⟩ : ∃ E, E = blk B k := ⟨_, rfl⟩
      rw [← hE] at hix HBL
      have HE := Lib.hid hE
      clear hE
      have HK := Lib.hid hk
      clear hk
      cases hbit : m.testBit k
      · have htest := bit_test m k hm (by omega)
        rw [hbit] at htest
        have HBIT := Lib.hid hbit
        clear hbit
        go_wp2_with (first | (refine wpList_store_row rfl 37 _ _ rfl wr.heap.size (bys E) _ 37 rfl rfl (blk_new rfl) (by rw [bys_len, HBL.out]; rfl) (by rw [size37, bys_len, HBL.out]) (bys_one _) ?_; intro w1 g1 g2 g3 g4; have G1 := Lib.hid g1; have G2 := Lib.hid g2; have G3 := Lib.hid g3; have G4 := Lib.hid g4; clear g1 g2 g3 g4))
        have q1 : w1.heap[w.heap.size + 1]? = some (.cells (bys (sumTo B m (k + 1))).toArray 5 (0, 0)) := by
          have h1 := (Array.getElem?_eq_some_iff.1 HG.out).1
          rw [G2.out _ (by omega), Below.heap_alloc _ _ _ h1, HG.out]
          simp only [sumTo, HBIT.out]
          rfl
        have q2 : Below w.heap.size w w1 := G4.out _ _ hB.size (hB.alloc hB.size _)
        have Q1 := Lib.hid q1
        clear q1
        go_roundw
        case rel => exact ⟨k + 1, by omega, by go_num, Q1.out, q2⟩
        case measure => simp [intOf]; omega
      · have htest := bit_test m k hm (by omega)
        rw [hbit] at htest
        have HBIT := Lib.hid hbit
        clear hbit
        go_wp2_with (first | (refine wpList_store_row rfl 37 _ _ rfl wr.heap.size (bys E) _ 37 rfl rfl (blk_new rfl) (by rw [bys_len, HBL.out]; rfl) (by rw [size37, bys_len, HBL.out]) (bys_one _) ?_; intro w1 g1 g2 g3 g4; have G1 := Lib.hid g1; have G2 := Lib.hid g2; have G3 := Lib.hid g3; have G4 := Lib.hid g4; clear g1 g2 g3 g4))
        have q1 : w1.heap[w.heap.size + 1]? = some (.cells (bys (mixd (sumTo B m k) E 0)).toArray 5 (0, 0)) := by
          have h1 := (Array.getElem?_eq_some_iff.1 HG.out).1
          rw [G2.out _ (by omega), Below.heap_alloc _ _ _ h1, HG.out, mixd_zero]
        have q2 : Below w.heap.size w w1 := G4.out _ _ hB.size (hB.alloc hB.size _)
        have Q1 := Lib.hid q1
        clear q1
        have hacc := sumTo_len HB.out m k HK.out
        have HACC := Lib.hid hacc
        clear hacc
        have hg37b : w.heap.size + 1 < wr.heap.size := (Array.getElem?_eq_some_iff.1 HG.out).1
        have hsz0 : wr.heap.size + 1 = w1.heap.size := by rw [G3.out]; simp
        have HZ0 := Lib.hid hsz0
        clear hsz0
        obtain ⟨wo, rfl⟩ : ∃ wo : World, wo = wr := ⟨_, rfl⟩
        go_loopw [22] (fun i wi => ∃ j : Nat, j ≤ 16 ∧ i = .int .i64 (j : Int) ∧ wi.heap[w.heap.size + 1]? = some (.cells (bys (mixd (sumTo B m k) E j)).toArray 5 (0, 0)) ∧ wi.heap[wo.heap.size]? = some (.cells (bys E).toArray 37 (0, 0)) ∧ Below w.heap.size w wi) (fun i _ => 16 - (intOf i).toNat)
        case atStart => exact ⟨0, by omega, rfl, Q1.out, G1.out, q2⟩
        case round =>
          obtain ⟨j, hj, rfl, h1, h2, hBi⟩ := hrel
          by_cases hjt : j < 16
          · have c1 : wr.cell? ⟨w.heap.size + 1, j, none⟩ = some (.int .u8 ((sumTo B m k).getD j 0)) := by
              rw [cell_of_row wr _ j _ 5 (0, 0) h1, bys_at _ _ (by rw [mixd_len _ _ j HACC.out HBL.out]; exact hjt), mixd_at _ _ j HACC.out HBL.out hjt]
            have c2 : wr.cell? ⟨wo.heap.size, j, none⟩ = some (.int .u8 (E.getD j 0)) := by
              rw [cell_of_row wr _ j _ 37 (0, 0) h2, bys_at _ _ (by rw [HBL.out]; exact hjt)]
            have f1 : wr.frozen? ⟨w.heap.size + 1, j, none⟩ = false := frozen_of_row wr _ j _ 5 h1
            have h4 : (wr.setCell ⟨w.heap.size + 1, j, none⟩ (.int .u8 (xorB ((sumTo B m k).getD j 0) (E.getD j 0)))).heap[w.heap.size + 1]? = some (.cells (bys (mixd (sumTo B m k) E (j + 1))).toArray 5 (0, 0)) := by
              rw [heap_setCell_same wr _ j _ 5 _ h1, ← mixd_set _ _ j HACC.out HBL.out hjt]
              simp [bys]
            have h5 : (wr.setCell ⟨w.heap.size + 1, j, none⟩ (.int .u8 (xorB ((sumTo B m k).getD j 0) (E.getD j 0)))).heap[wo.heap.size]? = some (.cells (bys E).toArray 37 (0, 0)) := by
              rw [Below.heap_setCell wr _ _ _ (by simp; omega)]; exact h2
            have h7 := hBi.setCell (p := ⟨w.heap.size + 1, j, none⟩) (by simp) (.int .u8 (xorB ((sumTo B m k).getD j 0) (E.getD j 0)))
            obtain ⟨x, hx⟩ : ∃ x, x = (sumTo B m k).getD j 0 := ⟨_, rfl⟩
            obtain ⟨y, hy⟩ : ∃ y, y = E.getD j 0 := ⟨_, rfl⟩
            rw [← hx] at c1 h4 h5 h7
            rw [← hy] at c2 h4 h5 h7
            clear h1 h2 hx hy hBi
            have H4 := Lib.hid h4; clear h4
            have H5 := Lib.hid h5; clear h5
            have H7 := Lib.hid h7; clear h7
            go_wp2
            go_region
            all_goals go_wp2
            all_goals go_roundw
            case rel => exact ⟨j + 1, by omega, by go_num, H4.out, H5.out, H7.out.drew⟩
            case measure => simp [intOf]; omega
          · obtain rfl : j = 16 := by omega
            rw [mixd_all _ _ HACC.out HBL.out] at h1
            have hfin : sumTo B m (k + 1) = xorD (sumTo B m k) E := by simp only [sumTo, HBIT.out, HE.out, if_true]
            rw [← hfin] at h1
            have H1 := Lib.hid h1
            clear h1 h2 hfin
            go_wp2
            go_roundw
            case rel => exact ⟨k + 1, by omega, by go_num, H1.out, hBi⟩
            case measure => simp [intOf]; omega
    · obtain rfl : k = 16 := by omega
      go_wp2
      go_ret
      exact ⟨_, rfl, by omega, hg, hB⟩
end Go.Proofs.Ytknlbeojdmeljaa.H
namespace Go.Proofs.Ytknlbeojdmeljaa.H
open Go.RowKit Go.Proofs.YtknlbeojdmeljaaW.PrintWords Go.Proofs.YtknlbeojdmeljaaW.PrintLast Go.Proofs.YtknlbeojdmeljaaW.PrintMore Go.Proofs.Ytknlbeojdmeljaa.P
set_option linter.unusedVariables false
set_option linter.unusedSimpArgs false
/-- one more equation that is true of the blocks -/
def stepA (B : List Int) (l : Option (List S25)) (m : Int) : Option (List S25) :=
  match l with
  | none => none
  | some l => if m = 0 then some l else if (addS l m (sumB B m.toNat)).2.2 = 0 then some (addS l m (sumB B m.toNat)).1 else none
def allO (B : List Int) (ms : List Int) : Option (List S25) := ms.foldl (stepA B) (some [])
def allS (B : List Int) (ms : List Int) : List S25 × Bool := match allO B ms with
  | some l => (l, true)
  | none => ([], false)
theorem foldA_none (B : List Int) : ∀ ms : List Int, ms.foldl (stepA B) none = none
  | [] => rfl
  | _ :: ms => foldA_none B ms
theorem take_succ_rd (ms : List Int) (k : Nat) (h : k < ms.length) : ms.take (k + 1) = ms.take k ++ [rd ms (k : Int)] := by
  rw [List.take_succ_eq_append_getElem h]
  simp [rd, h]
theorem foldA_succ (B : List Int) (ms : List Int) (k : Nat) (h : k < ms.length) : (ms.take (k + 1)).foldl (stepA B) (some []) = stepA B ((ms.take k).foldl (stepA B) (some [])) (rd ms (k : Int)) := by
  rw [take_succ_rd ms k h, List.foldl_append]
  rfl
theorem allO_bad (B : List Int) (ms : List Int) (k : Nat) (h : (ms.take k).foldl (stepA B) (some []) = none) : allO B ms = none := by
  unfold allO
  rw [← List.take_append_drop k ms, List.foldl_append, h]
  exact foldA_none B _
theorem insStep_len (e : Nat × List Int) : ∀ (l : List S25) (s : List S25 × Bool), (l.foldl (insStep e) s).1.length + (if (l.foldl (insStep e) s).2 = true then 0 else 1) = l.length + s.1.length + (if s.2 = true then 0 else 1)
  | [], ⟨a, b⟩ => by cases b <;> simp
  | r :: l, s => by
    rw [List.foldl_cons, insStep_len e l]
    unfold insStep
    by_cases h : s.2 = false ∧ lead r.f0.toNat < lead e.1
    · rw [if_pos h]
      simp [h.1]
      omega
    · rw [if_neg h]
      simp
      omega
theorem insS_len (e : Nat × List Int) (l : List S25) : (insS e l).length = l.length + 1 := by
  have h := insStep_len e l ([], false)
  unfold insS insL
  split
  · rename_i h1
    rw [h1] at h
    simpa using h
  · rename_i h1
    rw [if_neg h1] at h
    simpa using h
theorem addS_len (l : List S25) (m : Int) (d : List Int) : (addS l m d).1.length ≤ l.length + 1 := by
  unfold addS
  split
  · simp
  · split
    · simp
    · split
      · simp
      · simp [insS_len]
theorem add_calls' (A : Option Addr) (cap : Nat) (zs : List S25) (m : Int) (A1 : Option Addr) (c1 n1 : Nat) (ds : List Int) (w : World) (hr : Kd.C k25 w A zs.length zs) (hn : ds.length = n1) (hx : Kd.C (Kd.int .u8) w A1 n1 ds) (hlen : zs.length ≤ 1000000) :
    Calls Try.prog 12 #[.slice A zs.length cap, .agg #[.int .i64 m, .slice A1 n1 c1]] w fun e w' => ∃ v, e = .returned (.tuple #[v, .bool (addS zs m ds).2.1, .int .i64 (addS zs m ds).2.2]) ∧ Kd.S k25 25 w' w.heap.size (fun _ => True) v (addS zs m ds).1 ∧ Below w.heap.size w w' := by
  subst hn
  exact add_calls A cap zs m A1 c1 ds w hr hx hlen
theorem sum_row {B : List Int} (hB : B.length = 256) {m g : Nat} {w w1 : World} (hg : w.heap.size ≤ g) (h : w1.heap[g]? = some (.cells (bys (sumB B m)).toArray 5 (0, 0))) : Kd.C (Kd.int .u8) w1 (some ⟨g, 0, none⟩) 16 (sumB B m) := by
  have h16 := sumTo_len hB m 16 (by omega)
  have h2 := (Kd.R_reads' (row_R (w := w1) w.heap.size (fun _ => True) h16 hg trivial h)).2.2
  rw [h16] at h2
  exact h2
set_option maxRecDepth 100000 in
set_option maxHeartbeats 1000000 in
theorem all_calls (B : List Int) (hB : B.length = 256) (A : Option Addr) (c : Nat) (ms : List Int) (hms : ∀ x ∈ ms, 0 ≤ x ∧ x < 65536) (hlen : ms.length ≤ 1000000) (w : World) (hr : Kd.C (Kd.int .u16) w A ms.length ms) :
    Calls Try.prog 22 #[.agg (bys B).toArray, .slice A ms.length c] w fun e w' => ∃ v, e = .returned (.tuple #[v, .bool (allS B ms).2]) ∧ Kd.S k25 25 w' w.heap.size (fun _ => True) v (allS B ms).1 ∧ Below w.heap.size w w' := by
  have hs : (Try.prog.info? 38).map (·.size) = some (bys B).length := by rw [size38, bys_len, hB]
  have HS := Lib.hid hs
  have HB := Lib.hid hB
  have HMS := Lib.hid hms
  have HR := Lib.hid hr
  clear hB hs hms hr
  obtain ⟨D, hD⟩ : ∃ D, D = bys B := ⟨_, rfl⟩
  rw [← hD] at HS ⊢
  have HD := Lib.hid hD
  clear hD
  go_enter Try.func22, Try.ntmps22
  have hb : (w.alloc (.cells D.toArray 38)).heap[w.heap.size]? = some (.cells D.toArray 38 (0, 0)) := blk_new rfl
  have Hb := Lib.hid hb
  clear hb
  go_wp2
  go_loopw [6, 14] (fun v i wr => ∃ (k : Nat) (l : List S25), k ≤ ms.length ∧ i = .int .i64 (k : Int) ∧ (ms.take k).foldl (stepA B) (some []) = some l ∧ l.length ≤ k ∧ Kd.S k25 25 wr w.heap.size (fun _ => True) v l ∧ wr.heap[w.heap.size]? = some (.cells D.toArray 38 (0, 0)) ∧ Below w.heap.size w wr) (fun _ i _ => ms.length - (intOf i).toNat)
  case atStart => exact ⟨0, [], by omega, rfl, rfl, by simp, Kd.S_nil _ _ _ _ _, Hb.out, (Below.refl _ _).alloc (Nat.le_refl _) _⟩
  case round =>
    obtain ⟨k, l, hk, rfl, hf, hl, hS, hb38, hBel⟩ := hrel
    obtain ⟨A6, c6, e6⟩ := Kd.S_slice hS
    subst e6
    by_cases hlt : k < ms.length
    · have hCw := Kd.C_below HR.out hBel
      obtain ⟨ad, hA, hcell⟩ := Kd.at_int hCw (k : Int) (by omega) (by omega)
      subst hA
      have hmem : 0 ≤ rd ms (k : Int) ∧ rd ms (k : Int) < 65536 := by
        have : rd ms (k : Int) = ms[k] := by simp [rd, hlt]
        rw [this]
        exact HMS.out _ (List.getElem_mem hlt)
      have hsucc := foldA_succ B ms k hlt
      rw [hf] at hsucc
      have hbad := allO_bad B ms (k + 1)
      obtain ⟨m, hm⟩ : ∃ m : Nat, rd ms (k : Int) = (m : Int) := ⟨_, (Int.toNat_of_nonneg hmem.1).symm⟩
      rw [hm] at hcell hsucc hmem
      have hm2 : m < 65536 := by omega
      rw [Int.toNat_natCast] at hcell
      have HF := Lib.hid hf
      have HSU := Lib.hid hsucc
      have HBAD := Lib.hid hbad
      have HM := Lib.hid hm
      have HSS := Lib.hid hS
      have H38 := Lib.hid hb38
      clear hf hsucc hbad hm hS hCw hmem
      by_cases hm0 : m = 0
      · subst hm0
        go_wp2
        go_roundw
        case rel => exact ⟨k + 1, l, by omega, by go_num, by rw [HSU.out]; rfl, by omega, HSS.out, H38.out, hBel⟩
        case measure => simp [intOf]; omega
      · have t1 : ((m : Int) == 0) = false := beq_eq_false_iff_ne.2 (by omega)
        have hlen2 := addS_len l (m : Int) (sumB B m)
        obtain ⟨⟨r1, r2, r3⟩, hadd⟩ : ∃ r, addS l (m : Int) (sumB B m) = r := ⟨_, rfl⟩
        rw [hadd] at hlen2
        have hst : stepA B (some l) (m : Int) = if r3 = 0 then some r1 else none := by
          unfold stepA
          simp only
          rw [if_neg (by omega), Int.toNat_natCast, hadd]
        have HADD := Lib.hid hadd
        have HST := Lib.hid hst
        have HL2 : r1.length ≤ k + 1 := by simp only at hlen2; omega
        clear hadd hst hlen2
        have hwW := hBel.size
        have hsumc := fun W => lawsum_calls B HB.out m hm2 W
        rw [← HD.out] at hsumc
        have HSUMC := Lib.hid hsumc
        clear hsumc
        by_cases h3 : r3 = 0
        · have t2 : (r3 != 0) = false := by simp [h3]
          have H3 := Lib.hid h3
          clear h3
          go_wp2_with (first
          | (refine wpList_load_row rfl 38 _ rfl w.heap.size rfl 38 D.toArray (0, 0) _ H38.out und38 rfl (by simp only [List.size_toArray]; exact HS.out) ?_)
          | (go_at_call 23; refine (HSUMC.out _).mono ?_; rintro e w1 ⟨g, rfl, hg1, hg2, hb1⟩; have HG1 := Lib.hid hg1; have HG2 := Lib.hid hg2; have HB1 := Lib.hid hb1; clear hg1 hg2 hb1)
          | (go_at_call 12; refine (add_calls' A6 c6 l (m : Int) _ _ _ (sumB B m) _ (Kd.C_below (Kd.S_reads' HSS.out).2.2 HB1.out) (sumTo_len HB.out m 16 (by omega)) (sum_row HB.out HG1.out HG2.out) (by omega)).mono ?_; rw [HADD.out]; rintro e w2 ⟨v, rfl, hS2, hb2⟩; have HS2 := Lib.hid hS2; have HB2 := Lib.hid hb2; clear hS2 hb2))
          go_roundw
          case rel => exact ⟨k + 1, r1, by omega, by go_num, by rw [HSU.out, HST.out, if_pos H3.out], HL2, Kd.S_lower HS2.out (by have := HB1.out.size; omega), (HB2.out.block _ (by have := HB1.out.size; have := (Array.getElem?_eq_some_iff.1 H38.out).1; omega)).trans ((HB1.out.block _ (Array.getElem?_eq_some_iff.1 H38.out).1).trans H38.out), hBel.trans ((HB1.out.trans (HB2.out.mono HB1.out.size)).mono hwW)⟩
          case measure => simp [intOf]; omega
        · have t2 : (r3 != 0) = true := by simp [h3]
          have H3 := Lib.hid h3
          clear h3
          go_wp2_with (first
          | (refine wpList_load_row rfl 38 _ rfl w.heap.size rfl 38 D.toArray (0, 0) _ H38.out und38 rfl (by simp only [List.size_toArray]; exact HS.out) ?_)
          | (go_at_call 23; refine (HSUMC.out _).mono ?_; rintro e w1 ⟨g, rfl, hg1, hg2, hb1⟩; have HG1 := Lib.hid hg1; have HG2 := Lib.hid hg2; have HB1 := Lib.hid hb1; clear hg1 hg2 hb1)
          | (go_at_call 12; refine (add_calls' A6 c6 l (m : Int) _ _ _ (sumB B m) _ (Kd.C_below (Kd.S_reads' HSS.out).2.2 HB1.out) (sumTo_len HB.out m 16 (by omega)) (sum_row HB.out HG1.out HG2.out) (by omega)).mono ?_; rw [HADD.out]; rintro e w2 ⟨v, rfl, hS2, hb2⟩; have HS2 := Lib.hid hS2; have HB2 := Lib.hid hb2; clear hS2 hb2))
          go_ret2
          have hfin : allS B ms = ([], false) := by
            have := HBAD.out (by rw [HSU.out, HST.out, if_neg H3.out])
            unfold allS; rw [this]
          rw [hfin]
          exact ⟨_, rfl, Kd.S_nil _ _ _ _ _, hBel.trans ((HB1.out.trans (HB2.out.mono HB1.out.size)).mono hwW)⟩
    · obtain rfl : k = ms.length := by omega
      rw [List.take_length] at hf
      have hfin : allS B ms = (l, true) := by unfold allS allO; rw [hf]
      have HFIN := Lib.hid hfin
      have HSS := Lib.hid hS
      clear hf hfin hS hb38
      go_wp2
      go_ret2
      rw [HFIN.out]
      exact ⟨_, rfl, HSS.out, hBel⟩
end Go.Proofs.Ytknlbeojdmeljaa.H
namespace Go.Proofs.Ytknlbeojdmeljaa.L
open Go.RowKit Go.Proofs.YtknlbeojdmeljaaW.PrintWords Go.Proofs.YtknlbeojdmeljaaW.PrintLast Go.Proofs.YtknlbeojdmeljaaW.PrintMore Go.Proofs.Ytknlbeojdmeljaa.P Go.Proofs.Ytknlbeojdmeljaa.H
set_option linter.unusedVariables false
set_option linter.unusedSimpArgs false
structure PB (B : List Int) : Prop where
  len : B.length = 256
  rng : ∀ b ∈ B, isB b
theorem xorD_eq (a b : List Int) : ((0 : Nat), xorD a b) = addE (0, a) (0, b) := pair_ext (Nat.xor_self 0).symm rfl
theorem blk_ge {B : List Int} (hB : PB B) {i : Nat} (hi : i < 16) : GE (0, blk B i) :=
  data_ge (blk_len hB.len hi) (fun b hb => hB.rng b (List.mem_of_mem_drop (List.mem_of_mem_take hb)))
theorem sumTo_ge {B : List Int} (hB : PB B) (m : Nat) : ∀ k, k ≤ 16 → GE (0, sumTo B m k)
  | 0, _ => zeroE_ge
  | k + 1, h => by
    have h1 := sumTo_ge hB m k (by omega)
    unfold sumTo
    split
    · rw [xorD_eq]; exact h1.add (blk_ge hB (show k < 16 by omega))
    · exact h1
theorem sumTo_xor {B : List Int} (hB : PB B) (a b : Nat) : ∀ k, k ≤ 16 → ((0 : Nat), sumTo B (a ^^^ b) k) = addE (0, sumTo B a k) (0, sumTo B b k)
  | 0, _ => (addE_zero zeroE_ge).symm
  | k + 1, h => by
    have ih := sumTo_xor hB a b k (by omega)
    have ga := sumTo_ge hB a k (by omega)
    have gb := sumTo_ge hB b k (by omega)
    have gk := blk_ge hB (show k < 16 by omega)
    unfold sumTo
    rw [Nat.testBit_xor]
    cases ha : a.testBit k <;> cases hb : b.testBit k
    · exact ih
    · rw [if_pos (by rfl), if_neg (by simp), if_pos rfl, xorD_eq, ih, xorD_eq, addE_assoc ga gb gk]
    · rw [if_pos (by rfl), if_pos rfl, if_neg (by simp), xorD_eq, ih, xorD_eq, addE_assoc ga gb gk, addE_comm gb gk, ← addE_assoc ga gk gb]
    · rw [if_neg (by simp), if_pos rfl, if_pos rfl, ih, xorD_eq, xorD_eq, addE_four ga gk gb gk, addE_self gk, addE_zero (ga.add gb)]
theorem sumTo_zero (B : List Int) : ∀ k, sumTo B 0 k = z16
  | 0 => rfl
  | k + 1 => by unfold sumTo; rw [if_neg (by simp)]; exact sumTo_zero B k
/-- true equations -/
def TE (B : List Int) (x : Nat × List Int) : Prop := x.1 < 65536 ∧ x.2 = sumB B x.1
theorem TE.ge {B : List Int} (hB : PB B) {x : Nat × List Int} (h : TE B x) : GE x := by
  have := sumTo_ge hB x.1 16 (by omega)
  exact ⟨h.1, by rw [h.2]; exact this.len, by rw [h.2]; exact this.rng⟩
theorem TE.add {B : List Int} (hB : PB B) {x y : Nat × List Int} (hx : TE B x) (hy : TE B y) : TE B (addE x y) := by
  refine ⟨((hx.ge hB).add (hy.ge hB)).m, ?_⟩
  have h := congrArg Prod.snd (sumTo_xor hB x.1 y.1 16 (by omega))
  show xorD x.2 y.2 = sumTo B (x.1 ^^^ y.1) 16
  rw [hx.2, hy.2]
  exact h.symm
theorem TE.mk_ (B : List Int) {m : Nat} (hm : m < 65536) : TE B (m, sumB B m) := ⟨hm, rfl⟩
theorem TE.null {B : List Int} {x : Nat × List Int} (hx : TE B x) (h : x.1 = 0) : x = zeroE := by
  refine pair_ext h ?_
  rw [hx.2, h]
  exact sumTo_zero B 16
/-- rows that are true of the blocks -/
structure TR (B : List Int) (l : List S25) : Prop where
  vp : VP l
  gr : GR l
  tr : ∀ r ∈ l, TE B (rowv r)
theorem TR.nil (B : List Int) : TR B [] := ⟨VP.of_pair (by simp) List.Pairwise.nil, ⟨by simp, by simp⟩, by simp⟩
theorem TR.red {B : List Int} (hB : PB B) {l : List S25} (hg : GR l) (ht : ∀ r ∈ l, TE B (rowv r)) : ∀ {x : Nat × List Int}, TE B x → TE B (redS l x) := by
  induction l with
  | nil => intro x hx; exact hx
  | cons r l ih =>
    intro x hx
    obtain ⟨j, _, hj, _⟩ := hg.lead List.mem_cons_self
    refine ih hg.tail (fun s hs => ht s (List.mem_cons_of_mem _ hs)) (x := stepS x r) ?_
    rw [stepS_eq x r hj]
    split
    · exact hx.add hB (ht r List.mem_cons_self)
    · exact hx
theorem TR.add {B : List Int} (hB : PB B) {l : List S25} (h : TR B l) {m : Nat} (h1 : 1 ≤ m) (h2 : m < 65536) :
    ((redS l (m, sumB B m)).1 = 0 ∧ redS l (m, sumB B m) = zeroE ∧ addS l (m : Int) (sumB B m) = (l, false, 0)) ∨
    ((redS l (m, sumB B m)).1 ≠ 0 ∧ NE l (redS l (m, sumB B m)) ∧ addS l (m : Int) (sumB B m) = (insS (redS l (m, sumB B m)) l, true, 0) ∧ TR B (insS (redS l (m, sumB B m)) l)) := by
  have ht := TR.red hB h.gr h.tr (TE.mk_ B h2)
  have hge := (TE.mk_ B h2).ge hB
  have hv := (validS_iff l).2 h.vp
  have hf : fineB (m : Int) (sumB B m) = true := by
    have : (sumB B m).length = 16 := hge.len
    unfold fineB
    simp [this]
    omega
  have hs : addS l (m : Int) (sumB B m) = if redS l (m, sumB B m) = (0, z16) then (l, false, 0) else if (redS l (m, sumB B m)).1 = 0 then ([], false, 12) else (insS (redS l (m, sumB B m)) l, true, 0) := by
    unfold addS; rw [if_neg (by rw [hv, hf]; simp)]; rfl
  by_cases h0 : (redS l (m, sumB B m)).1 = 0
  · have hz := ht.null h0
    exact .inl ⟨h0, hz, by rw [hs]; exact if_pos hz⟩
  · have hne : NE l (redS l (m, sumB B m)) := ⟨redS_ge h.gr hge, h0, redS_clear h.gr h.vp hge⟩
    obtain ⟨hv2, hg2, _⟩ := insS_ok h.gr h.vp hne
    refine .inr ⟨h0, hne, by rw [hs, if_neg (fun e => h0 (by rw [e])), if_neg h0], hv2, hg2, fun r hr => ?_⟩
    obtain ⟨_, _, h3⟩ := insS_mem h.vp (redS l (m, sumB B m))
    rcases h3 r hr with rfl | ⟨s, hs2, rfl⟩
    · rw [rowE_v]; exact ht
    · rcases mixE_or h.gr hne hs2 with e | e
      · rw [e]; exact (h.tr s hs2).add hB ht
      · rw [e]; exact h.tr s hs2
theorem TR.step {B : List Int} (hB : PB B) {l : List S25} (h : TR B l) {m : Int} (h0 : 0 ≤ m) (h2 : m < 65536) : ∃ l', stepA B (some l) m = some l' ∧ TR B l' := by
  unfold stepA
  by_cases hm : m = 0
  · exact ⟨l, by simp [hm], h⟩
  · obtain ⟨m, rfl⟩ := Int.eq_ofNat_of_zero_le h0
    rcases h.add hB (m := m) (by omega) (by omega) with ⟨_, _, e⟩ | ⟨_, _, e, ht⟩
    · refine ⟨l, ?_, h⟩
      simp only [if_neg hm, Int.toNat_natCast, e]
      rfl
    · refine ⟨_, ?_, ht⟩
      simp only [if_neg hm, Int.toNat_natCast, e]
      rfl
theorem TR.all {B : List Int} (hB : PB B) : ∀ (ms : List Int) {l : List S25}, TR B l → (∀ x ∈ ms, 0 ≤ x ∧ x < 65536) → ∃ l', ms.foldl (stepA B) (some l) = some l' ∧ TR B l'
  | [], l, h, _ => ⟨l, rfl, h⟩
  | m :: ms, l, h, hm => by
    obtain ⟨l1, e1, h1⟩ := h.step hB (m := m) (hm m List.mem_cons_self).1 (hm m List.mem_cons_self).2
    obtain ⟨l2, e2, h2⟩ := TR.all hB ms h1 (fun x hx => hm x (List.mem_cons_of_mem _ hx))
    exact ⟨l2, by rw [List.foldl_cons, e1, e2], h2⟩
theorem allS_true {B : List Int} (hB : PB B) {ms : List Int} (hm : ∀ x ∈ ms, 0 ≤ x ∧ x < 65536) : ∃ l, allO B ms = some l ∧ allS B ms = (l, true) ∧ TR B l := by
  obtain ⟨l, e, h⟩ := TR.all hB ms (TR.nil B) hm
  exact ⟨l, e, by unfold allS allO; rw [e], h⟩
theorem xorD_z {B : List Int} (hB : PB B) {d : List Int} (hd : GE (0, d)) {m : Nat} (hm : m < 65536) (h : xorD d (sumB B m) = z16) : d = sumB B m := by
  have h2 : addE (0, d) (0, sumB B m) = zeroE := pair_ext (Nat.xor_self 0) h
  exact congrArg Prod.snd (addE_eq_zero hd (sumTo_ge hB m 16 (by omega)) h2)
/-- what follows from true rows is true -/
theorem TR.sum {B : List Int} (hB : PB B) {l : List S25} (h : TR B l) (m : Nat) (hm : m < 65536) (hf : (sumS l (m : Int)).2 = true) : (sumS l (m : Int)).1 = sumB B m := by
  have hv := (validS_iff l).2 h.vp
  have hs := sumS_eq hv m hm
  rw [hs] at hf ⊢
  by_cases h0 : (redS l (m, z16)).1 = 0
  · rw [if_neg (fun e => e h0)]
    have ht := TR.red hB h.gr h.tr (TE.mk_ B hm)
    have hge := (TE.mk_ B hm).ge hB
    rw [redS_split h.gr m hm hge.len hge.rng] at ht
    have h1 : (addE (redS l (m, z16)) (0, sumB B m)).1 = 0 := by show (redS l (m, z16)).1 ^^^ 0 = 0; rw [h0]; rfl
    have h2 := congrArg Prod.snd (ht.null h1)
    have hg := redS_ge h.gr (mask_ge m hm)
    exact xorD_z hB ⟨by show (0 : Nat) < 65536; omega, hg.len, hg.rng⟩ hm h2
  · rw [if_pos h0] at hf
    cases hf
theorem TR.solved {B : List Int} (hB : PB B) {l : List S25} (h : TR B l) (k : Nat) (hk : k < 16) (hf : (solvedS l (k : Int)).2 = true) : (solvedS l (k : Int)).1 = sumB B (2 ^ k) := by
  have hv := (validS_iff l).2 h.vp
  have hs : solvedS l (k : Int) = match l.find? (fun x => x.f0.toNat == 2 ^ k) with | some x => (x.f1, true) | none => ([], false) := by
    unfold solvedS; rw [if_neg (by rw [hv]; simp; omega)]; rfl
  rw [hs] at hf ⊢
  cases hfi : l.find? (fun x => x.f0.toNat == 2 ^ k) with
  | none => rw [hfi] at hf; cases hf
  | some x =>
    have h1 := List.mem_of_find?_eq_some hfi
    have h2 := List.find?_some hfi
    have h3 := (h.tr x h1).2
    have h4 : x.f0.toNat = 2 ^ k := by simpa using h2
    rw [show (rowv x).1 = x.f0.toNat from rfl, h4] at h3
    exact h3
end Go.Proofs.Ytknlbeojdmeljaa.L
namespace Go.Proofs.Ytknlbeojdmeljaa.R
open Go.ChangeShapes Go.WideShapes Go.ChangeAt Go.RowKit Go.Proofs.YtknlbeojdmeljaaW.PrintWords Go.Proofs.Ytknlbeojdmeljaa.P
open Go.Proofs.Ytknlbeojdmeljaa.L (isB PB)
open Go.Proofs.Ytknlbeojdmeljaa.H (bys und37 und38)
set_option linter.unusedVariables false
theorem mapM_some {α β : Type} {f : α → Option β} : ∀ {l : List α} {ys : List β}, l.mapM f = some ys → ∀ x ∈ l, ∃ y, f x = some y
  | [], _, _, x, hx => by simp at hx
  | a :: l, ys, h, x, hx => by
    rw [List.mapM_cons] at h
    cases ha : f a with
    | none => simp [ha] at h
    | some b =>
      cases hl : l.mapM f with
      | none => simp [ha, hl] at h
      | some bs =>
        rcases List.mem_cons.1 hx with rfl | hx
        · exact ⟨b, ha⟩
        · exact mapM_some hl x hx
theorem trod_arr {H : Type} {enc : TypeId × Value → H} {W : World} {t e : TypeId} {n fuel : Nat} {cs : List Value} {x : DataW H × List MemPlace} (ht : Try.prog.underlying t = some (.array n e)) (h : DataW.trod enc Try.prog W 0 (fun _ => true) true fuel t cs = some x) :
    cs.length = Try.prog.cellsOf t ∧ ∃ m, ∀ i, i < n → ∃ y, DataW.trod enc Try.prog W 0 (fun _ => true) true m e ((cs.drop (i * Try.prog.cellsOf e)).take (Try.prog.cellsOf e)) = some y := by
  cases fuel with
  | zero => simp [DataW.trod] at h
  | succ m =>
    unfold DataW.trod at h
    rw [ht] at h
    simp only at h
    split at h
    · rename_i hl
      refine ⟨hl, m, fun i hi => ?_⟩
      cases hm : (List.range n).mapM fun i => DataW.trod enc Try.prog W 0 (fun _ => true) true m e ((cs.drop (i * Try.prog.cellsOf e)).take (Try.prog.cellsOf e)) with
      | none => rw [hm] at h; cases h
      | some ys => exact mapM_some hm i (List.mem_range.2 hi)
    · cases h
theorem cell38 : Try.prog.cellsOf 38 = 256 := by kernel_rfl
theorem cell37 : Try.prog.cellsOf 37 = 16 := by kernel_rfl
theorem cell40 : Try.prog.cellsOf 40 = 1 := by kernel_rfl
def num : Value → Int
  | .int _ z => z
  | _ => 0
theorem open_page {H : Type} {enc : TypeId × Value → H} {W : World} {b0 : Nat} {v : Value} {d : DataW H} {p : List MemPlace} (hval : Value.okWide Try.prog W .any b0 38 v) (h : DataW.Trod enc Try.prog W 0 (fun _ => true) true 38 v d p) :
    ∃ B : List Int, v = .agg (bys B).toArray ∧ PB B := by
  simp only [Value.okWide, und38] at hval
  obtain ⟨ca, rfl, hsz, _⟩ := hval
  rw [cell38] at hsz
  obtain ⟨l⟩ := ca
  obtain ⟨fuel, hf⟩ := h
  have hl : l.length = 256 := by simpa using hsz
  obtain ⟨_, m, hm⟩ := trod_arr und38 hf
  have hcell : ∀ k, k < 256 → ∃ z, l[k]? = some (.int .u8 z) ∧ isB z := by
    intro k hk
    obtain ⟨y, hy⟩ := hm (k / 16) (by omega)
    rw [cell37] at hy
    obtain ⟨_, m2, hm2⟩ := trod_arr und37 hy
    obtain ⟨y2, hy2⟩ := hm2 (k % 16) (by omega)
    rw [cell5] at hy2
    simp only [Value.cells, List.drop_take, List.drop_drop, List.take_take] at hy2
    have hk2 : l.drop (k / 16 * 16 + k % 16 * 1) = l[k] :: l.drop (k + 1) := by
      rw [show k / 16 * 16 + k % 16 * 1 = k by omega]
      exact List.drop_eq_getElem_cons (by omega)
    rw [hk2, show min 1 (16 - k % 16 * 1) = 1 by omega] at hy2
    simp only [List.take_succ_cons, List.take_zero] at hy2
    obtain ⟨z, hz, _, hw⟩ := DataW.trod_int Try.underlying5 hy2
    have hz' : l[k] = .int .u8 z := by simpa using hz
    refine ⟨z, by rw [List.getElem?_eq_getElem (by omega), hz'], ?_⟩
    have h3 : (Lit.int .u8 z).wf = true := hw
    simp only [Lit.wf, Bool.and_eq_true, decide_eq_true_eq] at h3
    have e1 : IntKind.u8.min = 0 := rfl
    have e2 : IntKind.u8.max = 255 := rfl
    rw [e1, e2] at h3
    exact ⟨h3.1, by omega⟩
  have heq : bys (l.map num) = l := by
    refine List.ext_getElem (by simp [bys]) (fun k h1 h2 => ?_)
    obtain ⟨z, hz, _⟩ := hcell k (by omega)
    rw [List.getElem?_eq_getElem h2] at hz
    simp only [bys, List.getElem_map]
    rw [Option.some.inj hz]
    rfl
  refine ⟨l.map num, by rw [heq], ⟨by simpa using hl, fun b hb => ?_⟩⟩
  obtain ⟨u, hu, rfl⟩ := List.mem_map.1 hb
  obtain ⟨k, hk, rfl⟩ := List.getElem_of_mem hu
  obtain ⟨z, hz, hb⟩ := hcell k (by omega)
  rw [List.getElem?_eq_getElem hk] at hz
  rw [Option.some.inj hz]
  exact hb
theorem open_u16s {H : Type} {enc : TypeId × Value → H} {W : World} {v : Value} {d : DataW H} {p : List MemPlace} (h : DataW.Trod enc Try.prog W 0 (fun _ => true) true 39 v d p) (hv1 : v.cells.toList = [v]) :
    ∃ (A : Option Addr) (c : Nat) (ds : List Int), v = .slice A ds.length c ∧ ds.length ≤ c ∧ Kd.C (Kd.int .u16) W A ds.length ds ∧ ∀ b ∈ ds, 0 ≤ b ∧ b < 65536 := by
  obtain ⟨n, h⟩ := h
  rcases open_ints Try.underlying39 Try.underlying40 cell40 h with ⟨hcs, _⟩ | ⟨ad, l, c, zs, hcs, _, hl, hm, hz, _, hcell, hwz⟩
  · have : v = .slice none 0 0 := by rw [hv1] at hcs; simpa using hcs
    subst this
    exact ⟨none, 0, [], rfl, Nat.le_refl _, ⟨rfl, by simp, fun h => absurd h (by simp)⟩, by simp⟩
  · have hv : v = .slice (some ad) l c := by rw [hv1] at hcs; simpa using hcs
    subst hv
    have hz' : zs.length = c := by simpa using hz
    have htl : (zs.take l).length = l := by rw [List.length_take]; omega
    refine ⟨some ad, c, zs.take l, by rw [htl], by omega, ⟨rfl, by rw [htl]; have : c ≤ maxLen := hm; unfold maxLen at this; omega, fun _ => ⟨ad, rfl, fun j p hj => ⟨[.int .u16 p], rfl, ?_, fun i u hu => ?_⟩⟩⟩, fun b hb => ?_⟩
    · rfl
    · match i, hu with
      | 0, hu =>
        simp at hu
        subst hu
        rw [List.getElem?_take] at hj
        split at hj
        · rename_i hjl
          have h2 := hcell j (by omega)
          rw [List.getD_eq_getElem?_getD, hj] at h2
          have e : (Kd.int .u16).sz = 1 := rfl
          rw [e, Nat.mul_one]
          exact h2
        · cases hj
    · have := hwz b (List.mem_of_mem_take hb)
      have h3 : (Lit.int .u16 b).wf = true := this
      simp only [Lit.wf, Bool.and_eq_true, decide_eq_true_eq] at h3
      have e1 : IntKind.u16.min = 0 := rfl
      have e2 : IntKind.u16.max = 65535 := rfl
      rw [e1, e2] at h3
      exact ⟨h3.1, by omega⟩
end Go.Proofs.Ytknlbeojdmeljaa.R
namespace Go.Proofs.Ytknlbeojdmeljaa.L
open Go.RowKit Go.Proofs.YtknlbeojdmeljaaW.PrintWords Go.Proofs.YtknlbeojdmeljaaW.PrintLast Go.Proofs.YtknlbeojdmeljaaW.PrintMore Go.Proofs.Ytknlbeojdmeljaa.P Go.Proofs.Ytknlbeojdmeljaa.H
set_option linter.unusedVariables false
set_option linter.unusedSimpArgs false
theorem bytes_yes (A0 : Option Addr) (c0 n0 : Nat) (l0 : List Int) (A1 : Option Addr) (c1 n1 : Nat) (l1 : List Int) {w : World} (e0 : l0.length = n0) (e1 : l0 = l1 ∧ l1.length = n1) (hr0 : Kd.C (Kd.int .u8) w A0 n0 l0) (hc0 : n0 ≤ c0) (hr1 : Kd.C (Kd.int .u8) w A1 n1 l1) (hc1 : n1 ≤ c1) :
    Calls Try.prog 19 #[.slice A0 n0 c0, .slice A1 n1 c1] w fun e w' => e = .returned (.bool true) ∧ Below w.heap.size w w' := by
  have hl := hr0.2.1
  subst e0
  obtain ⟨rfl, e1⟩ := e1
  subst e1
  obtain ⟨K, hK⟩ := refBytes l0 l0 (by omega)
  rw [beq_self_eq_true] at hK
  refine (slotmeshref33_Bytes.calls K A0 c0 l0 A1 c1 l0 true w hr0 hc0 hr1 hc1 (hK K (Nat.le_refl K))).mono ?_
  rintro e w' ⟨rfl, ⟨nd, rfl⟩⟩
  exact ⟨rfl, pw_below_drewN (Below.refl _ _) nd⟩
set_option maxRecDepth 100000 in
set_option maxHeartbeats 4000000 in
theorem truth_calls (B : List Int) (hB : PB B) (A : Option Addr) (c : Nat) (ms : List Int) (hms : ∀ x ∈ ms, 0 ≤ x ∧ x < 65536) (m : Nat) (hm : m < 65536) (i : Nat) (hi : i < 256) (w : World) (hr : Kd.C (Kd.int .u16) w A ms.length ms) (hc : ms.length ≤ c) :
    Calls Try.prog 5 #[.agg (bys B).toArray, .slice A ms.length c, .int .u16 (m : Int), .int .u8 (i : Int)] w fun e w' => e = .returned (.bool true) ∧ Below w.heap.size w w' := by
  have hs : (Try.prog.info? 38).map (·.size) = some (bys B).length := by rw [size38, bys_len, hB.len]
  have HS := Lib.hid hs
  have HB := Lib.hid hB
  have HMS := Lib.hid hms
  have HR := Lib.hid hr
  clear hB hs hms hr
  obtain ⟨D, hD⟩ : ∃ D, D = bys B := ⟨_, rfl⟩
  rw [← hD] at HS ⊢
  have HD := Lib.hid hD
  clear hD
  have hb : (w.alloc (.cells D.toArray 38)).heap[w.heap.size]? = some (.cells D.toArray 38 (0, 0)) := blk_new rfl
  have Hb := Lib.hid hb
  clear hb
  obtain ⟨kk, hkk1, hkk⟩ : ∃ kk : Nat, (i : Int) % 16 = (kk : Int) ∧ kk < 16 := ⟨i % 16, by omega, by omega⟩
  have hsm := fun W => lawsum_calls B HB.out.len m hm W
  have hsk := fun W => lawsum_calls B HB.out.len (2 ^ kk) (by have : 2 ^ kk < 2 ^ 16 := Nat.pow_lt_pow_right (by omega) hkk; omega) W
  rw [← HD.out] at hsm hsk
  have HSM := Lib.hid hsm
  have HSK := Lib.hid hsk
  clear hsm hsk
  have HWM := Lib.hid (show IntKind.i64.wrap (m : Int) = (m : Int) from (by rw [i64_w]; unfold wrap64; omega))
  go_enter Try.func5, Try.ntmps5
  by_cases h40 : ms.length ≤ 40
  · obtain ⟨l, e1, e2, ht⟩ := allS_true HB.out HMS.out
    have hall := fun W h => all_calls B HB.out.len A c ms HMS.out (by omega) W h
    rw [← HD.out, e2] at hall
    have HALL := Lib.hid hall
    have ts := ht.sum HB.out m hm
    have tt := ht.solved HB.out kk hkk
    rw [← hkk1] at tt
    obtain ⟨⟨sd, sf⟩, hsum⟩ : ∃ r, sumS l (m : Int) = r := ⟨_, rfl⟩
    obtain ⟨⟨td, tf⟩, hsol⟩ : ∃ r, solvedS l ((i : Int) % 16) = r := ⟨_, rfl⟩
    rw [hsum] at ts
    rw [hsol] at tt
    have hsd : sf = true → sd = sumB B m ∧ (sumB B m).length = 16 := fun h => ⟨ts h, sumTo_len HB.out.len m 16 (by omega)⟩
    have htd : tf = true → td = sumB B (2 ^ kk) ∧ (sumB B (2 ^ kk)).length = 16 := fun h => ⟨tt h, sumTo_len HB.out.len (2 ^ kk) 16 (by omega)⟩
    have HSUM := Lib.hid hsum
    have HSOL := Lib.hid hsol
    have HSD := Lib.hid hsd
    have HTD := Lib.hid htd
    have HKK := Lib.hid hkk1
    have HT := Lib.hid ht
    clear hall e1 e2 ts tt hsum hsol hsd htd ht hkk1
    go_wp2_with (first
      | (go_at_call 10; refine (head_calls _).mono ?_; rintro e w1 ⟨rfl, hb1⟩; have HB1 := Lib.hid (((Below.refl _ _).alloc (Nat.le_refl _) _).trans (hb1.mono (by simp))); have q38 := (hb1.block _ (Array.getElem?_eq_some_iff.1 Hb.out).1).trans Hb.out; have Q38 := Lib.hid q38; clear hb1 q38)
      | (refine wpList_load_row rfl 38 _ rfl w.heap.size rfl 38 D.toArray (0, 0) _ Q38.out und38 rfl (by simp only [List.size_toArray]; exact HS.out) ?_)
      | (go_at_call 22; refine (HALL.out _ (Kd.C_below HR.out HB1.out)).mono ?_; rintro e w2 ⟨v, rfl, hS2, hb2⟩; obtain ⟨A2, c2, e2⟩ := Kd.S_slice hS2; subst e2; have HS2 := Lib.hid hS2; have HB2 := Lib.hid hb2; clear hS2 hb2)
      | (go_at_call 16; refine (sum_calls A2 c2 l (m : Int) _ (Kd.S_reads' HS2.out).2.2).mono ?_; rw [HSUM.out]; rintro e w3 ⟨v3, rfl, hV3, hb3⟩; obtain ⟨A3, c3, e3⟩ := Kd.V_slice hV3; subst e3; have HV3 := Lib.hid hV3; have HB3 := Lib.hid hb3; clear hV3 hb3)
      | (go_at_call 14; refine (solved_calls A2 c2 l ((i : Int) % 16) _ (Kd.C_below (Kd.S_reads' HS2.out).2.2 HB3.out)).mono ?_; rw [HSOL.out]; rintro e w4 ⟨v4, rfl, hR4, hb4⟩; obtain ⟨A4, c4, e4⟩ := Kd.R_slice hR4; subst e4; have HR4 := Lib.hid hR4; have HB4 := Lib.hid hb4; clear hR4 hb4))
    have HCA3 := Lib.hid (Kd.V_reads' HV3.out).2.1
    have HCA4 := Lib.hid (Kd.R_reads' HR4.out).2.1
    have b24 := (HB2.out.trans (HB3.out.mono HB2.out.size)).trans (HB4.out.mono (Nat.le_trans HB2.out.size HB3.out.size))
    have held : (w4.drew).heap[w.heap.size]? = some (.cells D.toArray 38 (0, 0)) ∧ Kd.C (Kd.int .u8) w4.drew A3 sd.length sd ∧ Kd.C (Kd.int .u8) w4.drew A4 td.length td ∧ Below w.heap.size w w4.drew :=
      ⟨(b24.drew.block _ (Array.getElem?_eq_some_iff.1 Q38.out).1).trans Q38.out, Kd.C_below (Kd.V_reads' HV3.out).2.2 HB4.out.drew, Kd.C_below (Kd.R_reads' HR4.out).2.2 (Below.refl _ _).drew, (HB1.out.trans (b24.mono HB1.out.size)).drew⟩
    have HELD := Lib.hid held
    clear b24 held
    cases sf <;> cases tf
    · refine start_ (n := 26) (S := (fun V => V.heap[w.heap.size]? = some (.cells D.toArray 38 (0, 0)) ∧ Kd.C (Kd.int .u8) V A3 sd.length sd ∧ Kd.C (Kd.int .u8) V A4 td.length td ∧ Below w.heap.size w V)) (ds := []) #[false, false, false, false, false, false, false, false, false, false, false, false, false, false, false, false, false, false, false, false, false, false, false, false, false, false] (by kernel_rfl) rfl rfl HELD.out (fun hHeld => ?_)
      refine pure_ (i := 0) (N := some 46) (v := ?_) (a' := ?_) #[true, false, false, false, false, false, false, false, false, false, false, false, false, false, false, false, false, false, false, false, false, false, false, false, false, false] rfl rfl (by kernel_rfl) (fun _ _ _ h => h) (Or.inl ⟨by rfl, ?_⟩) ?_ ?_
      rotate_left
      · intro w'
        go_simp
        with_reducible rfl
      rotate_left
      · simp only [Act.put, List.setIfInBounds_toArray, List.set_cons_zero, List.set_cons_succ, i64_w, i32_w]
        rfl
      refine pure_ (i := 1) (N := some 47) (v := ?_) (a' := ?_) #[true, true, false, false, false, false, false, false, false, false, false, false, false, false, false, false, false, false, false, false, false, false, false, false, false, false] rfl rfl (by kernel_rfl) (fun _ _ _ h => h) (Or.inl ⟨by rfl, ?_⟩) ?_ ?_
      rotate_left
      · intro w'
        go_simp
        with_reducible rfl
      rotate_left
      · simp only [Act.put, List.setIfInBounds_toArray, List.set_cons_zero, List.set_cons_succ, i64_w, i32_w]
        rfl
      refine pure_ (i := 2) (N := some 48) (v := ?_) (a' := ?_) #[true, true, true, false, false, false, false, false, false, false, false, false, false, false, false, false, false, false, false, false, false, false, false, false, false, false] rfl rfl (by kernel_rfl) (fun _ _ _ h => h) (Or.inl ⟨by rfl, ?_⟩) ?_ ?_
      rotate_left
      · intro w'
        go_simp
        with_reducible rfl
      rotate_left
      · simp only [Act.put, List.setIfInBounds_toArray, List.set_cons_zero, List.set_cons_succ, i64_w, i32_w]
        rfl
      refine pure_ (i := 3) (N := some 49) (v := ?_) (a' := ?_) #[true, true, true, true, false, false, false, false, false, false, false, false, false, false, false, false, false, false, false, false, false, false, false, false, false, false] rfl rfl (by kernel_rfl) (fun _ _ _ h => h) (Or.inl ⟨by rfl, ?_⟩) ?_ ?_
      rotate_left
      · intro w'
        go_simp
        with_reducible rfl
      rotate_left
      · simp only [Act.put, List.setIfInBounds_toArray, List.set_cons_zero, List.set_cons_succ, i64_w, i32_w]
        rfl
      refine pure_ (i := 4) (N := some 50) (v := ?_) (a' := ?_) #[true, true, true, true, true, false, false, false, false, false, false, false, false, false, false, false, false, false, false, false, false, false, false, false, false, false] rfl rfl (by kernel_rfl) (fun _ _ _ h => h) (Or.inl ⟨by rfl, ?_⟩) ?_ ?_
      rotate_left
      · intro w'
        go_simp
        with_reducible rfl
      rotate_left
      · simp only [Act.put, List.setIfInBounds_toArray, List.set_cons_zero, List.set_cons_succ, i64_w, i32_w]
        rfl
      refine pure_ (i := 5) (N := some 51) (v := undef) (a' := ?_) #[true, true, true, true, true, true, false, false, false, false, false, false, false, false, false, false, false, false, false, false, false, false, false, false, false, false] rfl rfl (by kernel_rfl) (fun _ _ _ h => h) (Or.inr ⟨by rfl, rfl⟩) ?_ ?_
      rotate_left
      · simp only [Act.put, List.setIfInBounds_toArray, List.set_cons_zero, List.set_cons_succ, i64_w, i32_w]
        rfl
      refine pure_ (i := 6) (N := some 52) (v := undef) (a' := ?_) #[true, true, true, true, true, true, true, false, false, false, false, false, false, false, false, false, false, false, false, false, false, false, false, false, false, false] rfl rfl (by kernel_rfl) (fun _ _ _ h => h) (Or.inr ⟨by rfl, rfl⟩) ?_ ?_
      rotate_left
      · simp only [Act.put, List.setIfInBounds_toArray, List.set_cons_zero, List.set_cons_succ, i64_w, i32_w]
        rfl
      refine pure_ (i := 7) (N := some 53) (v := undef) (a' := ?_) #[true, true, true, true, true, true, true, true, false, false, false, false, false, false, false, false, false, false, false, false, false, false, false, false, false, false] rfl rfl (by kernel_rfl) (fun _ _ _ h => h) (Or.inr ⟨by rfl, rfl⟩) ?_ ?_
      rotate_left
      · simp only [Act.put, List.setIfInBounds_toArray, List.set_cons_zero, List.set_cons_succ, i64_w, i32_w]
        rfl
      refine pure_ (i := 8) (N := some 54) (v := undef) (a' := ?_) #[true, true, true, true, true, true, true, true, true, false, false, false, false, false, false, false, false, false, false, false, false, false, false, false, false, false] rfl rfl (by kernel_rfl) (fun _ _ _ h => h) (Or.inr ⟨by rfl, rfl⟩) ?_ ?_
      rotate_left
      · simp only [Act.put, List.setIfInBounds_toArray, List.set_cons_zero, List.set_cons_succ, i64_w, i32_w]
        rfl
      refine pure_ (i := 9) (N := some 55) (v := undef) (a' := ?_) #[true, true, true, true, true, true, true, true, true, true, false, false, false, false, false, false, false, false, false, false, false, false, false, false, false, false] rfl rfl (by kernel_rfl) (fun _ _ _ h => h) (Or.inr ⟨by rfl, rfl⟩) ?_ ?_
      rotate_left
      · simp only [Act.put, List.setIfInBounds_toArray, List.set_cons_zero, List.set_cons_succ, i64_w, i32_w]
        rfl
      refine pure_ (i := 10) (N := some 56) (v := undef) (a' := ?_) #[true, true, true, true, true, true, true, true, true, true, true, false, false, false, false, false, false, false, false, false, false, false, false, false, false, false] rfl rfl (by kernel_rfl) (fun _ _ _ h => h) (Or.inr ⟨by rfl, rfl⟩) ?_ ?_
      rotate_left
      · simp only [Act.put, List.setIfInBounds_toArray, List.set_cons_zero, List.set_cons_succ, i64_w, i32_w]
        rfl
      refine pure_ (i := 11) (N := some 57) (v := ?_) (a' := ?_) #[true, true, true, true, true, true, true, true, true, true, true, true, false, false, false, false, false, false, false, false, false, false, false, false, false, false] rfl rfl (by kernel_rfl) (fun _ _ _ h => h) (Or.inl ⟨by rfl, ?_⟩) ?_ ?_
      rotate_left
      · intro w'
        go_simp
        with_reducible rfl
      rotate_left
      · simp only [Act.put, List.setIfInBounds_toArray, List.set_cons_zero, List.set_cons_succ, i64_w, i32_w]
        rfl
      refine pure_ (i := 12) (N := some 58) (v := ?_) (a' := ?_) #[true, true, true, true, true, true, true, true, true, true, true, true, true, false, false, false, false, false, false, false, false, false, false, false, false, false] rfl rfl (by kernel_rfl) (fun _ _ _ h => h) (Or.inl ⟨by rfl, ?_⟩) ?_ ?_
      rotate_left
      · intro w'
        go_simp
        with_reducible rfl
      rotate_left
      · simp only [Act.put, List.setIfInBounds_toArray, List.set_cons_zero, List.set_cons_succ, i64_w, i32_w]
        rfl
      refine pure_ (i := 13) (N := some 59) (v := ?_) (a' := ?_) #[true, true, true, true, true, true, true, true, true, true, true, true, true, true, false, false, false, false, false, false, false, false, false, false, false, false] rfl rfl (by kernel_rfl) (fun _ _ _ h => h) (Or.inl ⟨by rfl, ?_⟩) ?_ ?_
      rotate_left
      · intro w'
        go_simp
        with_reducible rfl
      rotate_left
      · simp only [Act.put, List.setIfInBounds_toArray, List.set_cons_zero, List.set_cons_succ, i64_w, i32_w]
        rfl
      refine pure_ (i := 14) (N := some 60) (v := ?_) (a' := ?_) #[true, true, true, true, true, true, true, true, true, true, true, true, true, true, true, false, false, false, false, false, false, false, false, false, false, false] rfl rfl (by kernel_rfl) (fun _ _ _ h => h) (Or.inl ⟨by rfl, ?_⟩) ?_ ?_
      rotate_left
      · intro w'
        go_simp
        with_reducible rfl
      rotate_left
      · simp only [Act.put, List.setIfInBounds_toArray, List.set_cons_zero, List.set_cons_succ, i64_w, i32_w]
        rfl
      refine pure_ (i := 15) (N := some 61) (v := ?_) (a' := ?_) #[true, true, true, true, true, true, true, true, true, true, true, true, true, true, true, true, false, false, false, false, false, false, false, false, false, false] rfl rfl (by kernel_rfl) (fun _ _ _ h => h) (Or.inl ⟨by rfl, ?_⟩) ?_ ?_
      rotate_left
      · intro w'
        go_simp
        with_reducible rfl
      rotate_left
      · simp only [Act.put, List.setIfInBounds_toArray, List.set_cons_zero, List.set_cons_succ, i64_w, i32_w]
        rfl
      refine pure_ (i := 16) (N := some 62) (v := ?_) (a' := ?_) #[true, true, true, true, true, true, true, true, true, true, true, true, true, true, true, true, true, false, false, false, false, false, false, false, false, false] rfl rfl (by kernel_rfl) (fun _ _ _ h => h) (Or.inl ⟨by rfl, ?_⟩) ?_ ?_
      rotate_left
      · intro w'
        go_simp
        with_reducible rfl
      rotate_left
      · simp only [Act.put, List.setIfInBounds_toArray, List.set_cons_zero, List.set_cons_succ, i64_w, i32_w]
        rfl
      refine pure_ (i := 17) (N := some 63) (v := undef) (a' := ?_) #[true, true, true, true, true, true, true, true, true, true, true, true, true, true, true, true, true, true, false, false, false, false, false, false, false, false] rfl rfl (by kernel_rfl) (fun _ _ _ h => h) (Or.inr ⟨by rfl, rfl⟩) ?_ ?_
      rotate_left
      · simp only [Act.put, List.setIfInBounds_toArray, List.set_cons_zero, List.set_cons_succ, i64_w, i32_w]
        rfl
      refine pure_ (i := 18) (N := some 64) (v := undef) (a' := ?_) #[true, true, true, true, true, true, true, true, true, true, true, true, true, true, true, true, true, true, true, false, false, false, false, false, false, false] rfl rfl (by kernel_rfl) (fun _ _ _ h => h) (Or.inr ⟨by rfl, rfl⟩) ?_ ?_
      rotate_left
      · simp only [Act.put, List.setIfInBounds_toArray, List.set_cons_zero, List.set_cons_succ, i64_w, i32_w]
        rfl
      refine pure_ (i := 19) (N := some 65) (v := undef) (a' := ?_) #[true, true, true, true, true, true, true, true, true, true, true, true, true, true, true, true, true, true, true, true, false, false, false, false, false, false] rfl rfl (by kernel_rfl) (fun _ _ _ h => h) (Or.inr ⟨by rfl, rfl⟩) ?_ ?_
      rotate_left
      · simp only [Act.put, List.setIfInBounds_toArray, List.set_cons_zero, List.set_cons_succ, i64_w, i32_w]
        rfl
      refine pure_ (i := 20) (N := some 66) (v := undef) (a' := ?_) #[true, true, true, true, true, true, true, true, true, true, true, true, true, true, true, true, true, true, true, true, true, false, false, false, false, false] rfl rfl (by kernel_rfl) (fun _ _ _ h => h) (Or.inr ⟨by rfl, rfl⟩) ?_ ?_
      rotate_left
      · simp only [Act.put, List.setIfInBounds_toArray, List.set_cons_zero, List.set_cons_succ, i64_w, i32_w]
        rfl
      refine pure_ (i := 21) (N := some 67) (v := undef) (a' := ?_) #[true, true, true, true, true, true, true, true, true, true, true, true, true, true, true, true, true, true, true, true, true, true, false, false, false, false] rfl rfl (by kernel_rfl) (fun _ _ _ h => h) (Or.inr ⟨by rfl, rfl⟩) ?_ ?_
      rotate_left
      · simp only [Act.put, List.setIfInBounds_toArray, List.set_cons_zero, List.set_cons_succ, i64_w, i32_w]
        rfl
      refine pure_ (i := 22) (N := some 68) (v := undef) (a' := ?_) #[true, true, true, true, true, true, true, true, true, true, true, true, true, true, true, true, true, true, true, true, true, true, true, false, false, false] rfl rfl (by kernel_rfl) (fun _ _ _ h => h) (Or.inr ⟨by rfl, rfl⟩) ?_ ?_
      rotate_left
      · simp only [Act.put, List.setIfInBounds_toArray, List.set_cons_zero, List.set_cons_succ, i64_w, i32_w]
        rfl
      refine pure_ (i := 23) (N := some 69) (v := ?_) (a' := ?_) #[true, true, true, true, true, true, true, true, true, true, true, true, true, true, true, true, true, true, true, true, true, true, true, true, false, false] rfl rfl (by kernel_rfl) (fun _ _ _ h => h) (Or.inl ⟨by rfl, ?_⟩) ?_ ?_
      rotate_left
      · intro w'
        go_simp
        with_reducible rfl
      rotate_left
      · simp only [Act.put, List.setIfInBounds_toArray, List.set_cons_zero, List.set_cons_succ, i64_w, i32_w]
        rfl
      refine pure_ (i := 24) (N := some 70) (v := ?_) (a' := ?_) #[true, true, true, true, true, true, true, true, true, true, true, true, true, true, true, true, true, true, true, true, true, true, true, true, true, false] rfl rfl (by kernel_rfl) (fun _ _ _ h => h) (Or.inl ⟨by rfl, ?_⟩) ?_ ?_
      rotate_left
      · intro w'
        go_simp
        with_reducible rfl
      rotate_left
      · simp only [Act.put, List.setIfInBounds_toArray, List.set_cons_zero, List.set_cons_succ, i64_w, i32_w]
        rfl
      refine pure_ (i := 25) (N := some 8) (v := ?_) (a' := ?_) #[true, true, true, true, true, true, true, true, true, true, true, true, true, true, true, true, true, true, true, true, true, true, true, true, true, true] rfl rfl (by kernel_rfl) (fun _ _ _ h => h) (Or.inl ⟨by rfl, ?_⟩) ?_ ?_
      rotate_left
      · intro w'
        go_simp
        with_reducible rfl
      rotate_left
      · simp only [Act.put, List.setIfInBounds_toArray, List.set_cons_zero, List.set_cons_succ, i64_w, i32_w]
        rfl
      refine done_ (by kernel_rfl) ?_
      go_wp2
      go_ret
      exact ⟨rfl, hHeld.2.2.2⟩
    · refine start_ (n := 26) (S := (fun V => V.heap[w.heap.size]? = some (.cells D.toArray 38 (0, 0)) ∧ Kd.C (Kd.int .u8) V A3 sd.length sd ∧ Kd.C (Kd.int .u8) V A4 td.length td ∧ Below w.heap.size w V)) (ds := []) #[false, false, false, false, false, false, false, false, false, false, false, false, false, false, false, false, false, false, false, false, false, false, false, false, false, false] (by kernel_rfl) rfl rfl HELD.out (fun hHeld => ?_)
      refine pure_ (i := 0) (N := some 46) (v := ?_) (a' := ?_) #[true, false, false, false, false, false, false, false, false, false, false, false, false, false, false, false, false, false, false, false, false, false, false, false, false, false] rfl rfl (by kernel_rfl) (fun _ _ _ h => h) (Or.inl ⟨by rfl, ?_⟩) ?_ ?_
      rotate_left
      · intro w'
        go_simp
        with_reducible rfl
      rotate_left
      · simp only [Act.put, List.setIfInBounds_toArray, List.set_cons_zero, List.set_cons_succ, i64_w, i32_w]
        rfl
      refine pure_ (i := 1) (N := some 47) (v := ?_) (a' := ?_) #[true, true, false, false, false, false, false, false, false, false, false, false, false, false, false, false, false, false, false, false, false, false, false, false, false, false] rfl rfl (by kernel_rfl) (fun _ _ _ h => h) (Or.inl ⟨by rfl, ?_⟩) ?_ ?_
      rotate_left
      · intro w'
        go_simp
        with_reducible rfl
      rotate_left
      · simp only [Act.put, List.setIfInBounds_toArray, List.set_cons_zero, List.set_cons_succ, i64_w, i32_w]
        rfl
      refine pure_ (i := 2) (N := some 48) (v := ?_) (a' := ?_) #[true, true, true, false, false, false, false, false, false, false, false, false, false, false, false, false, false, false, false, false, false, false, false, false, false, false] rfl rfl (by kernel_rfl) (fun _ _ _ h => h) (Or.inl ⟨by rfl, ?_⟩) ?_ ?_
      rotate_left
      · intro w'
        go_simp
        with_reducible rfl
      rotate_left
      · simp only [Act.put, List.setIfInBounds_toArray, List.set_cons_zero, List.set_cons_succ, i64_w, i32_w]
        rfl
      refine pure_ (i := 3) (N := some 49) (v := ?_) (a' := ?_) #[true, true, true, true, false, false, false, false, false, false, false, false, false, false, false, false, false, false, false, false, false, false, false, false, false, false] rfl rfl (by kernel_rfl) (fun _ _ _ h => h) (Or.inl ⟨by rfl, ?_⟩) ?_ ?_
      rotate_left
      · intro w'
        go_simp
        with_reducible rfl
      rotate_left
      · simp only [Act.put, List.setIfInBounds_toArray, List.set_cons_zero, List.set_cons_succ, i64_w, i32_w]
        rfl
      refine pure_ (i := 4) (N := some 50) (v := ?_) (a' := ?_) #[true, true, true, true, true, false, false, false, false, false, false, false, false, false, false, false, false, false, false, false, false, false, false, false, false, false] rfl rfl (by kernel_rfl) (fun _ _ _ h => h) (Or.inl ⟨by rfl, ?_⟩) ?_ ?_
      rotate_left
      · intro w'
        go_simp
        with_reducible rfl
      rotate_left
      · simp only [Act.put, List.setIfInBounds_toArray, List.set_cons_zero, List.set_cons_succ, i64_w, i32_w]
        rfl
      refine pure_ (i := 5) (N := some 51) (v := undef) (a' := ?_) #[true, true, true, true, true, true, false, false, false, false, false, false, false, false, false, false, false, false, false, false, false, false, false, false, false, false] rfl rfl (by kernel_rfl) (fun _ _ _ h => h) (Or.inr ⟨by rfl, rfl⟩) ?_ ?_
      rotate_left
      · simp only [Act.put, List.setIfInBounds_toArray, List.set_cons_zero, List.set_cons_succ, i64_w, i32_w]
        rfl
      refine pure_ (i := 6) (N := some 52) (v := undef) (a' := ?_) #[true, true, true, true, true, true, true, false, false, false, false, false, false, false, false, false, false, false, false, false, false, false, false, false, false, false] rfl rfl (by kernel_rfl) (fun _ _ _ h => h) (Or.inr ⟨by rfl, rfl⟩) ?_ ?_
      rotate_left
      · simp only [Act.put, List.setIfInBounds_toArray, List.set_cons_zero, List.set_cons_succ, i64_w, i32_w]
        rfl
      refine pure_ (i := 7) (N := some 53) (v := undef) (a' := ?_) #[true, true, true, true, true, true, true, true, false, false, false, false, false, false, false, false, false, false, false, false, false, false, false, false, false, false] rfl rfl (by kernel_rfl) (fun _ _ _ h => h) (Or.inr ⟨by rfl, rfl⟩) ?_ ?_
      rotate_left
      · simp only [Act.put, List.setIfInBounds_toArray, List.set_cons_zero, List.set_cons_succ, i64_w, i32_w]
        rfl
      refine pure_ (i := 8) (N := some 54) (v := undef) (a' := ?_) #[true, true, true, true, true, true, true, true, true, false, false, false, false, false, false, false, false, false, false, false, false, false, false, false, false, false] rfl rfl (by kernel_rfl) (fun _ _ _ h => h) (Or.inr ⟨by rfl, rfl⟩) ?_ ?_
      rotate_left
      · simp only [Act.put, List.setIfInBounds_toArray, List.set_cons_zero, List.set_cons_succ, i64_w, i32_w]
        rfl
      refine pure_ (i := 9) (N := some 55) (v := undef) (a' := ?_) #[true, true, true, true, true, true, true, true, true, true, false, false, false, false, false, false, false, false, false, false, false, false, false, false, false, false] rfl rfl (by kernel_rfl) (fun _ _ _ h => h) (Or.inr ⟨by rfl, rfl⟩) ?_ ?_
      rotate_left
      · simp only [Act.put, List.setIfInBounds_toArray, List.set_cons_zero, List.set_cons_succ, i64_w, i32_w]
        rfl
      refine pure_ (i := 10) (N := some 56) (v := undef) (a' := ?_) #[true, true, true, true, true, true, true, true, true, true, true, false, false, false, false, false, false, false, false, false, false, false, false, false, false, false] rfl rfl (by kernel_rfl) (fun _ _ _ h => h) (Or.inr ⟨by rfl, rfl⟩) ?_ ?_
      rotate_left
      · simp only [Act.put, List.setIfInBounds_toArray, List.set_cons_zero, List.set_cons_succ, i64_w, i32_w]
        rfl
      refine pure_ (i := 11) (N := some 57) (v := ?_) (a' := ?_) #[true, true, true, true, true, true, true, true, true, true, true, true, false, false, false, false, false, false, false, false, false, false, false, false, false, false] rfl rfl (by kernel_rfl) (fun _ _ _ h => h) (Or.inl ⟨by rfl, ?_⟩) ?_ ?_
      rotate_left
      · intro w'
        go_simp
        with_reducible rfl
      rotate_left
      · simp only [Act.put, List.setIfInBounds_toArray, List.set_cons_zero, List.set_cons_succ, i64_w, i32_w]
        rfl
      refine pure_ (i := 12) (N := some 58) (v := ?_) (a' := ?_) #[true, true, true, true, true, true, true, true, true, true, true, true, true, false, false, false, false, false, false, false, false, false, false, false, false, false] rfl rfl (by kernel_rfl) (fun _ _ _ h => h) (Or.inl ⟨by rfl, ?_⟩) ?_ ?_
      rotate_left
      · intro w'
        go_simp
        with_reducible rfl
      rotate_left
      · simp only [Act.put, List.setIfInBounds_toArray, List.set_cons_zero, List.set_cons_succ, i64_w, i32_w]
        rfl
      refine pure_ (i := 13) (N := some 59) (v := ?_) (a' := ?_) #[true, true, true, true, true, true, true, true, true, true, true, true, true, true, false, false, false, false, false, false, false, false, false, false, false, false] rfl rfl (by kernel_rfl) (fun _ _ _ h => h) (Or.inl ⟨by rfl, ?_⟩) ?_ ?_
      rotate_left
      · intro w'
        go_simp
        with_reducible rfl
      rotate_left
      · simp only [Act.put, List.setIfInBounds_toArray, List.set_cons_zero, List.set_cons_succ, i64_w, i32_w]
        rfl
      refine pure_ (i := 14) (N := some 60) (v := ?_) (a' := ?_) #[true, true, true, true, true, true, true, true, true, true, true, true, true, true, true, false, false, false, false, false, false, false, false, false, false, false] rfl rfl (by kernel_rfl) (fun _ _ _ h => h) (Or.inl ⟨by rfl, ?_⟩) ?_ ?_
      rotate_left
      · intro w'
        go_simp
        with_reducible rfl
      rotate_left
      · simp only [Act.put, List.setIfInBounds_toArray, List.set_cons_zero, List.set_cons_succ, i64_w, i32_w]
        rfl
      refine pure_ (i := 15) (N := some 61) (v := ?_) (a' := ?_) #[true, true, true, true, true, true, true, true, true, true, true, true, true, true, true, true, false, false, false, false, false, false, false, false, false, false] rfl rfl (by kernel_rfl) (fun _ _ _ h => h) (Or.inl ⟨by rfl, ?_⟩) ?_ ?_
      rotate_left
      · intro w'
        go_simp
        with_reducible rfl
      rotate_left
      · simp only [Act.put, List.setIfInBounds_toArray, List.set_cons_zero, List.set_cons_succ, i64_w, i32_w]
        rfl
      refine pure_ (i := 16) (N := some 62) (v := ?_) (a' := ?_) #[true, true, true, true, true, true, true, true, true, true, true, true, true, true, true, true, true, false, false, false, false, false, false, false, false, false] rfl rfl (by kernel_rfl) (fun _ _ _ h => h) (Or.inl ⟨by rfl, ?_⟩) ?_ ?_
      rotate_left
      · intro w'
        go_simp
        with_reducible rfl
      rotate_left
      · simp only [Act.put, List.setIfInBounds_toArray, List.set_cons_zero, List.set_cons_succ, i64_w, i32_w]
        rfl
      refine pure_ (i := 17) (N := some 63) (v := ?_) (a' := ?_) #[true, true, true, true, true, true, true, true, true, true, true, true, true, true, true, true, true, true, false, false, false, false, false, false, false, false] rfl rfl (by kernel_rfl) (fun _ _ _ h => h) (Or.inl ⟨by rfl, ?_⟩) ?_ ?_
      rotate_left
      · intro w'
        go_simp
        with_reducible rfl
      rotate_left
      · simp only [Act.put, List.setIfInBounds_toArray, List.set_cons_zero, List.set_cons_succ, i64_w, i32_w]
        rfl
      refine pure_ (i := 19) (N := some 65) (v := ?_) (a' := ?_) #[true, true, true, true, true, true, true, true, true, true, true, true, true, true, true, true, true, true, false, true, false, false, false, false, false, false] rfl rfl (by kernel_rfl) (fun _ _ _ h => h) (Or.inl ⟨by rfl, ?_⟩) ?_ ?_
      rotate_left
      · intro w'
        go_simp
        with_reducible rfl
      rotate_left
      · simp only [Act.put, List.setIfInBounds_toArray, List.set_cons_zero, List.set_cons_succ, i64_w, i32_w]
        rfl
      refine pure_ (i := 20) (N := some 66) (v := .int .i64 ((2 ^ kk : Nat) : Int)) (a' := ?_) #[true, true, true, true, true, true, true, true, true, true, true, true, true, true, true, true, true, true, false, true, true, false, false, false, false, false] rfl rfl (by kernel_rfl) (fun _ _ _ h => h) (Or.inl ⟨by rfl, ?_⟩) ?_ ?_
      · intro w'
        exact exec_shl rfl rfl rfl (run_shl _ kk HKK.out hkk w')
      rotate_left
      · simp only [Act.put, List.setIfInBounds_toArray, List.set_cons_zero, List.set_cons_succ, i64_w, i32_w]
        rfl
      refine take_ (i := 18) (N := some 64) (v := _) (a' := ?_) #[true, true, true, true, true, true, true, true, true, true, true, true, true, true, true, true, true, true, true, true, true, false, false, false, false, false] rfl rfl (by kernel_rfl) (fun _ _ _ h => h) (row_if (by rfl) 38 _ rfl w.heap.size rfl D 38 _ (fun _ hS => hS.1) und38 rfl HS.out) hHeld ?_ ?_
      rotate_left
      · simp only [Act.put, List.setIfInBounds_toArray, List.set_cons_zero, List.set_cons_succ, i64_w, i32_w]
        rfl
      refine one_ (i := 21) (N := some 67) #[true, true, true, true, true, true, true, true, true, true, true, true, true, true, true, true, true, true, true, true, true, true, false, false, false, false] rfl rfl (by kernel_rfl) (by decide) (fun K hK => ?_)
      refine goes_ Try.func23 (by kernel_rfl) rfl #[.agg D.toArray, .int .i64 ((2 ^ kk : Nat) : Int)] (by rfl) rfl rfl (by simp only [List.map_toArray, List.map_cons, List.map_nil]; rfl) ?_
      refine (HSK.out _).mono ?_
      rintro e u3 ⟨g2, rfl, hg1, hg2, hb⟩
      refine ⟨_, rfl, ?_⟩
      obtain ⟨s0, s1, s2, s3⟩ := hHeld
      have HG2 := Lib.hid (sum_row HB.out.len hg1 hg2)
      refine hK.out _ _ ⟨(hb.block _ (Array.getElem?_eq_some_iff.1 s0).1).trans s0, Kd.C_below s1 hb, Kd.C_below s2 hb, s3.trans (hb.mono s3.size)⟩ (fun hHeld => ?_)
      clear hK K s0 s1 s2 s3 hb hg1 hg2
      refine norm_ (a' := ?_) ?_ ?_
      rotate_left
      · show Act.put _ (some 67) _ = _
        simp only [Act.put, List.setIfInBounds_toArray, List.set_cons_zero, List.set_cons_succ, i64_w, i32_w]
        rfl
      refine one_ (i := 22) (N := some 68) #[true, true, true, true, true, true, true, true, true, true, true, true, true, true, true, true, true, true, true, true, true, true, true, false, false, false] rfl rfl (by kernel_rfl) (by decide) (fun K hK => ?_)
      refine goes_ Try.func19 (by kernel_rfl) rfl #[.slice A4 td.length c4, .slice (some ⟨g2, 0, none⟩) 16 16] (by rfl) rfl rfl (by simp only [List.map_toArray, List.map_cons, List.map_nil]; rfl) ?_
      obtain ⟨s0, s1, s2, s3⟩ := hHeld
      refine (bytes_yes A4 c4 _ td _ 16 16 _ rfl (HTD.out rfl) s2 HCA4.out HG2.out (by omega)).mono ?_
      rintro e u4 ⟨rfl, hb⟩
      refine ⟨_, rfl, ?_⟩
      refine hK.out _ _ ⟨(hb.block _ (Array.getElem?_eq_some_iff.1 s0).1).trans s0, Kd.C_below s1 hb, Kd.C_below s2 hb, s3.trans (hb.mono s3.size)⟩ (fun hHeld => ?_)
      clear hK K s0 s1 s2 s3 hb
      refine norm_ (a' := ?_) ?_ ?_
      rotate_left
      · show Act.put _ (some 68) _ = _
        simp only [Act.put, List.setIfInBounds_toArray, List.set_cons_zero, List.set_cons_succ, i64_w, i32_w]
        rfl
      refine pure_ (i := 23) (N := some 69) (v := ?_) (a' := ?_) #[true, true, true, true, true, true, true, true, true, true, true, true, true, true, true, true, true, true, true, true, true, true, true, true, false, false] rfl rfl (by kernel_rfl) (fun _ _ _ h => h) (Or.inl ⟨by rfl, ?_⟩) ?_ ?_
      rotate_left
      · intro w'
        go_simp
        with_reducible rfl
      rotate_left
      · simp only [Act.put, List.setIfInBounds_toArray, List.set_cons_zero, List.set_cons_succ, i64_w, i32_w]
        rfl
      refine pure_ (i := 24) (N := some 70) (v := ?_) (a' := ?_) #[true, true, true, true, true, true, true, true, true, true, true, true, true, true, true, true, true, true, true, true, true, true, true, true, true, false] rfl rfl (by kernel_rfl) (fun _ _ _ h => h) (Or.inl ⟨by rfl, ?_⟩) ?_ ?_
      rotate_left
      · intro w'
        go_simp
        with_reducible rfl
      rotate_left
      · simp only [Act.put, List.setIfInBounds_toArray, List.set_cons_zero, List.set_cons_succ, i64_w, i32_w]
        rfl
      refine pure_ (i := 25) (N := some 8) (v := ?_) (a' := ?_) #[true, true, true, true, true, true, true, true, true, true, true, true, true, true, true, true, true, true, true, true, true, true, true, true, true, true] rfl rfl (by kernel_rfl) (fun _ _ _ h => h) (Or.inl ⟨by rfl, ?_⟩) ?_ ?_
      rotate_left
      · intro w'
        go_simp
        with_reducible rfl
      rotate_left
      · simp only [Act.put, List.setIfInBounds_toArray, List.set_cons_zero, List.set_cons_succ, i64_w, i32_w]
        rfl
      refine done_ (by kernel_rfl) ?_
      go_wp2
      go_ret
      exact ⟨rfl, hHeld.2.2.2⟩
    · refine start_ (n := 26) (S := (fun V => V.heap[w.heap.size]? = some (.cells D.toArray 38 (0, 0)) ∧ Kd.C (Kd.int .u8) V A3 sd.length sd ∧ Kd.C (Kd.int .u8) V A4 td.length td ∧ Below w.heap.size w V)) (ds := []) #[false, false, false, false, false, false, false, false, false, false, false, false, false, false, false, false, false, false, false, false, false, false, false, false, false, false] (by kernel_rfl) rfl rfl HELD.out (fun hHeld => ?_)
      refine pure_ (i := 0) (N := some 46) (v := ?_) (a' := ?_) #[true, false, false, false, false, false, false, false, false, false, false, false, false, false, false, false, false, false, false, false, false, false, false, false, false, false] rfl rfl (by kernel_rfl) (fun _ _ _ h => h) (Or.inl ⟨by rfl, ?_⟩) ?_ ?_
      rotate_left
      · intro w'
        go_simp
        with_reducible rfl
      rotate_left
      · simp only [Act.put, List.setIfInBounds_toArray, List.set_cons_zero, List.set_cons_succ, i64_w, i32_w]
        rfl
      refine pure_ (i := 1) (N := some 47) (v := ?_) (a' := ?_) #[true, true, false, false, false, false, false, false, false, false, false, false, false, false, false, false, false, false, false, false, false, false, false, false, false, false] rfl rfl (by kernel_rfl) (fun _ _ _ h => h) (Or.inl ⟨by rfl, ?_⟩) ?_ ?_
      rotate_left
      · intro w'
        go_simp
        with_reducible rfl
      rotate_left
      · simp only [Act.put, List.setIfInBounds_toArray, List.set_cons_zero, List.set_cons_succ, i64_w, i32_w]
        rfl
      refine pure_ (i := 2) (N := some 48) (v := ?_) (a' := ?_) #[true, true, true, false, false, false, false, false, false, false, false, false, false, false, false, false, false, false, false, false, false, false, false, false, false, false] rfl rfl (by kernel_rfl) (fun _ _ _ h => h) (Or.inl ⟨by rfl, ?_⟩) ?_ ?_
      rotate_left
      · intro w'
        go_simp
        with_reducible rfl
      rotate_left
      · simp only [Act.put, List.setIfInBounds_toArray, List.set_cons_zero, List.set_cons_succ, i64_w, i32_w]
        rfl
      refine pure_ (i := 3) (N := some 49) (v := ?_) (a' := ?_) #[true, true, true, true, false, false, false, false, false, false, false, false, false, false, false, false, false, false, false, false, false, false, false, false, false, false] rfl rfl (by kernel_rfl) (fun _ _ _ h => h) (Or.inl ⟨by rfl, ?_⟩) ?_ ?_
      rotate_left
      · intro w'
        go_simp
        with_reducible rfl
      rotate_left
      · simp only [Act.put, List.setIfInBounds_toArray, List.set_cons_zero, List.set_cons_succ, i64_w, i32_w]
        rfl
      refine pure_ (i := 4) (N := some 50) (v := ?_) (a' := ?_) #[true, true, true, true, true, false, false, false, false, false, false, false, false, false, false, false, false, false, false, false, false, false, false, false, false, false] rfl rfl (by kernel_rfl) (fun _ _ _ h => h) (Or.inl ⟨by rfl, ?_⟩) ?_ ?_
      rotate_left
      · intro w'
        go_simp
        with_reducible rfl
      rotate_left
      · simp only [Act.put, List.setIfInBounds_toArray, List.set_cons_zero, List.set_cons_succ, i64_w, i32_w]
        rfl
      refine pure_ (i := 5) (N := some 51) (v := ?_) (a' := ?_) #[true, true, true, true, true, true, false, false, false, false, false, false, false, false, false, false, false, false, false, false, false, false, false, false, false, false] rfl rfl (by kernel_rfl) (fun _ _ _ h => h) (Or.inl ⟨by rfl, ?_⟩) ?_ ?_
      rotate_left
      · intro w'
        go_simp
        with_reducible rfl
      rotate_left
      · simp only [Act.put, List.setIfInBounds_toArray, List.set_cons_zero, List.set_cons_succ, i64_w, i32_w]
        rfl
      refine pure_ (i := 7) (N := some 53) (v := ?_) (a' := ?_) #[true, true, true, true, true, true, false, true, false, false, false, false, false, false, false, false, false, false, false, false, false, false, false, false, false, false] rfl rfl (by kernel_rfl) (fun _ _ _ h => h) (Or.inl ⟨by rfl, ?_⟩) ?_ ?_
      rotate_left
      · intro w'
        go_simp
        with_reducible rfl
      rotate_left
      · simp only [Act.put, List.setIfInBounds_toArray, List.set_cons_zero, List.set_cons_succ, i64_w, i32_w]
        rfl
      refine pure_ (i := 8) (N := some 54) (v := .int .i64 (m : Int)) (a' := ?_) #[true, true, true, true, true, true, false, true, true, false, false, false, false, false, false, false, false, false, false, false, false, false, false, false, false, false] rfl rfl (by kernel_rfl) (fun _ _ _ h => h) (Or.inl ⟨by rfl, ?_⟩) ?_ ?_
      · intro w'
        have hwm := HWM.out
        have hwm2 : wrap64 (m : Int) = (m : Int) := by have h_ := HWM.out; rwa [i64_w] at h_
        go_simp
        try rfl
      rotate_left
      · simp only [Act.put, List.setIfInBounds_toArray, List.set_cons_zero, List.set_cons_succ, i64_w, i32_w]
        rfl
      refine take_ (i := 6) (N := some 52) (v := _) (a' := ?_) #[true, true, true, true, true, true, true, true, true, false, false, false, false, false, false, false, false, false, false, false, false, false, false, false, false, false] rfl rfl (by kernel_rfl) (fun _ _ _ h => h) (row_if (by rfl) 38 _ rfl w.heap.size rfl D 38 _ (fun _ hS => hS.1) und38 rfl HS.out) hHeld ?_ ?_
      rotate_left
      · simp only [Act.put, List.setIfInBounds_toArray, List.set_cons_zero, List.set_cons_succ, i64_w, i32_w]
        rfl
      refine one_ (i := 9) (N := some 55) #[true, true, true, true, true, true, true, true, true, true, false, false, false, false, false, false, false, false, false, false, false, false, false, false, false, false] rfl rfl (by kernel_rfl) (by decide) (fun K hK => ?_)
      refine goes_ Try.func23 (by kernel_rfl) rfl #[.agg D.toArray, .int .i64 (m : Int)] (by rfl) rfl rfl (by simp only [List.map_toArray, List.map_cons, List.map_nil]; rfl) ?_
      refine (HSM.out _).mono ?_
      rintro e u1 ⟨g1, rfl, hg1, hg2, hb⟩
      refine ⟨_, rfl, ?_⟩
      obtain ⟨s0, s1, s2, s3⟩ := hHeld
      have HG1 := Lib.hid (sum_row HB.out.len hg1 hg2)
      refine hK.out _ _ ⟨(hb.block _ (Array.getElem?_eq_some_iff.1 s0).1).trans s0, Kd.C_below s1 hb, Kd.C_below s2 hb, s3.trans (hb.mono s3.size)⟩ (fun hHeld => ?_)
      clear hK K s0 s1 s2 s3 hb hg1 hg2
      refine norm_ (a' := ?_) ?_ ?_
      rotate_left
      · show Act.put _ (some 55) _ = _
        simp only [Act.put, List.setIfInBounds_toArray, List.set_cons_zero, List.set_cons_succ, i64_w, i32_w]
        rfl
      refine one_ (i := 10) (N := some 56) #[true, true, true, true, true, true, true, true, true, true, true, false, false, false, false, false, false, false, false, false, false, false, false, false, false, false] rfl rfl (by kernel_rfl) (by decide) (fun K hK => ?_)
      refine goes_ Try.func19 (by kernel_rfl) rfl #[.slice A3 sd.length c3, .slice (some ⟨g1, 0, none⟩) 16 16] (by rfl) rfl rfl (by simp only [List.map_toArray, List.map_cons, List.map_nil]; rfl) ?_
      obtain ⟨s0, s1, s2, s3⟩ := hHeld
      refine (bytes_yes A3 c3 _ sd _ 16 16 _ rfl (HSD.out rfl) s1 HCA3.out HG1.out (by omega)).mono ?_
      rintro e u2 ⟨rfl, hb⟩
      refine ⟨_, rfl, ?_⟩
      refine hK.out _ _ ⟨(hb.block _ (Array.getElem?_eq_some_iff.1 s0).1).trans s0, Kd.C_below s1 hb, Kd.C_below s2 hb, s3.trans (hb.mono s3.size)⟩ (fun hHeld => ?_)
      clear hK K s0 s1 s2 s3 hb
      refine norm_ (a' := ?_) ?_ ?_
      rotate_left
      · show Act.put _ (some 56) _ = _
        simp only [Act.put, List.setIfInBounds_toArray, List.set_cons_zero, List.set_cons_succ, i64_w, i32_w]
        rfl
      refine pure_ (i := 11) (N := some 57) (v := ?_) (a' := ?_) #[true, true, true, true, true, true, true, true, true, true, true, true, false, false, false, false, false, false, false, false, false, false, false, false, false, false] rfl rfl (by kernel_rfl) (fun _ _ _ h => h) (Or.inl ⟨by rfl, ?_⟩) ?_ ?_
      rotate_left
      · intro w'
        go_simp
        with_reducible rfl
      rotate_left
      · simp only [Act.put, List.setIfInBounds_toArray, List.set_cons_zero, List.set_cons_succ, i64_w, i32_w]
        rfl
      refine pure_ (i := 12) (N := some 58) (v := ?_) (a' := ?_) #[true, true, true, true, true, true, true, true, true, true, true, true, true, false, false, false, false, false, false, false, false, false, false, false, false, false] rfl rfl (by kernel_rfl) (fun _ _ _ h => h) (Or.inl ⟨by rfl, ?_⟩) ?_ ?_
      rotate_left
      · intro w'
        go_simp
        with_reducible rfl
      rotate_left
      · simp only [Act.put, List.setIfInBounds_toArray, List.set_cons_zero, List.set_cons_succ, i64_w, i32_w]
        rfl
      refine pure_ (i := 13) (N := some 59) (v := ?_) (a' := ?_) #[true, true, true, true, true, true, true, true, true, true, true, true, true, true, false, false, false, false, false, false, false, false, false, false, false, false] rfl rfl (by kernel_rfl) (fun _ _ _ h => h) (Or.inl ⟨by rfl, ?_⟩) ?_ ?_
      rotate_left
      · intro w'
        go_simp
        with_reducible rfl
      rotate_left
      · simp only [Act.put, List.setIfInBounds_toArray, List.set_cons_zero, List.set_cons_succ, i64_w, i32_w]
        rfl
      refine pure_ (i := 14) (N := some 60) (v := ?_) (a' := ?_) #[true, true, true, true, true, true, true, true, true, true, true, true, true, true, true, false, false, false, false, false, false, false, false, false, false, false] rfl rfl (by kernel_rfl) (fun _ _ _ h => h) (Or.inl ⟨by rfl, ?_⟩) ?_ ?_
      rotate_left
      · intro w'
        go_simp
        with_reducible rfl
      rotate_left
      · simp only [Act.put, List.setIfInBounds_toArray, List.set_cons_zero, List.set_cons_succ, i64_w, i32_w]
        rfl
      refine pure_ (i := 15) (N := some 61) (v := ?_) (a' := ?_) #[true, true, true, true, true, true, true, true, true, true, true, true, true, true, true, true, false, false, false, false, false, false, false, false, false, false] rfl rfl (by kernel_rfl) (fun _ _ _ h => h) (Or.inl ⟨by rfl, ?_⟩) ?_ ?_
      rotate_left
      · intro w'
        go_simp
        with_reducible rfl
      rotate_left
      · simp only [Act.put, List.setIfInBounds_toArray, List.set_cons_zero, List.set_cons_succ, i64_w, i32_w]
        rfl
      refine pure_ (i := 16) (N := some 62) (v := ?_) (a' := ?_) #[true, true, true, true, true, true, true, true, true, true, true, true, true, true, true, true, true, false, false, false, false, false, false, false, false, false] rfl rfl (by kernel_rfl) (fun _ _ _ h => h) (Or.inl ⟨by rfl, ?_⟩) ?_ ?_
      rotate_left
      · intro w'
        go_simp
        with_reducible rfl
      rotate_left
      · simp only [Act.put, List.setIfInBounds_toArray, List.set_cons_zero, List.set_cons_succ, i64_w, i32_w]
        rfl
      refine pure_ (i := 17) (N := some 63) (v := undef) (a' := ?_) #[true, true, true, true, true, true, true, true, true, true, true, true, true, true, true, true, true, true, false, false, false, false, false, false, false, false] rfl rfl (by kernel_rfl) (fun _ _ _ h => h) (Or.inr ⟨by rfl, rfl⟩) ?_ ?_
      rotate_left
      · simp only [Act.put, List.setIfInBounds_toArray, List.set_cons_zero, List.set_cons_succ, i64_w, i32_w]
        rfl
      refine pure_ (i := 18) (N := some 64) (v := undef) (a' := ?_) #[true, true, true, true, true, true, true, true, true, true, true, true, true, true, true, true, true, true, true, false, false, false, false, false, false, false] rfl rfl (by kernel_rfl) (fun _ _ _ h => h) (Or.inr ⟨by rfl, rfl⟩) ?_ ?_
      rotate_left
      · simp only [Act.put, List.setIfInBounds_toArray, List.set_cons_zero, List.set_cons_succ, i64_w, i32_w]
        rfl
      refine pure_ (i := 19) (N := some 65) (v := undef) (a' := ?_) #[true, true, true, true, true, true, true, true, true, true, true, true, true, true, true, true, true, true, true, true, false, false, false, false, false, false] rfl rfl (by kernel_rfl) (fun _ _ _ h => h) (Or.inr ⟨by rfl, rfl⟩) ?_ ?_
      rotate_left
      · simp only [Act.put, List.setIfInBounds_toArray, List.set_cons_zero, List.set_cons_succ, i64_w, i32_w]
        rfl
      refine pure_ (i := 20) (N := some 66) (v := undef) (a' := ?_) #[true, true, true, true, true, true, true, true, true, true, true, true, true, true, true, true, true, true, true, true, true, false, false, false, false, false] rfl rfl (by kernel_rfl) (fun _ _ _ h => h) (Or.inr ⟨by rfl, rfl⟩) ?_ ?_
      rotate_left
      · simp only [Act.put, List.setIfInBounds_toArray, List.set_cons_zero, List.set_cons_succ, i64_w, i32_w]
        rfl
      refine pure_ (i := 21) (N := some 67) (v := undef) (a' := ?_) #[true, true, true, true, true, true, true, true, true, true, true, true, true, true, true, true, true, true, true, true, true, true, false, false, false, false] rfl rfl (by kernel_rfl) (fun _ _ _ h => h) (Or.inr ⟨by rfl, rfl⟩) ?_ ?_
      rotate_left
      · simp only [Act.put, List.setIfInBounds_toArray, List.set_cons_zero, List.set_cons_succ, i64_w, i32_w]
        rfl
      refine pure_ (i := 22) (N := some 68) (v := undef) (a' := ?_) #[true, true, true, true, true, true, true, true, true, true, true, true, true, true, true, true, true, true, true, true, true, true, true, false, false, false] rfl rfl (by kernel_rfl) (fun _ _ _ h => h) (Or.inr ⟨by rfl, rfl⟩) ?_ ?_
      rotate_left
      · simp only [Act.put, List.setIfInBounds_toArray, List.set_cons_zero, List.set_cons_succ, i64_w, i32_w]
        rfl
      refine pure_ (i := 23) (N := some 69) (v := ?_) (a' := ?_) #[true, true, true, true, true, true, true, true, true, true, true, true, true, true, true, true, true, true, true, true, true, true, true, true, false, false] rfl rfl (by kernel_rfl) (fun _ _ _ h => h) (Or.inl ⟨by rfl, ?_⟩) ?_ ?_
      rotate_left
      · intro w'
        go_simp
        with_reducible rfl
      rotate_left
      · simp only [Act.put, List.setIfInBounds_toArray, List.set_cons_zero, List.set_cons_succ, i64_w, i32_w]
        rfl
      refine pure_ (i := 24) (N := some 70) (v := ?_) (a' := ?_) #[true, true, true, true, true, true, true, true, true, true, true, true, true, true, true, true, true, true, true, true, true, true, true, true, true, false] rfl rfl (by kernel_rfl) (fun _ _ _ h => h) (Or.inl ⟨by rfl, ?_⟩) ?_ ?_
      rotate_left
      · intro w'
        go_simp
        with_reducible rfl
      rotate_left
      · simp only [Act.put, List.setIfInBounds_toArray, List.set_cons_zero, List.set_cons_succ, i64_w, i32_w]
        rfl
      refine pure_ (i := 25) (N := some 8) (v := ?_) (a' := ?_) #[true, true, true, true, true, true, true, true, true, true, true, true, true, true, true, true, true, true, true, true, true, true, true, true, true, true] rfl rfl (by kernel_rfl) (fun _ _ _ h => h) (Or.inl ⟨by rfl, ?_⟩) ?_ ?_
      rotate_left
      · intro w'
        go_simp
        with_reducible rfl
      rotate_left
      · simp only [Act.put, List.setIfInBounds_toArray, List.set_cons_zero, List.set_cons_succ, i64_w, i32_w]
        rfl
      refine done_ (by kernel_rfl) ?_
      go_wp2
      go_ret
      exact ⟨rfl, hHeld.2.2.2⟩
    · refine start_ (n := 26) (S := (fun V => V.heap[w.heap.size]? = some (.cells D.toArray 38 (0, 0)) ∧ Kd.C (Kd.int .u8) V A3 sd.length sd ∧ Kd.C (Kd.int .u8) V A4 td.length td ∧ Below w.heap.size w V)) (ds := []) #[false, false, false, false, false, false, false, false, false, false, false, false, false, false, false, false, false, false, false, false, false, false, false, false, false, false] (by kernel_rfl) rfl rfl HELD.out (fun hHeld => ?_)
      refine pure_ (i := 0) (N := some 46) (v := ?_) (a' := ?_) #[true, false, false, false, false, false, false, false, false, false, false, false, false, false, false, false, false, false, false, false, false, false, false, false, false, false] rfl rfl (by kernel_rfl) (fun _ _ _ h => h) (Or.inl ⟨by rfl, ?_⟩) ?_ ?_
      rotate_left
      · intro w'
        go_simp
        with_reducible rfl
      rotate_left
      · simp only [Act.put, List.setIfInBounds_toArray, List.set_cons_zero, List.set_cons_succ, i64_w, i32_w]
        rfl
      refine pure_ (i := 1) (N := some 47) (v := ?_) (a' := ?_) #[true, true, false, false, false, false, false, false, false, false, false, false, false, false, false, false, false, false, false, false, false, false, false, false, false, false] rfl rfl (by kernel_rfl) (fun _ _ _ h => h) (Or.inl ⟨by rfl, ?_⟩) ?_ ?_
      rotate_left
      · intro w'
        go_simp
        with_reducible rfl
      rotate_left
      · simp only [Act.put, List.setIfInBounds_toArray, List.set_cons_zero, List.set_cons_succ, i64_w, i32_w]
        rfl
      refine pure_ (i := 2) (N := some 48) (v := ?_) (a' := ?_) #[true, true, true, false, false, false, false, false, false, false, false, false, false, false, false, false, false, false, false, false, false, false, false, false, false, false] rfl rfl (by kernel_rfl) (fun _ _ _ h => h) (Or.inl ⟨by rfl, ?_⟩) ?_ ?_
      rotate_left
      · intro w'
        go_simp
        with_reducible rfl
      rotate_left
      · simp only [Act.put, List.setIfInBounds_toArray, List.set_cons_zero, List.set_cons_succ, i64_w, i32_w]
        rfl
      refine pure_ (i := 3) (N := some 49) (v := ?_) (a' := ?_) #[true, true, true, true, false, false, false, false, false, false, false, false, false, false, false, false, false, false, false, false, false, false, false, false, false, false] rfl rfl (by kernel_rfl) (fun _ _ _ h => h) (Or.inl ⟨by rfl, ?_⟩) ?_ ?_
      rotate_left
      · intro w'
        go_simp
        with_reducible rfl
      rotate_left
      · simp only [Act.put, List.setIfInBounds_toArray, List.set_cons_zero, List.set_cons_succ, i64_w, i32_w]
        rfl
      refine pure_ (i := 4) (N := some 50) (v := ?_) (a' := ?_) #[true, true, true, true, true, false, false, false, false, false, false, false, false, false, false, false, false, false, false, false, false, false, false, false, false, false] rfl rfl (by kernel_rfl) (fun _ _ _ h => h) (Or.inl ⟨by rfl, ?_⟩) ?_ ?_
      rotate_left
      · intro w'
        go_simp
        with_reducible rfl
      rotate_left
      · simp only [Act.put, List.setIfInBounds_toArray, List.set_cons_zero, List.set_cons_succ, i64_w, i32_w]
        rfl
      refine pure_ (i := 5) (N := some 51) (v := ?_) (a' := ?_) #[true, true, true, true, true, true, false, false, false, false, false, false, false, false, false, false, false, false, false, false, false, false, false, false, false, false] rfl rfl (by kernel_rfl) (fun _ _ _ h => h) (Or.inl ⟨by rfl, ?_⟩) ?_ ?_
      rotate_left
      · intro w'
        go_simp
        with_reducible rfl
      rotate_left
      · simp only [Act.put, List.setIfInBounds_toArray, List.set_cons_zero, List.set_cons_succ, i64_w, i32_w]
        rfl
      refine pure_ (i := 7) (N := some 53) (v := ?_) (a' := ?_) #[true, true, true, true, true, true, false, true, false, false, false, false, false, false, false, false, false, false, false, false, false, false, false, false, false, false] rfl rfl (by kernel_rfl) (fun _ _ _ h => h) (Or.inl ⟨by rfl, ?_⟩) ?_ ?_
      rotate_left
      · intro w'
        go_simp
        with_reducible rfl
      rotate_left
      · simp only [Act.put, List.setIfInBounds_toArray, List.set_cons_zero, List.set_cons_succ, i64_w, i32_w]
        rfl
      refine pure_ (i := 8) (N := some 54) (v := .int .i64 (m : Int)) (a' := ?_) #[true, true, true, true, true, true, false, true, true, false, false, false, false, false, false, false, false, false, false, false, false, false, false, false, false, false] rfl rfl (by kernel_rfl) (fun _ _ _ h => h) (Or.inl ⟨by rfl, ?_⟩) ?_ ?_
      · intro w'
        have hwm := HWM.out
        have hwm2 : wrap64 (m : Int) = (m : Int) := by have h_ := HWM.out; rwa [i64_w] at h_
        go_simp
        try rfl
      rotate_left
      · simp only [Act.put, List.setIfInBounds_toArray, List.set_cons_zero, List.set_cons_succ, i64_w, i32_w]
        rfl
      refine take_ (i := 6) (N := some 52) (v := _) (a' := ?_) #[true, true, true, true, true, true, true, true, true, false, false, false, false, false, false, false, false, false, false, false, false, false, false, false, false, false] rfl rfl (by kernel_rfl) (fun _ _ _ h => h) (row_if (by rfl) 38 _ rfl w.heap.size rfl D 38 _ (fun _ hS => hS.1) und38 rfl HS.out) hHeld ?_ ?_
      rotate_left
      · simp only [Act.put, List.setIfInBounds_toArray, List.set_cons_zero, List.set_cons_succ, i64_w, i32_w]
        rfl
      refine one_ (i := 9) (N := some 55) #[true, true, true, true, true, true, true, true, true, true, false, false, false, false, false, false, false, false, false, false, false, false, false, false, false, false] rfl rfl (by kernel_rfl) (by decide) (fun K hK => ?_)
      refine goes_ Try.func23 (by kernel_rfl) rfl #[.agg D.toArray, .int .i64 (m : Int)] (by rfl) rfl rfl (by simp only [List.map_toArray, List.map_cons, List.map_nil]; rfl) ?_
      refine (HSM.out _).mono ?_
      rintro e u1 ⟨g1, rfl, hg1, hg2, hb⟩
      refine ⟨_, rfl, ?_⟩
      obtain ⟨s0, s1, s2, s3⟩ := hHeld
      have HG1 := Lib.hid (sum_row HB.out.len hg1 hg2)
      refine hK.out _ _ ⟨(hb.block _ (Array.getElem?_eq_some_iff.1 s0).1).trans s0, Kd.C_below s1 hb, Kd.C_below s2 hb, s3.trans (hb.mono s3.size)⟩ (fun hHeld => ?_)
      clear hK K s0 s1 s2 s3 hb hg1 hg2
      refine norm_ (a' := ?_) ?_ ?_
      rotate_left
      · show Act.put _ (some 55) _ = _
        simp only [Act.put, List.setIfInBounds_toArray, List.set_cons_zero, List.set_cons_succ, i64_w, i32_w]
        rfl
      refine one_ (i := 10) (N := some 56) #[true, true, true, true, true, true, true, true, true, true, true, false, false, false, false, false, false, false, false, false, false, false, false, false, false, false] rfl rfl (by kernel_rfl) (by decide) (fun K hK => ?_)
      refine goes_ Try.func19 (by kernel_rfl) rfl #[.slice A3 sd.length c3, .slice (some ⟨g1, 0, none⟩) 16 16] (by rfl) rfl rfl (by simp only [List.map_toArray, List.map_cons, List.map_nil]; rfl) ?_
      obtain ⟨s0, s1, s2, s3⟩ := hHeld
      refine (bytes_yes A3 c3 _ sd _ 16 16 _ rfl (HSD.out rfl) s1 HCA3.out HG1.out (by omega)).mono ?_
      rintro e u2 ⟨rfl, hb⟩
      refine ⟨_, rfl, ?_⟩
      refine hK.out _ _ ⟨(hb.block _ (Array.getElem?_eq_some_iff.1 s0).1).trans s0, Kd.C_below s1 hb, Kd.C_below s2 hb, s3.trans (hb.mono s3.size)⟩ (fun hHeld => ?_)
      clear hK K s0 s1 s2 s3 hb
      refine norm_ (a' := ?_) ?_ ?_
      rotate_left
      · show Act.put _ (some 56) _ = _
        simp only [Act.put, List.setIfInBounds_toArray, List.set_cons_zero, List.set_cons_succ, i64_w, i32_w]
        rfl
      refine pure_ (i := 11) (N := some 57) (v := ?_) (a' := ?_) #[true, true, true, true, true, true, true, true, true, true, true, true, false, false, false, false, false, false, false, false, false, false, false, false, false, false] rfl rfl (by kernel_rfl) (fun _ _ _ h => h) (Or.inl ⟨by rfl, ?_⟩) ?_ ?_
      rotate_left
      · intro w'
        go_simp
        with_reducible rfl
      rotate_left
      · simp only [Act.put, List.setIfInBounds_toArray, List.set_cons_zero, List.set_cons_succ, i64_w, i32_w]
        rfl
      refine pure_ (i := 12) (N := some 58) (v := ?_) (a' := ?_) #[true, true, true, true, true, true, true, true, true, true, true, true, true, false, false, false, false, false, false, false, false, false, false, false, false, false] rfl rfl (by kernel_rfl) (fun _ _ _ h => h) (Or.inl ⟨by rfl, ?_⟩) ?_ ?_
      rotate_left
      · intro w'
        go_simp
        with_reducible rfl
      rotate_left
      · simp only [Act.put, List.setIfInBounds_toArray, List.set_cons_zero, List.set_cons_succ, i64_w, i32_w]
        rfl
      refine pure_ (i := 13) (N := some 59) (v := ?_) (a' := ?_) #[true, true, true, true, true, true, true, true, true, true, true, true, true, true, false, false, false, false, false, false, false, false, false, false, false, false] rfl rfl (by kernel_rfl) (fun _ _ _ h => h) (Or.inl ⟨by rfl, ?_⟩) ?_ ?_
      rotate_left
      · intro w'
        go_simp
        with_reducible rfl
      rotate_left
      · simp only [Act.put, List.setIfInBounds_toArray, List.set_cons_zero, List.set_cons_succ, i64_w, i32_w]
        rfl
      refine pure_ (i := 14) (N := some 60) (v := ?_) (a' := ?_) #[true, true, true, true, true, true, true, true, true, true, true, true, true, true, true, false, false, false, false, false, false, false, false, false, false, false] rfl rfl (by kernel_rfl) (fun _ _ _ h => h) (Or.inl ⟨by rfl, ?_⟩) ?_ ?_
      rotate_left
      · intro w'
        go_simp
        with_reducible rfl
      rotate_left
      · simp only [Act.put, List.setIfInBounds_toArray, List.set_cons_zero, List.set_cons_succ, i64_w, i32_w]
        rfl
      refine pure_ (i := 15) (N := some 61) (v := ?_) (a' := ?_) #[true, true, true, true, true, true, true, true, true, true, true, true, true, true, true, true, false, false, false, false, false, false, false, false, false, false] rfl rfl (by kernel_rfl) (fun _ _ _ h => h) (Or.inl ⟨by rfl, ?_⟩) ?_ ?_
      rotate_left
      · intro w'
        go_simp
        with_reducible rfl
      rotate_left
      · simp only [Act.put, List.setIfInBounds_toArray, List.set_cons_zero, List.set_cons_succ, i64_w, i32_w]
        rfl
      refine pure_ (i := 16) (N := some 62) (v := ?_) (a' := ?_) #[true, true, true, true, true, true, true, true, true, true, true, true, true, true, true, true, true, false, false, false, false, false, false, false, false, false] rfl rfl (by kernel_rfl) (fun _ _ _ h => h) (Or.inl ⟨by rfl, ?_⟩) ?_ ?_
      rotate_left
      · intro w'
        go_simp
        with_reducible rfl
      rotate_left
      · simp only [Act.put, List.setIfInBounds_toArray, List.set_cons_zero, List.set_cons_succ, i64_w, i32_w]
        rfl
      refine pure_ (i := 17) (N := some 63) (v := ?_) (a' := ?_) #[true, true, true, true, true, true, true, true, true, true, true, true, true, true, true, true, true, true, false, false, false, false, false, false, false, false] rfl rfl (by kernel_rfl) (fun _ _ _ h => h) (Or.inl ⟨by rfl, ?_⟩) ?_ ?_
      rotate_left
      · intro w'
        go_simp
        with_reducible rfl
      rotate_left
      · simp only [Act.put, List.setIfInBounds_toArray, List.set_cons_zero, List.set_cons_succ, i64_w, i32_w]
        rfl
      refine pure_ (i := 19) (N := some 65) (v := ?_) (a' := ?_) #[true, true, true, true, true, true, true, true, true, true, true, true, true, true, true, true, true, true, false, true, false, false, false, false, false, false] rfl rfl (by kernel_rfl) (fun _ _ _ h => h) (Or.inl ⟨by rfl, ?_⟩) ?_ ?_
      rotate_left
      · intro w'
        go_simp
        with_reducible rfl
      rotate_left
      · simp only [Act.put, List.setIfInBounds_toArray, List.set_cons_zero, List.set_cons_succ, i64_w, i32_w]
        rfl
      refine pure_ (i := 20) (N := some 66) (v := .int .i64 ((2 ^ kk : Nat) : Int)) (a' := ?_) #[true, true, true, true, true, true, true, true, true, true, true, true, true, true, true, true, true, true, false, true, true, false, false, false, false, false] rfl rfl (by kernel_rfl) (fun _ _ _ h => h) (Or.inl ⟨by rfl, ?_⟩) ?_ ?_
      · intro w'
        exact exec_shl rfl rfl rfl (run_shl _ kk HKK.out hkk w')
      rotate_left
      · simp only [Act.put, List.setIfInBounds_toArray, List.set_cons_zero, List.set_cons_succ, i64_w, i32_w]
        rfl
      refine take_ (i := 18) (N := some 64) (v := _) (a' := ?_) #[true, true, true, true, true, true, true, true, true, true, true, true, true, true, true, true, true, true, true, true, true, false, false, false, false, false] rfl rfl (by kernel_rfl) (fun _ _ _ h => h) (row_if (by rfl) 38 _ rfl w.heap.size rfl D 38 _ (fun _ hS => hS.1) und38 rfl HS.out) hHeld ?_ ?_
      rotate_left
      · simp only [Act.put, List.setIfInBounds_toArray, List.set_cons_zero, List.set_cons_succ, i64_w, i32_w]
        rfl
      refine one_ (i := 21) (N := some 67) #[true, true, true, true, true, true, true, true, true, true, true, true, true, true, true, true, true, true, true, true, true, true, false, false, false, false] rfl rfl (by kernel_rfl) (by decide) (fun K hK => ?_)
      refine goes_ Try.func23 (by kernel_rfl) rfl #[.agg D.toArray, .int .i64 ((2 ^ kk : Nat) : Int)] (by rfl) rfl rfl (by simp only [List.map_toArray, List.map_cons, List.map_nil]; rfl) ?_
      refine (HSK.out _).mono ?_
      rintro e u3 ⟨g2, rfl, hg1, hg2, hb⟩
      refine ⟨_, rfl, ?_⟩
      obtain ⟨s0, s1, s2, s3⟩ := hHeld
      have HG2 := Lib.hid (sum_row HB.out.len hg1 hg2)
      refine hK.out _ _ ⟨(hb.block _ (Array.getElem?_eq_some_iff.1 s0).1).trans s0, Kd.C_below s1 hb, Kd.C_below s2 hb, s3.trans (hb.mono s3.size)⟩ (fun hHeld => ?_)
      clear hK K s0 s1 s2 s3 hb hg1 hg2
      refine norm_ (a' := ?_) ?_ ?_
      rotate_left
      · show Act.put _ (some 67) _ = _
        simp only [Act.put, List.setIfInBounds_toArray, List.set_cons_zero, List.set_cons_succ, i64_w, i32_w]
        rfl
      refine one_ (i := 22) (N := some 68) #[true, true, true, true, true, true, true, true, true, true, true, true, true, true, true, true, true, true, true, true, true, true, true, false, false, false] rfl rfl (by kernel_rfl) (by decide) (fun K hK => ?_)
      refine goes_ Try.func19 (by kernel_rfl) rfl #[.slice A4 td.length c4, .slice (some ⟨g2, 0, none⟩) 16 16] (by rfl) rfl rfl (by simp only [List.map_toArray, List.map_cons, List.map_nil]; rfl) ?_
      obtain ⟨s0, s1, s2, s3⟩ := hHeld
      refine (bytes_yes A4 c4 _ td _ 16 16 _ rfl (HTD.out rfl) s2 HCA4.out HG2.out (by omega)).mono ?_
      rintro e u4 ⟨rfl, hb⟩
      refine ⟨_, rfl, ?_⟩
      refine hK.out _ _ ⟨(hb.block _ (Array.getElem?_eq_some_iff.1 s0).1).trans s0, Kd.C_below s1 hb, Kd.C_below s2 hb, s3.trans (hb.mono s3.size)⟩ (fun hHeld => ?_)
      clear hK K s0 s1 s2 s3 hb
      refine norm_ (a' := ?_) ?_ ?_
      rotate_left
      · show Act.put _ (some 68) _ = _
        simp only [Act.put, List.setIfInBounds_toArray, List.set_cons_zero, List.set_cons_succ, i64_w, i32_w]
        rfl
      refine pure_ (i := 23) (N := some 69) (v := ?_) (a' := ?_) #[true, true, true, true, true, true, true, true, true, true, true, true, true, true, true, true, true, true, true, true, true, true, true, true, false, false] rfl rfl (by kernel_rfl) (fun _ _ _ h => h) (Or.inl ⟨by rfl, ?_⟩) ?_ ?_
      rotate_left
      · intro w'
        go_simp
        with_reducible rfl
      rotate_left
      · simp only [Act.put, List.setIfInBounds_toArray, List.set_cons_zero, List.set_cons_succ, i64_w, i32_w]
        rfl
      refine pure_ (i := 24) (N := some 70) (v := ?_) (a' := ?_) #[true, true, true, true, true, true, true, true, true, true, true, true, true, true, true, true, true, true, true, true, true, true, true, true, true, false] rfl rfl (by kernel_rfl) (fun _ _ _ h => h) (Or.inl ⟨by rfl, ?_⟩) ?_ ?_
      rotate_left
      · intro w'
        go_simp
        with_reducible rfl
      rotate_left
      · simp only [Act.put, List.setIfInBounds_toArray, List.set_cons_zero, List.set_cons_succ, i64_w, i32_w]
        rfl
      refine pure_ (i := 25) (N := some 8) (v := ?_) (a' := ?_) #[true, true, true, true, true, true, true, true, true, true, true, true, true, true, true, true, true, true, true, true, true, true, true, true, true, true] rfl rfl (by kernel_rfl) (fun _ _ _ h => h) (Or.inl ⟨by rfl, ?_⟩) ?_ ?_
      rotate_left
      · intro w'
        go_simp
        with_reducible rfl
      rotate_left
      · simp only [Act.put, List.setIfInBounds_toArray, List.set_cons_zero, List.set_cons_succ, i64_w, i32_w]
        rfl
      refine done_ (by kernel_rfl) ?_
      go_wp2
      go_ret
      exact ⟨rfl, hHeld.2.2.2⟩
  · go_wp2_with (first
      | (go_at_call 10; refine (head_calls _).mono ?_; rintro e w1 ⟨rfl, hb1⟩; have HB1 := Lib.hid hb1; clear hb1))
    go_ret
    exact ⟨rfl, ((Below.refl _ _).alloc (Nat.le_refl _) _).trans (HB1.out.mono (by simp))⟩
end Go.Proofs.Ytknlbeojdmeljaa.L
