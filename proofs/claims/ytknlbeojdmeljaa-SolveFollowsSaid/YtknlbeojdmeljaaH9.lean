import Derived.Test.YtknlbeojdmeljaaH8
namespace Go.Proofs.Ytknlbeojdmeljaa.H
open Go.RowKit Go.Proofs.YtknlbeojdmeljaaW.PrintWords Go.Proofs.YtknlbeojdmeljaaW.PrintLast Go.Proofs.YtknlbeojdmeljaaW.PrintMore Go.Proofs.Ytknlbeojdmeljaa.P
set_option linter.unusedVariables false
set_option linter.unusedSimpArgs false

theorem keeps_app {w w1 : World} (h3 : w.heap.size ≤ w1.heap.size) (h4 : ∀ (k : Nat) (ob : Obj), w.heap[k]? = some ob → (∀ cs, ob ≠ Obj.cells cs 25 (0, 0)) → w1.heap[k]? = some ob) (B : Nat) : KeepsFrom B w w1 :=
  ⟨h3, fun k o _ ho hc => h4 k o ho (by rintro cs rfl; cases hc)⟩
theorem rowE_m (x : FRow) : (⟨(x.m : Int), x.1.f1⟩ : S25) = x.1 := by
  obtain ⟨⟨a, b⟩, h⟩ := x
  have := FRow.m_eq ⟨⟨a, b⟩, h⟩
  simp only at this
  rw [← this]
theorem insL_len (e : Nat × List Int) (p : List S25) : (insL e p).1.length ≤ 2 * p.length := by
  have key : ∀ (q : List S25) (s : List S25 × Bool), (q.foldl (insStep e) s).1.length ≤ s.1.length + 2 * q.length := by
    intro q
    induction q with
    | nil => intro s; simp
    | cons r q ih =>
      intro s
      have h1 : (insStep e s r).1.length ≤ s.1.length + 2 := by
        unfold insStep
        split <;> simp
      have h2 := ih (insStep e s r)
      simp only [List.foldl_cons, List.length_cons]
      omega
  have := key p ([], false)
  simpa [insL] using this
theorem add_fin {w U : World} {D : Nat} {v : Value} {xs : List S25} (hS : Kd.S k25 25 U w.heap.size (fun _ => True) v xs) (hK : U.heap[D]? = some (.deferred (some []))) (hD : w.heap.size ≤ D) (hB : Below w.heap.size w U) :
    ∃ u, Ending.returned (.tuple #[v, .bool (xs, true, (0 : Int)).2.1, .int .i64 (xs, true, (0 : Int)).2.2]) = .returned (.tuple #[u, .bool (xs, true, (0 : Int)).2.1, .int .i64 (xs, true, (0 : Int)).2.2]) ∧ Kd.S k25 25 (U.putObj D (.deferred none)) w.heap.size (fun _ => True) u (xs, true, (0 : Int)).1 ∧ Below w.heap.size w (U.putObj D (.deferred none)) := by
  refine ⟨_, rfl, Kd.S_mono (Kd.S_step (Kd.S_bound hS) (fun k hk _ => World.putObj_heap_other (fun e => ?_))) (fun _ _ => trivial), hB.trans (belowK_b (w := w) (Nat.le_refl _) U D _ (.deferred none) hD hK rfl rfl)⟩
  obtain ⟨_, _, _, q, _, cells, hc⟩ := hk
  subst e
  rw [hc] at hK
  cases hK
theorem eqg53 (x y : Operand) (xs ys : Array Value) (w : World) : (eqGuard .eql 53 x y (.agg xs) (.agg ys)).run Try.prog w = .ok () w := by
  kernel_rfl
theorem exec_eql53 {a : Act} {o : Oper} {x y : Operand} {s : TypeId} {m : Int} {d : List Int} {w : World} (ho : o.op = .binOp .eql 53 x y s) (hx : a.eval x = .agg (.int .i64 m :: bys d).toArray) (hy : a.eval y = .agg (.int .i64 0 :: bys z16).toArray) (hd : d.length = 16) {b : Bool} (hb : (m == 0 && d == z16) = b) :
    (execOp a.eval o).run Try.prog w = .ok (.value (.bool b)) w := by
  subst hb
  unfold execOp
  simp only [ho, Sem.run_bind]
  rw [hx, hy, eqg53]
  simp only [Result.andThen]
  rw [eq53 m d hd w]
  rfl

set_option maxRecDepth 100000 in
set_option maxHeartbeats 1000000 in
theorem add_calls (A : Option Addr) (cap : Nat) (zs : List S25) (m : Int) (A1 : Option Addr) (c1 : Nat) (ds : List Int) (w : World) (hr : Kd.C k25 w A zs.length zs) (hx : Kd.C (Kd.int .u8) w A1 ds.length ds) (hlen : zs.length ≤ 1000000) :
    Calls Try.prog 12 #[.slice A zs.length cap, .agg #[.int .i64 m, .slice A1 ds.length c1]] w fun e w' => ∃ v, e = .returned (.tuple #[v, .bool (addS zs m ds).2.1, .int .i64 (addS zs m ds).2.2]) ∧ Kd.S k25 25 w' w.heap.size (fun _ => True) v (addS zs m ds).1 ∧ Below w.heap.size w w' := by
  have out : ∀ (w' : World), Below w.heap.size w w' → (validS zs = false ∨ fineB m ds = false) → ∃ v, Ending.returned (.tuple #[.slice none 0 0, .bool false, .int .i64 1]) = .returned (.tuple #[v, .bool (addS zs m ds).2.1, .int .i64 (addS zs m ds).2.2]) ∧ Kd.S k25 25 w' w.heap.size (fun _ => True) v (addS zs m ds).1 ∧ Below w.heap.size w w' := by
    intro w' hb h
    have : addS zs m ds = ([], false, 1) := if_pos h
    rw [this]
    exact ⟨_, rfl, Kd.S_nil _ _ _ _ _, hb⟩
  have OUT := Lib.hid out
  have hba : ∀ o : Obj, Below w.heap.size w (w.alloc o) := fun o => (Below.refl _ _).alloc (Nat.le_refl _) _
  have HBA := Lib.hid hba
  have hl17 : (Value.int .i64 m :: bys (pad16 ds)).length = 17 := by rw [List.length_cons, bys_len, pad16_len]
  have HL := Lib.hid hl17
  have hone := eq_one m (pad16 ds)
  have HX := Lib.hid hx
  have HR := Lib.hid hr
  clear out hba hl17 hx hr
  refine (callsIn_wide (n := 3)).1 (callsIn_of_wp_marks Try.func12 rfl trivial (wpIn_wide.2 ?_) rfl)
  simp only [Try.ntmps12, List.size_toArray, List.length_cons, List.length_nil, Nat.reduceAdd, Nat.reduceSub, Array.replicate_succ, Array.replicate_zero, List.push_toArray, List.append_toArray, List.nil_append, List.cons_append]
  have hu25 := Try.underlying25
  by_cases hbad : validS zs = false ∨ fineB m ds = false
  · have HBAD := Lib.hid hbad
    have hcond : (!(validS zs) || !(fineB m ds)) = true := by rcases hbad with h | h <;> simp [h]
    cases hv : validS zs <;> cases hf : fineB m ds <;> simp only [hv, hf] at hcond
    all_goals clear hbad
    rotate_right
    · cases hcond
    all_goals
      go_wp2_with (first
        | (go_at_call 28; refine (formed_calls m A1 c1 ds _ (Kd.C_below HX.out (HBA.out _))).mono ?_; rintro e w1 ⟨rfl, hb1⟩; have HB1 := Lib.hid hb1; clear hb1)
        | (refine wpList_store_row rfl 53 _ _ rfl _ (.int .i64 m :: bys (pad16 ds)) _ 53 rfl rfl (blk_new rfl) (by rw [HL.out]; rfl) (by rw [HL.out]; exact size53) hone ?_; intro w2 g1 g2 g3 g4; have hb2 := (HBA.out (.cells #[.int .i64 m, .slice A1 ds.length c1] 25)).trans (HB1.out.mono (HBA.out _).size); have HB2 := Lib.hid (g4 _ _ hb2.size (hb2.alloc hb2.size _)); clear g1 g2 g3 g4 hb2)
        | (go_at_call 20; refine (valid_calls A cap zs _ (Kd.C_below HR.out HB2.out)).mono ?_; rintro e w3 ⟨rfl, hb3⟩; have HB3 := Lib.hid hb3; clear hb3; rw [hv]))
      exact ⟨.tuple #[.slice none 0 0, .bool false, .int .i64 1], by simp [results, Try.results12, go_sem], OUT.out _ (HB2.out.trans (HB3.out.mono HB2.out.size)) HBAD.out⟩
  have hv : validS zs = true := by
    cases h : validS zs
    · exact absurd (.inl h) hbad
    · rfl
  have hf : fineB m ds = true := by
    cases h : fineB m ds
    · exact absurd (.inr h) hbad
    · rfl
  have hsp := FRow.spec ⟨⟨m, ds⟩, hf⟩
  simp only at hsp
  obtain ⟨mn, hmn⟩ := Int.eq_ofNat_of_zero_le (show 0 ≤ m by omega)
  subst hmn
  have hmn16 : mn < 65536 := by omega
  have hd16 := hsp.2.2
  rw [pad16_of _ hd16] at hone HL
  have hok := redS_ok hv (mn, ds) ⟨hmn16, hd16⟩
  have hs : addS zs (mn : Int) ds = if redS zs (mn, ds) = (0, z16) then (zs, false, 0) else if (redS zs (mn, ds)).1 = 0 then ([], false, 12) else (insS (redS zs (mn, ds)) zs, true, 0) := by
    unfold addS; rw [if_neg hbad]; rfl
  have hred := fun w' (h : Below w.heap.size w w') => reduce_calls' A cap zs hv mn hmn16 ds hd16 w' (Kd.C_below HR.out h)
  obtain ⟨fz, hfz⟩ := valid_fz hv
  have hfl : fz.length = zs.length := by rw [← hfz, List.length_map]
  generalize hq : redS zs (mn, ds) = q at hok hs hred
  obtain ⟨mp, dp⟩ := q
  obtain ⟨hmp, hdp⟩ := hok
  simp only at hmp hdp hs hred
  have hl17 : (Value.int .i64 (mp : Int) :: bys dp).length = 17 := by rw [List.length_cons, bys_len, hdp]
  have hone2 := eq_one (mp : Int) dp
  have HL2 := Lib.hid hl17
  have HS := Lib.hid hs
  have HDP := Lib.hid hdp
  have HRED := Lib.hid hred
  have HFZ := Lib.hid hfz
  have HFL := Lib.hid hfl
  have HD16 := Lib.hid hd16
  have HV := Lib.hid hv
  have hp16 : pad16 ds = ds := pad16_of _ hd16
  have HP16 := Lib.hid hp16
  clear hl17 hq hs hdp hred hsp hbad hfz hfl hd16 hp16 hmn16
  obtain ⟨bz, hbz⟩ : ∃ b, ((mp : Int) == 0 && dp == z16) = b := ⟨_, rfl⟩
  obtain ⟨b0, hb0⟩ : ∃ b, ((mp : Int) == 0) = b := ⟨_, rfl⟩
  have hcs : (bz = true ↔ (mp = 0 ∧ dp = z16)) ∧ (b0 = true ↔ mp = 0) := by
    rw [← hbz, ← hb0]; simp
  have HCS := Lib.hid hcs
  have HBZ := Lib.hid hbz
  clear hcs hbz
  cases bz
  rotate_left
  · -- the same rows again
    have hans : addS zs (mn : Int) ds = (zs, false, 0) := by
      have := HCS.out.1.1 rfl
      rw [HS.out, if_pos (by rw [this.1, this.2])]
    have HANS := Lib.hid hans
    clear hans
    go_wp2_with (first
      | (go_at_call 28; refine (formed_calls (mn : Int) A1 c1 ds _ (Kd.C_below HX.out (HBA.out _))).mono ?_; rw [HP16.out, hf]; rintro e w1 ⟨rfl, hb1⟩; have HB1 := Lib.hid hb1; clear hb1)
      | (refine wpList_store_row rfl 53 _ _ rfl _ (.int .i64 (mn : Int) :: bys ds) _ 53 rfl rfl (blk_new rfl) (by rw [HL.out]; rfl) (by rw [HL.out]; exact size53) hone ?_; intro w2 g1 g2 g3 g4; have hb2 := (HBA.out (.cells #[.int .i64 (mn : Int), .slice A1 ds.length c1] 25)).trans (HB1.out.mono (HBA.out _).size); have HB2 := Lib.hid (g4 _ _ hb2.size (hb2.alloc hb2.size _)); have hg7 := hb2.size; have hs2 : w2.heap.size = w1.heap.size + 1 := (by rw [g3]; simp); clear g2 g3 g4 hb2)
      | (go_at_call 30; refine (equations_calls _ _ _ _).mono ?_; rintro e w' ⟨rfl, rfl⟩)
      | (go_at_call 20; refine (valid_calls A cap zs _ (Kd.C_below HR.out HB2.out)).mono ?_; rw [HV.out]; rintro e w3 ⟨rfl, hb3⟩; have HB3 := Lib.hid hb3; have g1' := (hb3.block _ (Array.getElem?_eq_some_iff.1 g1).1).trans g1; clear hb3)
      | (refine wpList_load_row rfl 53 _ rfl w1.heap.size rfl 53 _ (0, 0) _ g1' Try.underlying53 rfl (by simp only [List.size_toArray]; rw [HL.out]; exact size53) ?_)
      | (go_at_call 29; refine (HRED.out _ (HB2.out.trans (HB3.out.mono HB2.out.size))).mono ?_; rintro e w4 ⟨rfl, hb4⟩; have HB4 := Lib.hid hb4; have g1'' := (hb4.block _ (Array.getElem?_eq_some_iff.1 g1').1).trans g1'; clear hb4)
      | (refine wpList_store_row rfl 53 _ _ rfl w1.heap.size (.int .i64 (mp : Int) :: bys dp) _ 53 rfl rfl g1'' (by rw [HL2.out, List.size_toArray, HL.out]) (by rw [HL2.out]; exact size53) hone2 ?_; intro w5 p1 p2 p3 p4; have hb3 := HB2.out.trans (HB3.out.mono HB2.out.size); have hb4 := hb3.trans (HB4.out.mono hb3.size); have HB5 := Lib.hid (p4 _ _ hg7 hb4); have hsz5 := p3; have c0 : w5.cell? ⟨w1.heap.size, 0, none⟩ = some (.int .i64 (mp : Int)) := (cell_of_row w5 _ 0 _ 53 (0, 0) p1).trans (by simp); clear p2 p3 p4 hb3 hb4)
      | (refine wpList_load_row rfl 53 _ rfl w1.heap.size rfl 53 _ (0, 0) _ p1 Try.underlying53 rfl (by simp only [List.size_toArray]; rw [HL2.out]; exact size53) ?_)
      | (refine Kd.event_run rfl (exec_eql53 (x := .tmp 30) (y := .tmp 31) (m := (mp : Int)) (d := dp) rfl rfl (by rw [zrow]; rfl) HDP.out HBZ.out) ?_))
    have hg9 : w.heap.size ≤ w4.heap.size := by have := HB5.out.size; omega
    have sz0 : ((w5.alloc (.cells #[.slice none 0 0] 22)).alloc (.cells #[.slice A zs.length cap] 22)).heap.size = w4.heap.size + 1 + 1 := by simp [hsz5]
    have bO : Boxed ((w5.alloc (.cells #[.slice none 0 0] 22)).alloc (.cells #[.slice A zs.length cap] 22)) w4.heap.size 22 (.slice none 0 0) := by
      have := (Boxed.new w5 22 (.slice none 0 0)).alloc (.cells #[.slice A zs.length cap] 22)
      rwa [hsz5] at this
    have b5 : ((w5.alloc (.cells #[.slice none 0 0] 22)).alloc (.cells #[.slice A zs.length cap] 22)).heap[w4.heap.size + 1]? = some (.cells #[.slice A zs.length cap] 22 (0, 0)) := blk_new (by simp [hsz5])
    have hB0 : Below w.heap.size w ((w5.alloc (.cells #[.slice none 0 0] 22)).alloc (.cells #[.slice A zs.length cap] 22)) := (HB5.out.alloc HB5.out.size _).alloc (by simp; omega) _
    have hO : OutC w.heap.size w4.heap.size [] ((w5.alloc (.cells #[.slice none 0 0] 22)).alloc (.cells #[.slice A zs.length cap] 22)) := ⟨_, bO, Kd.S_nil _ _ _ _ _⟩
    generalize (w5.alloc (.cells #[.slice none 0 0] 22)).alloc (.cells #[.slice A zs.length cap] 22) = W0 at *
    generalize w1.heap.size = g7 at *
    generalize w4.heap.size = g9 at *
    clear bO g1 g1' g1'' p1 c0 HB2 HB3 HB4 HB5 HB1 hs2 hsz5 hg7
    refine (wpIn_wide (n := 3)).1 (wpIn_rangeFunc_ownH (F := Fence.wide) (n := 3) rfl (by omega) (gf := 38) (lb := #[.pointer (some ⟨g9 + 1, 0, none⟩)]) rfl trivial (enters_of Try.func38 (by kernel_rfl) rfl)
      (iter_stops (fun x : FRow => x.1) (3 - 1) (g9 + 1) w.heap.size A cap fz W0 (by omega) (by omega) (by rw [HFL.out]; exact (cell_of_row W0 _ 0 _ 22 (0, 0) b5).trans rfl) (fun W' h => by rw [HFL.out]; rw [show fz.map (fun x : FRow => x.1) = zs from HFZ.out]; exact Kd.C_below HR.out (hB0.trans h))) belowK_t (belowK_b (by omega)) (Below.refl _ _) (fun _ => rfl)
      (fun (pre : List FRow) W => OutC w.heap.size g9 (pre.map Subtype.val) W ∧ Below w.heap.size w W ∧ W0.heap.size ≤ W.heap.size)
      (fun _ _ _ => False)
      (fun s X Y row hs hg hr => by
        obtain ⟨h1, h2, h3⟩ := hs
        exact ⟨outC_round h1 hg hr, h2.grown hg (by have := h2.size; omega) (fun k e => by have := (hr k e).1; omega), Nat.le_trans h3 hg.size⟩)
      (fun _ _ _ _ _ hs _ _ => hs)
      ⟨hO, hB0, Nat.le_refl _⟩
      (fun x a' Z => ∃ Bx, W0.heap.size ≤ Bx ∧ Z.heap[Bx]? = some (.cells (.int .i64 (x.m : Int) :: bys x.1.f1).toArray 53 (0, 0)) ∧ a' = { tmps := #[.slice A zs.length cap, .agg #[.int .i64 (mn : Int), .slice A1 ds.length c1], undef, .pointer (some ⟨w.heap.size, 0, none⟩), .slice none 0 0, .bool false, .int .i64 0, .pointer (some ⟨g7, 0, none⟩), .bool true, .pointer (some ⟨g9, 0, none⟩), .pointer (some ⟨Bx, 0, none⟩), undef, undef, undef, .tuple #[.agg (.int .i64 (mn : Int) :: bys ds).toArray, .bool true], .agg #[.int .i64 (mn : Int), .slice A1 ds.length c1], .tuple #[.agg (.int .i64 (mn : Int) :: bys ds).toArray, .bool true], .agg (.int .i64 (mn : Int) :: bys ds).toArray, .bool true, .slice A zs.length cap, .bool true, .bool false, .bool false, .bool true, .bool false, .bool false, .slice A zs.length cap, .agg (.int .i64 (mn : Int) :: bys ds).toArray, .agg (.int .i64 (mp : Int) :: bys dp).toArray, .bool true, .agg (.int .i64 (mp : Int) :: bys dp).toArray, .agg #[.int .i64 0, .int .u8 0, .int .u8 0, .int .u8 0, .int .u8 0, .int .u8 0, .int .u8 0, .int .u8 0, .int .u8 0, .int .u8 0, .int .u8 0, .int .u8 0, .int .u8 0, .int .u8 0, .int .u8 0, .int .u8 0, .int .u8 0], .bool true, .slice A zs.length cap, .func (.func 38) #[] #[.pointer (some ⟨g9 + 1, 0, none⟩)], .agg (.int .i64 (x.m : Int) :: bys x.1.f1).toArray, .bool true, undef, undef, undef, undef, undef, undef, undef, undef, undef, undef, undef, undef, undef, undef, undef, undef, undef, undef, undef, undef, undef, undef, undef, undef, undef, undef, undef, undef, undef, undef, undef, undef, undef, undef, undef, undef, undef, undef, undef, undef, undef, undef, undef, undef, undef, undef, undef, undef, undef, undef, undef, undef, undef, undef, undef, undef, undef, undef], defers := [] })
      (fun x a' s X Y row hs hg hr => by obtain ⟨Bx, h1, h2, h3⟩ := hs; exact ⟨Bx, h1, keep_block h2 hg hr, h3⟩)
      ?assign ?body ?done ?stop)
    case assign =>
      intro l pre x U K hI hK
      have hsp := x.spec
      have he : encE x.1 = #[.agg (.int .i64 (x.m : Int) :: bys x.1.f1).toArray, .bool true] := by
        unfold encE; rw [pad16_of _ hsp.2.2, x.2, x.m_eq]
      rw [he]
      have hout : ¬ LetsOut (Exit.then K (fun _ _ _ => False)) := fun ⟨_, _, h⟩ => h
      refine plain_in (by rfl) hout ?_
      simp only [List.zip_toArray, List.zip_cons_cons, List.zip_nil_right, List.foldl_toArray, List.foldl_cons, List.foldl_nil, List.setIfInBounds_toArray, List.set_cons_zero, List.set_cons_succ]
      have hl17 : (Value.int .i64 (x.m : Int) :: bys x.1.f1).length = 17 := by rw [List.length_cons, bys_len, hsp.2.2]
      have H17 := Lib.hid hl17
      have hone : ∀ v ∈ Value.int .i64 (x.m : Int) :: bys x.1.f1, v.oneCell' = true := eq_one _ _
      have HK2 := Lib.hid hK
      have HI := Lib.hid hI
      clear hl17 hsp he hK hI
      go_wp2_with (first | (refine wpList_store_row rfl 53 _ _ rfl U.heap.size (.int .i64 (x.m : Int) :: bys x.1.f1) _ 53 rfl rfl (blk_new rfl) (by rw [H17.out]; rfl) (by rw [H17.out]; exact size53) hone ?_; intro w1 g1 g2 g3 g4))
      obtain ⟨i1, i4, i5⟩ := HI.out
      have hwW := i4.size
      have hB1 : Below w.heap.size U w1 := g4 _ _ hwW ((Below.refl _ _).alloc hwW _)
      have hB1' : Below U.heap.size U w1 := g4 _ _ (Nat.le_refl _) ((Below.refl _ _).alloc (Nat.le_refl _) _)
      exact HK2.out _ _ ((keeps_of_below ((Below.refl _ U).alloc (Nat.le_refl _) _) _).trans (keeps_of_cells (blk_new rfl) g2 g3 _)) hB1
        ⟨outC_below i1 hB1', i4.trans hB1, by rw [g3]; simp; omega⟩ ⟨U.heap.size, i5, g1, rfl⟩
    case body =>
      rintro l pre x a' U hl hrec ⟨⟨v, hbv, hSv⟩, hB2, hz2⟩ ⟨Bx, hBx, hx, rfl⟩ hlen2
      have hwW := hB2.size
      have hxs := x.spec
      have hi17 : (Try.prog.info? 53).map (·.size) = some (Value.int .i64 (x.m : Int) :: bys x.1.f1).length := by rw [List.length_cons, bys_len, hxs.2.2]; exact size53
      have cO := hbv.cell
      have HX := Lib.hid hx
      have HXS := Lib.hid hxs
      have HI17 := Lib.hid hi17
      have BV := Lib.hid hbv
      have HSV := Lib.hid hSv
      have HLEN : pre.length < 1000000 := by have := HFL.out; omega
      clear hx hi17 hbv hSv hrec hxs hO b5
      refine wpIn_block ?_
      have hout : ¬ LetsOut (Exit.inBlock 2 (ownPostG W0.heap.size (Below w.heap.size)
        (fun (pre : List FRow) W => OutC w.heap.size g9 (pre.map Subtype.val) W ∧ Below w.heap.size w W ∧ W0.heap.size ≤ W.heap.size)
        (fun _ _ _ => False) (pre ++ [x]) U)) := fun ⟨_, _, h⟩ => h
      refine start_in (m := 6) (S := (fun V => V.cell? ⟨g9, 0, none⟩ = some v ∧ V.heap[Bx]? = some (.cells (.int .i64 (x.m : Int) :: bys x.1.f1).toArray 53 (0, 0)) ∧ Below U.heap.size U V)) (ds := [4, 5]) #[false, false, false, false, false, false] (by kernel_rfl) (by rfl) hout rfl rfl ⟨cO, HX.out, (Below.refl _ _).drew⟩ (fun hHeld => ?_)
      refine take_ (i := 0) (N := some 37) (v := ?_) (a' := ?_) #[true, false, false, false, false, false] rfl rfl (by kernel_rfl) (fun _ _ _ h => h) (Or.inl ⟨by rfl, ?_⟩) hHeld ?_ ?_
      rotate_left
      · rintro w' ⟨s0, s1, s2⟩
        go_simp
        with_reducible rfl
      rotate_left
      · simp only [Act.put, List.setIfInBounds_toArray, List.set_cons_zero, List.set_cons_succ, i64_w, i32_w]
        rfl
      refine take_ (i := 1) (N := some 38) (v := _) (a' := ?_) #[true, true, false, false, false, false] rfl rfl (by kernel_rfl) (fun _ _ _ h => h) (row_if (by rfl) 53 _ rfl Bx rfl (.int .i64 (x.m : Int) :: bys x.1.f1) 53 _ (fun _ hS => hS.2.1) Try.underlying53 rfl HI17.out) hHeld ?_ ?_
      rotate_left
      · simp only [Act.put, List.setIfInBounds_toArray, List.set_cons_zero, List.set_cons_succ, i64_w, i32_w]
        rfl
      refine one_ (i := 2) (N := some 39) #[true, true, true, false, false, false] rfl rfl (by kernel_rfl) (by decide) (fun K hK => ?_)
      refine goes_ Try.func31 (by kernel_rfl) rfl #[.agg (.int .i64 (x.m : Int) :: bys x.1.f1).toArray] (by rfl) rfl rfl (by simp only [List.map_toArray, List.map_cons, List.map_nil]; rfl) ?_
      refine (row_calls (x.m : Int) x.1.f1 HXS.out.2.2 _).mono ?_
      rintro e u ⟨gr, hg1, rfl, hg3, hb⟩
      refine ⟨_, rfl, ?_⟩
      obtain ⟨s0, s1, s2⟩ := hHeld
      have hgrU : U.heap.size ≤ gr := Nat.le_trans s2.size hg1
      have t2 := s2.trans (hb.mono s2.size)
      have HG3 := Lib.hid hg3
      refine hK.out _ _ ⟨(hb.cell (World.block_lt_of_cell? _ _ s0)).trans s0, (hb.block _ (Array.getElem?_eq_some_iff.1 s1).1).trans s1, t2⟩ (fun hHeld => ?_)
      clear hK K s0 s1 s2 t2 hb hg1 hg3
      refine norm_ (a' := ?_) ?_ ?_
      rotate_left
      · show Act.put _ (some 39) _ = _
        simp only [Act.put, List.setIfInBounds_toArray, List.set_cons_zero, List.set_cons_succ, i64_w, i32_w]
        rfl
      refine one_ (i := 3) (N := some 40) #[true, true, true, true, false, false] rfl rfl (by kernel_rfl) (by decide) (fun K hK => ?_)
      obtain ⟨s0, s1, s2⟩ := hHeld
      refine event_step (by rfl) (exec_bs rfl (vs := #[(0, .agg #[.int .i64 (x.m : Int), .slice (some ⟨gr, 0, none⟩) 16 16])]) (by simp only [List.map_toArray, List.map_cons, List.map_nil]; rfl) (run_bs _ gr u)) ?_
      have HU2 := Lib.hid s2
      have ha := (Below.refl u.heap.size u).alloc (Nat.le_refl _) (.cells #[.int .i64 (x.m : Int), .slice (some ⟨gr, 0, none⟩) 16 16] 25)
      refine hK.out _ _ ⟨(ha.cell (World.block_lt_of_cell? _ _ s0)).trans s0, (ha.block _ (Array.getElem?_eq_some_iff.1 s1).1).trans s1, s2.trans (ha.mono s2.size)⟩ (fun hHeld => ?_)
      clear hK K s0 s1 s2 ha
      refine norm_ (a' := ?_) ?_ ?_
      rotate_left
      · show Act.put _ (some 40) _ = _
        simp only [Act.put, List.setIfInBounds_toArray, List.set_cons_zero, List.set_cons_succ, i64_w, i32_w]
        rfl
      refine last_ (i := 4) (N := some 41) #[true, true, true, true, true, false] rfl rfl (by kernel_rfl) (by decide) (fun K hK => ?_)
      have s2 := HU2.out
      have hus := s2.size
      refine app_step (by rfl) (.tmp 37) (.tmp 40) rfl U u w.heap.size v (pre.map Subtype.val) (x.m : Int) x.1.f1 gr rfl rfl (Kd.S_mono (Kd.S_below (Kd.S_bound HSV.out) s2) (fun k hk => by have := hk.2.2.1; omega)) HG3.out (by omega) HXS.out.2.2 (s2.mono hwW) (by omega) (by simp only [List.length_map]; omega) ?_
      intro v1 w1 h1 h2 h3 h4
      obtain ⟨A', c', rfl⟩ := Kd.R_slice (Kd.S_R h1)
      have bv1 : Boxed w1 g9 22 v := h4 _ _ (boxed_block BV.out s2) (fun cs e => by cases e)
      refine hK.out _ _ ?_
      clear hK K
      refine norm_ (a' := ?_) ?_ ?_
      rotate_left
      · show Act.put _ (some 41) _ = _
        simp only [Act.put, List.setIfInBounds_toArray, List.set_cons_zero, List.set_cons_succ, i64_w, i32_w]
        rfl
      refine last_ (i := 5) (N := none) #[true, true, true, true, true, true] rfl rfl (by kernel_rfl) (by decide) (fun K hK => ?_)
      refine store_step (by rfl) rfl rfl rfl rfl (run_st22 g9 v w1 A' _ c' bv1) ?_
      refine hK.out _ _ ?_
      refine done_ (by kernel_rfl) ?_
      have hs2 := HU2.out.size
      have hBf : Below w.heap.size U (w1.setCell ⟨g9, 0, none⟩ (.slice A' (List.map Subtype.val pre ++ [(⟨(x.m : Int), x.1.f1⟩ : S25)]).length c')) := h2.setCell (p := ⟨g9, 0, none⟩) hg9 _
      refine ⟨((keeps_of_below HU2.out _).trans (keeps_app h3 h4 _)).trans (keeps_set bv1 _ _), hBf, ⟨⟨_, bv1.set _, ?_⟩, hB2.trans hBf, ?_⟩⟩
      · have := S_own h1 bv1 (.slice A' (List.map Subtype.val pre ++ [(⟨(x.m : Int), x.1.f1⟩ : S25)]).length c')
        rw [rowE_m] at this
        rw [List.map_append, rowE_m]
        exact this
      · rw [World.size_setCell]; omega
    case done =>
      rintro D xs U hD hxs ⟨⟨v, hbv, hSv⟩, hB2, hz2⟩ hKm
      have hx2 : xs.map Subtype.val = zs := by rw [hxs]; exact HFZ.out
      rw [hx2] at hSv
      have cO := hbv.cell
      have HSV := Lib.hid hSv
      have HKm := Lib.hid hKm
      clear hxs hx2 hSv hbv hKm hO b5
      go_wp2
      have hbk := belowK_b (w := w) (Nat.le_refl _) U D _ (.deferred none) (by omega) HKm.out rfl rfl
      refine ⟨by simp, .inl ⟨_, _, rfl, run_takeDeferred HKm.out, ?_⟩⟩
      obtain ⟨A', c', rfl⟩ := Kd.R_slice (Kd.S_R HSV.out)
      refine ⟨.tuple #[.slice A' zs.length c', .bool false, .int .i64 0], by simp [results, Try.results12, go_sem], ?_⟩
      rw [HANS.out]
      refine ⟨_, rfl, Kd.S_mono (Kd.S_step (Kd.S_bound HSV.out) (fun k hk _ => World.putObj_heap_other (fun e => ?_))) (fun _ _ => trivial), hB2.trans hbk⟩
      obtain ⟨_, _, _, q, _, cells, hc⟩ := hk
      have := HKm.out
      subst e
      rw [hc] at this
      cases this
    case stop =>
      rintro D c pre W _ _ h _
      exact h.elim
  cases b0
  rotate_left
  · -- against the rows
    have hans : addS zs (mn : Int) ds = ([], false, 12) := by
      have h0 := HCS.out.2.1 rfl
      rw [HS.out, if_neg (fun h => by injection h with h1 h2; have := HCS.out.1.2 ⟨h1, h2⟩; cases this), if_pos h0]
    have HANS := Lib.hid hans
    clear hans
    go_wp2_with (first
      | (go_at_call 28; refine (formed_calls (mn : Int) A1 c1 ds _ (Kd.C_below HX.out (HBA.out _))).mono ?_; rw [HP16.out, hf]; rintro e w1 ⟨rfl, hb1⟩; have HB1 := Lib.hid hb1; clear hb1)
      | (refine wpList_store_row rfl 53 _ _ rfl _ (.int .i64 (mn : Int) :: bys ds) _ 53 rfl rfl (blk_new rfl) (by rw [HL.out]; rfl) (by rw [HL.out]; exact size53) hone ?_; intro w2 g1 g2 g3 g4; have hb2 := (HBA.out (.cells #[.int .i64 (mn : Int), .slice A1 ds.length c1] 25)).trans (HB1.out.mono (HBA.out _).size); have HB2 := Lib.hid (g4 _ _ hb2.size (hb2.alloc hb2.size _)); have hg7 := hb2.size; have hs2 : w2.heap.size = w1.heap.size + 1 := (by rw [g3]; simp); clear g2 g3 g4 hb2)
      | (go_at_call 30; refine (equations_calls _ _ _ _).mono ?_; rintro e w' ⟨rfl, rfl⟩)
      | (go_at_call 20; refine (valid_calls A cap zs _ (Kd.C_below HR.out HB2.out)).mono ?_; rw [HV.out]; rintro e w3 ⟨rfl, hb3⟩; have HB3 := Lib.hid hb3; have g1' := (hb3.block _ (Array.getElem?_eq_some_iff.1 g1).1).trans g1; clear hb3)
      | (refine wpList_load_row rfl 53 _ rfl w1.heap.size rfl 53 _ (0, 0) _ g1' Try.underlying53 rfl (by simp only [List.size_toArray]; rw [HL.out]; exact size53) ?_)
      | (go_at_call 29; refine (HRED.out _ (HB2.out.trans (HB3.out.mono HB2.out.size))).mono ?_; rintro e w4 ⟨rfl, hb4⟩; have HB4 := Lib.hid hb4; have g1'' := (hb4.block _ (Array.getElem?_eq_some_iff.1 g1').1).trans g1'; clear hb4)
      | (refine wpList_store_row rfl 53 _ _ rfl w1.heap.size (.int .i64 (mp : Int) :: bys dp) _ 53 rfl rfl g1'' (by rw [HL2.out, List.size_toArray, HL.out]) (by rw [HL2.out]; exact size53) hone2 ?_; intro w5 p1 p2 p3 p4; have hb3 := HB2.out.trans (HB3.out.mono HB2.out.size); have hb4 := hb3.trans (HB4.out.mono hb3.size); have HB5 := Lib.hid (p4 _ _ hg7 hb4); have hsz5 := p3; have c0 : w5.cell? ⟨w1.heap.size, 0, none⟩ = some (.int .i64 (mp : Int)) := (cell_of_row w5 _ 0 _ 53 (0, 0) p1).trans (by simp); clear p2 p3 p4 hb3 hb4)
      | (refine wpList_load_row rfl 53 _ rfl w1.heap.size rfl 53 _ (0, 0) _ p1 Try.underlying53 rfl (by simp only [List.size_toArray]; rw [HL2.out]; exact size53) ?_)
      | (refine Kd.event_run rfl (exec_eql53 (x := .tmp 30) (y := .tmp 31) (m := (mp : Int)) (d := dp) rfl rfl (by rw [zrow]; rfl) HDP.out HBZ.out) ?_))
    refine ⟨.tuple #[.slice none 0 0, .bool false, .int .i64 12], by simp [results, Try.results12, go_sem], ?_⟩
    rw [HANS.out]
    exact ⟨_, rfl, Kd.S_nil _ _ _ _ _, HB5.out⟩
  · -- new
    have hans : addS zs (mn : Int) ds = (insS (mp, dp) zs, true, 0) := by
      rw [HS.out, if_neg (fun h => by injection h with h1 h2; have := HCS.out.1.2 ⟨h1, h2⟩; cases this), if_neg (fun h => by have := HCS.out.2.2 h; cases this)]
    have HANS := Lib.hid hans
    clear hans
    go_wp2_with (first
      | (go_at_call 28; refine (formed_calls (mn : Int) A1 c1 ds _ (Kd.C_below HX.out (HBA.out _))).mono ?_; rw [HP16.out, hf]; rintro e w1 ⟨rfl, hb1⟩; have HB1 := Lib.hid hb1; clear hb1)
      | (refine wpList_store_row rfl 53 _ _ rfl _ (.int .i64 (mn : Int) :: bys ds) _ 53 rfl rfl (blk_new rfl) (by rw [HL.out]; rfl) (by rw [HL.out]; exact size53) hone ?_; intro w2 g1 g2 g3 g4; have hb2 := (HBA.out (.cells #[.int .i64 (mn : Int), .slice A1 ds.length c1] 25)).trans (HB1.out.mono (HBA.out _).size); have HB2 := Lib.hid (g4 _ _ hb2.size (hb2.alloc hb2.size _)); have hg7 := hb2.size; have hs2 : w2.heap.size = w1.heap.size + 1 := (by rw [g3]; simp); clear g2 g3 g4 hb2)
      | (go_at_call 30; refine (equations_calls _ _ _ _).mono ?_; rintro e w' ⟨rfl, rfl⟩)
      | (go_at_call 20; refine (valid_calls A cap zs _ (Kd.C_below HR.out HB2.out)).mono ?_; rw [HV.out]; rintro e w3 ⟨rfl, hb3⟩; have HB3 := Lib.hid hb3; have g1' := (hb3.block _ (Array.getElem?_eq_some_iff.1 g1).1).trans g1; clear hb3)
      | (refine wpList_load_row rfl 53 _ rfl w1.heap.size rfl 53 _ (0, 0) _ g1' Try.underlying53 rfl (by simp only [List.size_toArray]; rw [HL.out]; exact size53) ?_)
      | (go_at_call 29; refine (HRED.out _ (HB2.out.trans (HB3.out.mono HB2.out.size))).mono ?_; rintro e w4 ⟨rfl, hb4⟩; have HB4 := Lib.hid hb4; have g1'' := (hb4.block _ (Array.getElem?_eq_some_iff.1 g1').1).trans g1'; clear hb4)
      | (refine wpList_store_row rfl 53 _ _ rfl w1.heap.size (.int .i64 (mp : Int) :: bys dp) _ 53 rfl rfl g1'' (by rw [HL2.out, List.size_toArray, HL.out]) (by rw [HL2.out]; exact size53) hone2 ?_; intro w5 p1 p2 p3 p4; have hb3 := HB2.out.trans (HB3.out.mono HB2.out.size); have hb4 := hb3.trans (HB4.out.mono hb3.size); have HB5 := Lib.hid (p4 _ _ hg7 hb4); have hsz5 := p3; have c0 : w5.cell? ⟨w1.heap.size, 0, none⟩ = some (.int .i64 (mp : Int)) := (cell_of_row w5 _ 0 _ 53 (0, 0) p1).trans (by simp); clear p2 p3 p4 hb3 hb4)
      | (refine wpList_load_row rfl 53 _ rfl w1.heap.size rfl 53 _ (0, 0) _ p1 Try.underlying53 rfl (by simp only [List.size_toArray]; rw [HL2.out]; exact size53) ?_)
      | (refine Kd.event_run rfl (exec_eql53 (x := .tmp 30) (y := .tmp 31) (m := (mp : Int)) (d := dp) rfl rfl (by rw [zrow]; rfl) HDP.out HBZ.out) ?_))
    have hg9 : w.heap.size ≤ w4.heap.size := by have := HB5.out.size; omega
    have h74 : w1.heap.size < w4.heap.size := by have h1 := HB3.out.size; have h2 := HB4.out.size; omega
    have hPO := (((Boxed.new w5 22 (.slice none 0 0)).alloc (.cells #[.bool false] 4)).alloc (.cells #[.slice A zs.length cap] 22))
    have hPP := ((Boxed.new (w5.alloc (.cells #[.slice none 0 0] 22)) 4 (.bool false)).alloc (.cells #[.slice A zs.length cap] 22))
    have sz0 : (((w5.alloc (.cells #[.slice none 0 0] 22)).alloc (.cells #[.bool false] 4)).alloc (.cells #[.slice A zs.length cap] 22)).heap.size = w4.heap.size + 1 + 1 + 1 := by simp [hsz5]
    have b5 : (((w5.alloc (.cells #[.slice none 0 0] 22)).alloc (.cells #[.bool false] 4)).alloc (.cells #[.slice A zs.length cap] 22)).heap[w4.heap.size + 1 + 1]? = some (.cells #[.slice A zs.length cap] 22 (0, 0)) := blk_new (by simp [hsz5])
    have hB0 : Below w.heap.size w (((w5.alloc (.cells #[.slice none 0 0] 22)).alloc (.cells #[.bool false] 4)).alloc (.cells #[.slice A zs.length cap] 22)) := ((HB5.out.alloc HB5.out.size _).alloc (by simp; omega) _).alloc (by simp; omega) _
    have h7 : (((w5.alloc (.cells #[.slice none 0 0] 22)).alloc (.cells #[.bool false] 4)).alloc (.cells #[.slice A zs.length cap] 22)).heap[w1.heap.size]? = some (.cells (.int .i64 (mp : Int) :: bys dp).toArray 53 (0, 0)) := by
      rw [Below.heap_alloc _ _ _ (by simp; omega), Below.heap_alloc _ _ _ (by simp; omega), Below.heap_alloc _ _ _ (by omega)]; exact p1
    simp only [World.size_alloc, hsz5] at hPO hPP
    have hO : OutC w.heap.size w4.heap.size [] (((w5.alloc (.cells #[.slice none 0 0] 22)).alloc (.cells #[.bool false] 4)).alloc (.cells #[.slice A zs.length cap] 22)) := ⟨_, hPO, Kd.S_nil _ _ _ _ _⟩
    generalize ((w5.alloc (.cells #[.slice none 0 0] 22)).alloc (.cells #[.bool false] 4)).alloc (.cells #[.slice A zs.length cap] 22) = W0 at *
    have hg7' : w.heap.size ≤ w1.heap.size := hg7
    clear hPO g1 g1' g1'' p1 c0 HB2 HB3 HB4 HB5 HB1 hs2 hsz5 hg7
    generalize w1.heap.size = g7 at *
    generalize w4.heap.size = g11 at *
    refine (wpIn_wide (n := 3)).1 (wpIn_rangeFunc_ownH (F := Fence.wide) (n := 3) rfl (by omega) (gf := 38) (lb := #[.pointer (some ⟨g11 + 1 + 1, 0, none⟩)]) rfl trivial (enters_of Try.func38 (by kernel_rfl) rfl)
      (iter_stops (fun x : FRow => x.1) (3 - 1) (g11 + 1 + 1) w.heap.size A cap fz W0 (by omega) (by omega) (by rw [HFL.out]; exact (cell_of_row W0 _ 0 _ 22 (0, 0) b5).trans rfl) (fun W' h => by rw [HFL.out]; rw [show fz.map (fun x : FRow => x.1) = zs from HFZ.out]; exact Kd.C_below HR.out (hB0.trans h))) belowK_t (belowK_b (by omega)) (Below.refl _ _) (fun _ => rfl)
      (fun (pre : List FRow) W => W.heap[g7]? = some (.cells (.int .i64 (mp : Int) :: bys dp).toArray 53 (0, 0)) ∧ Boxed W (g11 + 1) 4 (.bool (insL (mp, dp) (pre.map Subtype.val)).2) ∧ OutC w.heap.size g11 (insL (mp, dp) (pre.map Subtype.val)).1 W ∧ Below w.heap.size w W ∧ W0.heap.size ≤ W.heap.size)
      (fun _ _ _ => False)
      (fun s X Y row hs hg hr => by
        obtain ⟨h0, h1, h2, h3, h4⟩ := hs
        exact ⟨keep_block h0 hg hr, boxed_keep h1 hg hr, outC_round h2 hg hr, h3.grown hg (by have := h3.size; omega) (fun k e => by have := (hr k e).1; omega), Nat.le_trans h4 hg.size⟩)
      (fun _ _ _ _ _ hs _ _ => hs)
      ⟨h7, hPP, hO, hB0, Nat.le_refl _⟩
      (fun x a' Z => ∃ Bx, W0.heap.size ≤ Bx ∧ Z.heap[Bx]? = some (.cells (.int .i64 (x.m : Int) :: bys x.1.f1).toArray 53 (0, 0)) ∧ a' = { tmps := #[.slice A zs.length cap, .agg #[.int .i64 (mn : Int), .slice A1 ds.length c1], undef, .pointer (some ⟨w.heap.size, 0, none⟩), .slice none 0 0, .bool false, .int .i64 0, .pointer (some ⟨g7, 0, none⟩), .bool true, undef, undef, .pointer (some ⟨g11, 0, none⟩), .pointer (some ⟨g11 + 1, 0, none⟩), .pointer (some ⟨Bx, 0, none⟩), .tuple #[.agg (.int .i64 (mn : Int) :: bys ds).toArray, .bool true], .agg #[.int .i64 (mn : Int), .slice A1 ds.length c1], .tuple #[.agg (.int .i64 (mn : Int) :: bys ds).toArray, .bool true], .agg (.int .i64 (mn : Int) :: bys ds).toArray, .bool true, .slice A zs.length cap, .bool true, .bool false, .bool false, .bool true, .bool false, .bool false, .slice A zs.length cap, .agg (.int .i64 (mn : Int) :: bys ds).toArray, .agg (.int .i64 (mp : Int) :: bys dp).toArray, .bool false, .agg (.int .i64 (mp : Int) :: bys dp).toArray, .agg #[.int .i64 0, .int .u8 0, .int .u8 0, .int .u8 0, .int .u8 0, .int .u8 0, .int .u8 0, .int .u8 0, .int .u8 0, .int .u8 0, .int .u8 0, .int .u8 0, .int .u8 0, .int .u8 0, .int .u8 0, .int .u8 0, .int .u8 0], .bool false, undef, undef, undef, undef, undef, undef, undef, undef, undef, undef, .bool false, .pointer (some ⟨g7, 0, none⟩), .int .i64 (mp : Int), .bool false, .slice A zs.length cap, .func (.func 38) #[] #[.pointer (some ⟨g11 + 1 + 1, 0, none⟩)], .agg (.int .i64 (x.m : Int) :: bys x.1.f1).toArray, .bool true, undef, undef, undef, undef, undef, undef, undef, undef, undef, undef, undef, undef, undef, undef, undef, undef, undef, undef, undef, undef, undef, undef, undef, undef, undef, undef, undef, undef, undef, undef, undef, undef, undef, undef, undef, undef, undef, undef, undef, undef, undef, undef, undef, undef], defers := [] })
      (fun x a' s X Y row hs hg hr => by obtain ⟨Bx, h1, h2, h3⟩ := hs; exact ⟨Bx, h1, keep_block h2 hg hr, h3⟩)
      ?assign ?body ?done ?stop)
    case assign =>
      intro l pre x U K hI hK
      have hsp := x.spec
      have he : encE x.1 = #[.agg (.int .i64 (x.m : Int) :: bys x.1.f1).toArray, .bool true] := by
        unfold encE; rw [pad16_of _ hsp.2.2, x.2, x.m_eq]
      rw [he]
      have hout : ¬ LetsOut (Exit.then K (fun _ _ _ => False)) := fun ⟨_, _, h⟩ => h
      refine plain_in (by rfl) hout ?_
      simp only [List.zip_toArray, List.zip_cons_cons, List.zip_nil_right, List.foldl_toArray, List.foldl_cons, List.foldl_nil, List.setIfInBounds_toArray, List.set_cons_zero, List.set_cons_succ]
      have hl17 : (Value.int .i64 (x.m : Int) :: bys x.1.f1).length = 17 := by rw [List.length_cons, bys_len, hsp.2.2]
      have H17 := Lib.hid hl17
      have hone : ∀ v ∈ Value.int .i64 (x.m : Int) :: bys x.1.f1, v.oneCell' = true := eq_one _ _
      have HK2 := Lib.hid hK
      have HI := Lib.hid hI
      clear hl17 hsp he hK hI
      go_wp2_with (first | (refine wpList_store_row rfl 53 _ _ rfl U.heap.size (.int .i64 (x.m : Int) :: bys x.1.f1) _ 53 rfl rfl (blk_new rfl) (by rw [H17.out]; rfl) (by rw [H17.out]; exact size53) hone ?_; intro w1 g1 g2 g3 g4))
      obtain ⟨i0, i1, i2, i4, i5⟩ := HI.out
      have hwW := i4.size
      have hB1 : Below w.heap.size U w1 := g4 _ _ hwW ((Below.refl _ _).alloc hwW _)
      have hB1' : Below U.heap.size U w1 := g4 _ _ (Nat.le_refl _) ((Below.refl _ _).alloc (Nat.le_refl _) _)
      exact HK2.out _ _ ((keeps_of_below ((Below.refl _ U).alloc (Nat.le_refl _) _) _).trans (keeps_of_cells (blk_new rfl) g2 g3 _)) hB1
        ⟨(hB1'.block _ (Array.getElem?_eq_some_iff.1 i0).1).trans i0, boxed_block i1 hB1', outC_below i2 hB1', i4.trans hB1, by rw [g3]; simp; omega⟩ ⟨U.heap.size, i5, g1, rfl⟩
    case body =>
      rintro l pre x a' U hl hrec ⟨h7U, hbP, hOut, hB2, hz2⟩ ⟨Bx, hBx, hx, rfl⟩ hlen2
      have hwW := hB2.size
      have hxs := x.spec
      have hmx := x.m_lt
      have hll := lead_lt x.m hmx
      have hll2 := lead_lt mp hmp
      have hi17 : (Try.prog.info? 53).map (·.size) = some (Value.int .i64 (x.m : Int) :: bys x.1.f1).length := by rw [List.length_cons, bys_len, hxs.2.2]; exact size53
      have HXS := Lib.hid hxs
      have HI17 := Lib.hid hi17
      have hi17' : (Try.prog.info? 53).map (·.size) = some (Value.int .i64 (mp : Int) :: bys dp).length := by rw [HL2.out]; exact size53
      have HI7 := Lib.hid hi17'
      have HLEN : pre.length < 1000000 := by have := HFL.out; omega
      have hsn : insL (mp, dp) ((pre ++ [x]).map Subtype.val) = insStep (mp, dp) (insL (mp, dp) (pre.map Subtype.val)) x.1 := by simp [insL]
      have hil : ∀ p : List S25, (insL (mp, dp) p).1.length ≤ 2 * p.length := insL_len (mp, dp)
      have hil2 := hil (pre.map Subtype.val)
      rw [List.length_map] at hil2
      generalize hst : insL (mp, dp) (pre.map Subtype.val) = st at hbP hOut hsn hil2
      obtain ⟨xs0, pl⟩ := st
      simp only at hbP hOut hil2
      have HSN := Lib.hid hsn
      clear hi17 hi17' hrec hxs hO b5 hPP h7 hsn hst hil
      refine wpIn_block ?_
      refine wpIn_seq_k (fun K1 hK1 => ?_)
      -- what comes behind the first 'if'
      have rest : ∀ (t51 t52 t53 t54 t55 t56 t57 t58 t59 t60 t61 t62 t63 t64 : Value) (U2 : World) (xs2 : List S25) (pl2 : Bool), KeepsFrom W0.heap.size U U2 → Below w.heap.size U U2 → U2.heap[g7]? = some (.cells (.int .i64 (mp : Int) :: bys dp).toArray 53 (0, 0)) →
          U2.heap[Bx]? = some (.cells (.int .i64 (x.m : Int) :: bys x.1.f1).toArray 53 (0, 0)) → Boxed U2 (g11 + 1) 4 (.bool pl2) → OutC w.heap.size g11 xs2 U2 → xs2.length ≤ 3000000 → W0.heap.size ≤ U2.heap.size →
          insL (mp, dp) ((pre ++ [x]).map Subtype.val) = (xs2 ++ [mixE (mp, dp) x.1], pl2) → K1 { tmps := #[.slice A zs.length cap, .agg #[.int .i64 (mn : Int), .slice A1 ds.length c1], undef, .pointer (some ⟨w.heap.size, 0, none⟩), .slice none 0 0, .bool false, .int .i64 0, .pointer (some ⟨g7, 0, none⟩), .bool true, undef, undef, .pointer (some ⟨g11, 0, none⟩), .pointer (some ⟨g11 + 1, 0, none⟩), .pointer (some ⟨Bx, 0, none⟩), .tuple #[.agg (.int .i64 (mn : Int) :: bys ds).toArray, .bool true], .agg #[.int .i64 (mn : Int), .slice A1 ds.length c1], .tuple #[.agg (.int .i64 (mn : Int) :: bys ds).toArray, .bool true], .agg (.int .i64 (mn : Int) :: bys ds).toArray, .bool true, .slice A zs.length cap, .bool true, .bool false, .bool false, .bool true, .bool false, .bool false, .slice A zs.length cap, .agg (.int .i64 (mn : Int) :: bys ds).toArray, .agg (.int .i64 (mp : Int) :: bys dp).toArray, .bool false, .agg (.int .i64 (mp : Int) :: bys dp).toArray, .agg #[.int .i64 0, .int .u8 0, .int .u8 0, .int .u8 0, .int .u8 0, .int .u8 0, .int .u8 0, .int .u8 0, .int .u8 0, .int .u8 0, .int .u8 0, .int .u8 0, .int .u8 0, .int .u8 0, .int .u8 0, .int .u8 0, .int .u8 0], .bool false, undef, undef, undef, undef, undef, undef, undef, undef, undef, undef, .bool false, .pointer (some ⟨g7, 0, none⟩), .int .i64 (mp : Int), .bool false, .slice A zs.length cap, .func (.func 38) #[] #[.pointer (some ⟨g11 + 1 + 1, 0, none⟩)], .agg (.int .i64 (x.m : Int) :: bys x.1.f1).toArray, .bool true, t51, t52, t53, t54, t55, t56, t57, t58, t59, t60, t61, t62, t63, t64, undef, undef, undef, undef, undef, undef, undef, undef, undef, undef, undef, undef, undef, undef, undef, undef, undef, undef, undef, undef, undef, undef, undef, undef, undef, undef, undef, undef, undef, undef], defers := [] } U2 := by
        intro t51 t52 t53 t54 t55 t56 t57 t58 t59 t60 t61 t62 t63 t64 U2 xs2 pl2 hk2 hb2 h72 hx2 hP2 hO2 hl2 hz3 hans
        refine hK1 _ _ ?_
        have hwU2 := hB2.trans hb2
        have hwW2 := hwU2.size
        have c0 : U2.cell? ⟨Bx, 0, none⟩ = some (.int .i64 (x.m : Int)) := (cell_of_row U2 _ 0 _ 53 (0, 0) hx2).trans (by simp)
        have H72 := Lib.hid h72
        have HX2 := Lib.hid hx2
        have HP2 := Lib.hid hP2
        have HO2 := Lib.hid hO2
        have HK2 := Lib.hid hk2
        have HB22 := Lib.hid hb2
        have HANS2 := Lib.hid hans
        clear h72 hx2 hP2 hO2 hk2 hb2 hans
        refine wpIn_seq_k (fun K3 hK3 => ?_)
        have rest2 : ∀ (t51 t52 t53 t54 t55 t56 t57 t58 t59 t60 t61 t62 t63 t64 t65 t66 t67 t68 t69 t70 t71 t72 t73 t74 t75 t76 t77 t78 t79 t80 t81 : Value) (U3 : World) (mr : Nat) (dr : List Int), dr.length = 16 → KeepsFrom W0.heap.size U U3 → Below w.heap.size U U3 → U3.heap[g7]? = some (.cells (.int .i64 (mp : Int) :: bys dp).toArray 53 (0, 0)) →
            U3.heap[Bx]? = some (.cells (.int .i64 (mr : Int) :: bys dr).toArray 53 (0, 0)) → Boxed U3 (g11 + 1) 4 (.bool pl2) → OutC w.heap.size g11 xs2 U3 → W0.heap.size ≤ U3.heap.size →
            mixE (mp, dp) x.1 = ⟨(mr : Int), dr⟩ → K3 { tmps := #[.slice A zs.length cap, .agg #[.int .i64 (mn : Int), .slice A1 ds.length c1], undef, .pointer (some ⟨w.heap.size, 0, none⟩), .slice none 0 0, .bool false, .int .i64 0, .pointer (some ⟨g7, 0, none⟩), .bool true, undef, undef, .pointer (some ⟨g11, 0, none⟩), .pointer (some ⟨g11 + 1, 0, none⟩), .pointer (some ⟨Bx, 0, none⟩), .tuple #[.agg (.int .i64 (mn : Int) :: bys ds).toArray, .bool true], .agg #[.int .i64 (mn : Int), .slice A1 ds.length c1], .tuple #[.agg (.int .i64 (mn : Int) :: bys ds).toArray, .bool true], .agg (.int .i64 (mn : Int) :: bys ds).toArray, .bool true, .slice A zs.length cap, .bool true, .bool false, .bool false, .bool true, .bool false, .bool false, .slice A zs.length cap, .agg (.int .i64 (mn : Int) :: bys ds).toArray, .agg (.int .i64 (mp : Int) :: bys dp).toArray, .bool false, .agg (.int .i64 (mp : Int) :: bys dp).toArray, .agg #[.int .i64 0, .int .u8 0, .int .u8 0, .int .u8 0, .int .u8 0, .int .u8 0, .int .u8 0, .int .u8 0, .int .u8 0, .int .u8 0, .int .u8 0, .int .u8 0, .int .u8 0, .int .u8 0, .int .u8 0, .int .u8 0, .int .u8 0], .bool false, undef, undef, undef, undef, undef, undef, undef, undef, undef, undef, .bool false, .pointer (some ⟨g7, 0, none⟩), .int .i64 (mp : Int), .bool false, .slice A zs.length cap, .func (.func 38) #[] #[.pointer (some ⟨g11 + 1 + 1, 0, none⟩)], .agg (.int .i64 (x.m : Int) :: bys x.1.f1).toArray, .bool true, t51, t52, t53, t54, t55, t56, t57, t58, t59, t60, t61, t62, t63, t64, t65, t66, t67, t68, t69, t70, t71, t72, t73, t74, t75, t76, t77, t78, t79, t80, t81, undef, undef, undef, undef, undef, undef, undef, undef, undef, undef, undef, undef, undef], defers := [] } U3 := by
          intro t51 t52 t53 t54 t55 t56 t57 t58 t59 t60 t61 t62 t63 t64 t65 t66 t67 t68 t69 t70 t71 t72 t73 t74 t75 t76 t77 t78 t79 t80 t81 U3 mr dr hdr hk3 hb3 h73 hx3 hP3 hO3 hz4 hmix
          refine hK3 _ _ ?_
          obtain ⟨v, hbv, hSv⟩ := hO3
          have cO := hbv.cell
          have hwU3 := hB2.trans hb3
          have hwW3 := hwU3.size
          have hi3 : (Try.prog.info? 53).map (·.size) = some (Value.int .i64 (mr : Int) :: bys dr).length := by rw [List.length_cons, bys_len, hdr]; exact size53
          have HI3 := Lib.hid hi3
          have HX3 := Lib.hid hx3
          have H73 := Lib.hid h73
          have HP3 := Lib.hid hP3
          have BV := Lib.hid hbv
          have HSV := Lib.hid hSv
          have HK3 := Lib.hid hk3
          have HB3 := Lib.hid hb3
          clear hi3 hx3 h73 hP3 hbv hSv hk3 hb3 hK3
          have hout : ¬ LetsOut (Exit.inBlock 4 (ownPostG W0.heap.size (Below w.heap.size)
            (fun (pre : List FRow) W => W.heap[g7]? = some (.cells (.int .i64 (mp : Int) :: bys dp).toArray 53 (0, 0)) ∧ Boxed W (g11 + 1) 4 (.bool (insL (mp, dp) (pre.map Subtype.val)).2) ∧ OutC w.heap.size g11 (insL (mp, dp) (pre.map Subtype.val)).1 W ∧ Below w.heap.size w W ∧ W0.heap.size ≤ W.heap.size)
            (fun _ _ _ => False) (pre ++ [x]) U)) := fun ⟨_, _, h⟩ => h
          refine start_in (m := 6) (S := (fun V => V.cell? ⟨g11, 0, none⟩ = some v ∧ V.heap[Bx]? = some (.cells (.int .i64 (mr : Int) :: bys dr).toArray 53 (0, 0)) ∧ Below U3.heap.size U3 V)) (ds := [4, 5]) #[false, false, false, false, false, false] (by kernel_rfl) (by rfl) hout rfl rfl ⟨cO, HX3.out, (Below.refl _ _).drew⟩ (fun hHeld => ?_)
          refine take_ (i := 0) (N := some 82) (v := ?_) (a' := ?_) #[true, false, false, false, false, false] rfl rfl (by kernel_rfl) (fun _ _ _ h => h) (Or.inl ⟨by rfl, ?_⟩) hHeld ?_ ?_
          rotate_left
          · rintro w' ⟨s0, s1, s2⟩
            go_simp
            with_reducible rfl
          rotate_left
          · simp only [Act.put, List.setIfInBounds_toArray, List.set_cons_zero, List.set_cons_succ, i64_w, i32_w]
            rfl
          refine take_ (i := 1) (N := some 83) (v := _) (a' := ?_) #[true, true, false, false, false, false] rfl rfl (by kernel_rfl) (fun _ _ _ h => h) (row_if (by rfl) 53 _ rfl Bx rfl (.int .i64 (mr : Int) :: bys dr) 53 _ (fun _ hS => hS.2.1) Try.underlying53 rfl HI3.out) hHeld ?_ ?_
          rotate_left
          · simp only [Act.put, List.setIfInBounds_toArray, List.set_cons_zero, List.set_cons_succ, i64_w, i32_w]
            rfl
          refine one_ (i := 2) (N := some 84) #[true, true, true, false, false, false] rfl rfl (by kernel_rfl) (by decide) (fun K hK => ?_)
          refine goes_ Try.func31 (by kernel_rfl) rfl #[.agg (.int .i64 (mr : Int) :: bys dr).toArray] (by rfl) rfl rfl (by simp only [List.map_toArray, List.map_cons, List.map_nil]; rfl) ?_
          refine (row_calls (mr : Int) dr hdr _).mono ?_
          rintro e u ⟨gr, hg1, rfl, hg3, hb⟩
          refine ⟨_, rfl, ?_⟩
          obtain ⟨s0, s1, s2⟩ := hHeld
          have hgrU : U3.heap.size ≤ gr := Nat.le_trans s2.size hg1
          have t2 := s2.trans (hb.mono s2.size)
          have HG3 := Lib.hid hg3
          refine hK.out _ _ ⟨(hb.cell (World.block_lt_of_cell? _ _ s0)).trans s0, (hb.block _ (Array.getElem?_eq_some_iff.1 s1).1).trans s1, t2⟩ (fun hHeld => ?_)
          clear hK K s0 s1 s2 t2 hb hg1 hg3
          refine norm_ (a' := ?_) ?_ ?_
          rotate_left
          · show Act.put _ (some 84) _ = _
            simp only [Act.put, List.setIfInBounds_toArray, List.set_cons_zero, List.set_cons_succ, i64_w, i32_w]
            rfl
          refine one_ (i := 3) (N := some 85) #[true, true, true, true, false, false] rfl rfl (by kernel_rfl) (by decide) (fun K hK => ?_)
          obtain ⟨s0, s1, s2⟩ := hHeld
          refine event_step (by rfl) (exec_bs rfl (vs := #[(0, .agg #[.int .i64 (mr : Int), .slice (some ⟨gr, 0, none⟩) 16 16])]) (by simp only [List.map_toArray, List.map_cons, List.map_nil]; rfl) (run_bs _ gr u)) ?_
          have HU2 := Lib.hid s2
          have ha := (Below.refl u.heap.size u).alloc (Nat.le_refl _) (.cells #[.int .i64 (mr : Int), .slice (some ⟨gr, 0, none⟩) 16 16] 25)
          refine hK.out _ _ ⟨(ha.cell (World.block_lt_of_cell? _ _ s0)).trans s0, (ha.block _ (Array.getElem?_eq_some_iff.1 s1).1).trans s1, s2.trans (ha.mono s2.size)⟩ (fun hHeld => ?_)
          clear hK K s0 s1 s2 ha
          refine norm_ (a' := ?_) ?_ ?_
          rotate_left
          · show Act.put _ (some 85) _ = _
            simp only [Act.put, List.setIfInBounds_toArray, List.set_cons_zero, List.set_cons_succ, i64_w, i32_w]
            rfl
          refine last_ (i := 4) (N := some 86) #[true, true, true, true, true, false] rfl rfl (by kernel_rfl) (by decide) (fun K hK => ?_)
          have s2 := HU2.out
          have hus := s2.size
          refine app_step (by rfl) (.tmp 82) (.tmp 85) rfl U3 u w.heap.size v (xs2) (mr : Int) dr gr rfl rfl (Kd.S_mono (Kd.S_below (Kd.S_bound HSV.out) s2) (fun k hk => by have := hk.2.2.1; omega)) HG3.out (by omega) hdr (s2.mono hwW3) (by omega) (by omega) ?_
          intro v1 w1 h1 h2 h3 h4
          obtain ⟨A', c', rfl⟩ := Kd.R_slice (Kd.S_R h1)
          have bv1 : Boxed w1 g11 22 v := h4 _ _ (boxed_block BV.out s2) (fun cs e => by cases e)
          refine hK.out _ _ ?_
          clear hK K
          refine norm_ (a' := ?_) ?_ ?_
          rotate_left
          · show Act.put _ (some 86) _ = _
            simp only [Act.put, List.setIfInBounds_toArray, List.set_cons_zero, List.set_cons_succ, i64_w, i32_w]
            rfl
          refine last_ (i := 5) (N := none) #[true, true, true, true, true, true] rfl rfl (by kernel_rfl) (by decide) (fun K hK => ?_)
          refine store_step (by rfl) rfl rfl rfl rfl (run_st22 g11 v w1 A' _ c' bv1) ?_
          refine hK.out _ _ ?_
          refine done_ (by kernel_rfl) ?_
          have hs2 := HU2.out.size
          have hBf : Below w.heap.size U3 (w1.setCell ⟨g11, 0, none⟩ (.slice A' (xs2 ++ [(⟨(mr : Int), dr⟩ : S25)]).length c')) := h2.setCell (p := ⟨g11, 0, none⟩) hg9 _
          have hBp := boxed_block HP3.out HU2.out
          refine ⟨HK3.out.trans (((keeps_of_below HU2.out _).trans (keeps_app h3 h4 _)).trans (keeps_set bv1 _ _)), HB3.out.trans hBf, ?_⟩
          dsimp only
          rw [HANS2.out, hmix]
          have hBp1 : Boxed w1 (g11 + 1) 4 (.bool pl2) := h4 _ _ hBp (fun cs e => by cases e)
          refine ⟨?_, hBp1.other (B' := g11) (by omega) _, ⟨_, bv1.set _, S_own h1 bv1 _⟩, hwU3.trans hBf, ?_⟩
          · rw [Below.heap_setCell _ _ _ _ (by simp; omega)]
            exact h4 _ _ ((HU2.out.block _ (Array.getElem?_eq_some_iff.1 H73.out).1).trans H73.out) (fun cs e => by cases e)
          · rw [World.size_setCell]; omega
        have HREST2 := Lib.hid rest2
        clear rest2 hK3
        have hand := i64_and_nat x.m (lead mp) (by omega) (by omega)
        have HAND := Lib.hid hand
        have hxor := i64_xor_nat x.m mp (by omega) (by omega)
        have HXOR := Lib.hid hxor
        have hlx : (xorD x.1.f1 dp).length = 16 := by simp [xorD, List.length_zipWith, HXS.out.2.2, HDP.out]
        have HLX := Lib.hid hlx
        have j1 : (Try.prog.info? 51).map (·.size) = some (bys x.1.f1).length := by rw [bys_len, HXS.out.2.2]; exact size51
        have j2 : (Try.prog.info? 51).map (·.size) = some (bys dp).length := by rw [bys_len, HDP.out]; exact size51
        have j3 : (Try.prog.info? 53).map (·.size) = some (Value.int .i64 ((x.m ^^^ mp : Nat) : Int) :: bys (xorD x.1.f1 dp)).length := by rw [List.length_cons, bys_len, hlx]; exact size53
        have J1 := Lib.hid j1
        have J2 := Lib.hid j2
        have J3 := Lib.hid j3
        have houtK : ∀ K4 : Act → World → Prop, ¬ LetsOut (Exit.then K4 (Exit.then K3 (Exit.inBlock 4 (ownPostG W0.heap.size (Below w.heap.size)
          (fun (pre : List FRow) W => W.heap[g7]? = some (.cells (.int .i64 (mp : Int) :: bys dp).toArray 53 (0, 0)) ∧ Boxed W (g11 + 1) 4 (.bool (insL (mp, dp) (pre.map Subtype.val)).2) ∧ OutC w.heap.size g11 (insL (mp, dp) (pre.map Subtype.val)).1 W ∧ Below w.heap.size w W ∧ W0.heap.size ≤ W.heap.size)
          (fun _ _ _ => False) (pre ++ [x]) U)))) := fun K4 ⟨_, _, h⟩ => h
        clear hand hxor hlx j1 j2 j3
        refine wpIn_seq_k (fun K4 hK4 => ?_)
        have hout := houtK K4
        refine start_in (m := 6) (S := (fun V => V.cell? ⟨Bx, 0, none⟩ = some (.int .i64 (x.m : Int)) ∧ V.heap[g7]? = some (.cells (.int .i64 (mp : Int) :: bys dp).toArray 53 (0, 0)) ∧ Below U2.heap.size U2 V)) (ds := []) #[false, false, false, false, false, false] (by kernel_rfl) (by rfl) hout rfl rfl ⟨c0, H72.out, (Below.refl _ _).drew⟩ (fun hHeld => ?_)
        refine pure_ (i := 0) (N := some 65) (v := ?_) (a' := ?_) #[true, false, false, false, false, false] rfl rfl (by kernel_rfl) (fun _ _ _ h => h) (Or.inl ⟨by rfl, ?_⟩) ?_ ?_
        rotate_left
        · intro w'
          go_simp
          with_reducible rfl
        rotate_left
        · simp only [Act.put, List.setIfInBounds_toArray, List.set_cons_zero, List.set_cons_succ, i64_w, i32_w]
          rfl
        refine take_ (i := 1) (N := some 66) (v := ?_) (a' := ?_) #[true, true, false, false, false, false] rfl rfl (by kernel_rfl) (fun _ _ _ h => h) (Or.inl ⟨by rfl, ?_⟩) hHeld ?_ ?_
        rotate_left
        · rintro w' ⟨s0, s1, s2⟩
          go_simp
          with_reducible rfl
        rotate_left
        · simp only [Act.put, List.setIfInBounds_toArray, List.set_cons_zero, List.set_cons_succ, i64_w, i32_w]
          rfl
        refine take_ (i := 2) (N := some 67) (v := _) (a' := ?_) #[true, true, true, false, false, false] rfl rfl (by kernel_rfl) (fun _ _ _ h => h) (row_if (by rfl) 53 _ rfl g7 rfl (.int .i64 (mp : Int) :: bys dp) 53 _ (fun _ hS => hS.2.1) Try.underlying53 rfl HI7.out) hHeld ?_ ?_
        rotate_left
        · simp only [Act.put, List.setIfInBounds_toArray, List.set_cons_zero, List.set_cons_succ, i64_w, i32_w]
          rfl
        refine one_ (i := 3) (N := some 68) #[true, true, true, true, false, false] rfl rfl (by kernel_rfl) (by decide) (fun K hK => ?_)
        refine goes_ Try.func32 (by kernel_rfl) rfl #[.agg (.int .i64 (mp : Int) :: bys dp).toArray] (by rfl) rfl rfl (by simp only [List.map_toArray, List.map_cons, List.map_nil]; rfl) ?_
        refine (leading_calls mp hmp _ _).mono ?_
        rintro e3 u3 ⟨rfl, hb⟩
        refine ⟨_, rfl, ?_⟩
        obtain ⟨s0, s1, s2⟩ := hHeld
        have tt := s2.trans (hb.mono s2.size)
        refine hK.out _ _ ⟨(hb.cell (World.block_lt_of_cell? _ _ s0)).trans s0, (hb.block _ (Array.getElem?_eq_some_iff.1 s1).1).trans s1, tt⟩ (fun hHeld => ?_)
        clear hK K tt hb s0 s1 s2
        refine norm_ (a' := ?_) ?_ ?_
        rotate_left
        · show Act.put _ (some 68) _ = _
          simp only [Act.put, List.setIfInBounds_toArray, List.set_cons_zero, List.set_cons_succ, i64_w, i32_w]
          rfl
        refine pure_ (i := 4) (N := some 69) (v := ?_) (a' := ?_) #[true, true, true, true, true, false] rfl rfl (by kernel_rfl) (fun _ _ _ h => h) (Or.inl ⟨by rfl, ?_⟩) ?_ ?_
        rotate_left
        · intro w'
          go_simp
          with_reducible rfl
        rotate_left
        · simp only [Act.put, List.setIfInBounds_toArray, List.set_cons_zero, List.set_cons_succ, i64_w, i32_w]
          rfl
        refine pure_ (i := 5) (N := some 70) (v := ?_) (a' := ?_) #[true, true, true, true, true, true] rfl rfl (by kernel_rfl) (fun _ _ _ h => h) (Or.inl ⟨by rfl, ?_⟩) ?_ ?_
        rotate_left
        · intro w'
          go_simp
          with_reducible rfl
        rotate_left
        · simp only [Act.put, List.setIfInBounds_toArray, List.set_cons_zero, List.set_cons_succ, i64_w, i32_w]
          rfl
        refine done_ (by kernel_rfl) ?_
        obtain ⟨s0, s1, s2⟩ := hHeld
        refine hK4 _ _ ?_
        have hu3 := s2.size
        have hb3w : Below w.heap.size U u3 := HB22.out.trans (s2.mono hwW2)
        by_cases hbit : x.m &&& lead mp = 0
        · refine wpIn_cond_false (by show Value.bool _ = _; rw [HAND.out, hbit]; simp) (wpIn_skip ?_)
          refine HREST2.out _ _ _ _ _ _ _ _ _ _ _ _ _ _ _ _ _ _ _ _ _ _ _ _ _ _ _ _ _ _ _ u3 x.m x.1.f1 HXS.out.2.2 (HK2.out.trans (keeps_of_below s2 _)) hb3w s1 ((s2.block _ (Array.getElem?_eq_some_iff.1 HX2.out).1).trans HX2.out) (boxed_block HP2.out s2) (outC_below HO2.out s2) (by omega) ?_
          rw [rowE_m]
          unfold mixE
          rw [if_neg (by simpa [FRow.m] using hbit)]
        · refine wpIn_cond_true (by show Value.bool _ = _; rw [HAND.out]; congr 1; simp; omega) ?_
          have c7 : u3.cell? ⟨g7, 0, none⟩ = some (.int .i64 (mp : Int)) := (cell_of_row u3 _ 0 _ 53 (0, 0) s1).trans (by simp)
          have x3 := (s2.block _ (Array.getElem?_eq_some_iff.1 HX2.out).1).trans HX2.out
          have X3 := Lib.hid x3
          have S2 := Lib.hid s2
          have E3 := Lib.hid s1
          have HB3W := Lib.hid hb3w
          clear s2 x3 hb3w hout houtK
          have hout : ¬ LetsOut (Exit.then K3 (Exit.inBlock 4 (ownPostG W0.heap.size (Below w.heap.size)
            (fun (pre : List FRow) W => W.heap[g7]? = some (.cells (.int .i64 (mp : Int) :: bys dp).toArray 53 (0, 0)) ∧ Boxed W (g11 + 1) 4 (.bool (insL (mp, dp) (pre.map Subtype.val)).2) ∧ OutC w.heap.size g11 (insL (mp, dp) (pre.map Subtype.val)).1 W ∧ Below w.heap.size w W ∧ W0.heap.size ≤ W.heap.size)
            (fun _ _ _ => False) (pre ++ [x]) U))) := fun ⟨_, _, h⟩ => h
          refine start_in (m := 12) (S := (fun V => V.cell? ⟨Bx, 0, none⟩ = some (.int .i64 (x.m : Int)) ∧ V.cell? ⟨g7, 0, none⟩ = some (.int .i64 (mp : Int)) ∧ V.heap[Bx]? = some (.cells (.int .i64 (x.m : Int) :: bys x.1.f1).toArray 53 (0, 0)) ∧ V.heap[g7]? = some (.cells (.int .i64 (mp : Int) :: bys dp).toArray 53 (0, 0)) ∧ Below u3.heap.size u3 V)) (ds := [11]) #[false, false, false, false, false, false, false, false, false, false, false, false] (by kernel_rfl) (by rfl) hout rfl rfl ⟨s0, c7, X3.out, s1, (Below.refl _ _).drew⟩ (fun hHeld => ?_)
          refine pure_ (i := 0) (N := some 71) (v := ?_) (a' := ?_) #[true, false, false, false, false, false, false, false, false, false, false, false] rfl rfl (by kernel_rfl) (fun _ _ _ h => h) (Or.inl ⟨by rfl, ?_⟩) ?_ ?_
          rotate_left
          · intro w'
            go_simp
            with_reducible rfl
          rotate_left
          · simp only [Act.put, List.setIfInBounds_toArray, List.set_cons_zero, List.set_cons_succ, i64_w, i32_w]
            rfl
          refine pure_ (i := 2) (N := some 73) (v := ?_) (a' := ?_) #[true, false, true, false, false, false, false, false, false, false, false, false] rfl rfl (by kernel_rfl) (fun _ _ _ h => h) (Or.inl ⟨by rfl, ?_⟩) ?_ ?_
          rotate_left
          · intro w'
            go_simp
            with_reducible rfl
          rotate_left
          · simp only [Act.put, List.setIfInBounds_toArray, List.set_cons_zero, List.set_cons_succ, i64_w, i32_w]
            rfl
          refine pure_ (i := 5) (N := some 76) (v := ?_) (a' := ?_) #[true, false, true, false, false, true, false, false, false, false, false, false] rfl rfl (by kernel_rfl) (fun _ _ _ h => h) (Or.inl ⟨by rfl, ?_⟩) ?_ ?_
          rotate_left
          · intro w'
            go_simp
            with_reducible rfl
          rotate_left
          · simp only [Act.put, List.setIfInBounds_toArray, List.set_cons_zero, List.set_cons_succ, i64_w, i32_w]
            rfl
          refine pure_ (i := 7) (N := some 78) (v := ?_) (a' := ?_) #[true, false, true, false, false, true, false, true, false, false, false, false] rfl rfl (by kernel_rfl) (fun _ _ _ h => h) (Or.inl ⟨by rfl, ?_⟩) ?_ ?_
          rotate_left
          · intro w'
            go_simp
            with_reducible rfl
          rotate_left
          · simp only [Act.put, List.setIfInBounds_toArray, List.set_cons_zero, List.set_cons_succ, i64_w, i32_w]
            rfl
          refine take_ (i := 1) (N := some 72) (v := ?_) (a' := ?_) #[true, true, true, false, false, true, false, true, false, false, false, false] rfl rfl (by kernel_rfl) (fun _ _ _ h => h) (Or.inl ⟨by rfl, ?_⟩) hHeld ?_ ?_
          rotate_left
          · rintro w' ⟨s0, s1, s2, s3, s4⟩
            go_simp
            with_reducible rfl
          rotate_left
          · simp only [Act.put, List.setIfInBounds_toArray, List.set_cons_zero, List.set_cons_succ, i64_w, i32_w]
            rfl
          refine take_ (i := 3) (N := some 74) (v := ?_) (a' := ?_) #[true, true, true, true, false, true, false, true, false, false, false, false] rfl rfl (by kernel_rfl) (fun _ _ _ h => h) (Or.inl ⟨by rfl, ?_⟩) hHeld ?_ ?_
          rotate_left
          · rintro w' ⟨s0, s1, s2, s3, s4⟩
            go_simp
            with_reducible rfl
          rotate_left
          · simp only [Act.put, List.setIfInBounds_toArray, List.set_cons_zero, List.set_cons_succ, i64_w, i32_w]
            rfl
          refine pure_ (i := 4) (N := some 75) (v := ?_) (a' := ?_) #[true, true, true, true, true, true, false, true, false, false, false, false] rfl rfl (by kernel_rfl) (fun _ _ _ h => h) (Or.inl ⟨by rfl, ?_⟩) ?_ ?_
          rotate_left
          · intro w'
            go_simp
            with_reducible rfl
          rotate_left
          · simp only [Act.put, List.setIfInBounds_toArray, List.set_cons_zero, List.set_cons_succ, i64_w, i32_w]
            rfl
          refine take_ (i := 6) (N := some 77) (v := _) (a' := ?_) #[true, true, true, true, true, true, true, true, false, false, false, false] rfl rfl (by kernel_rfl) (fun _ _ _ h => h) (mid_if (by rfl) 51 _ rfl Bx rfl _ (bys x.1.f1) 53 _ (fun _ hS => hS.2.2.1) Try.underlying51 rfl J1.out) hHeld ?_ ?_
          rotate_left
          · simp only [Act.put, List.setIfInBounds_toArray, List.set_cons_zero, List.set_cons_succ, i64_w, i32_w]
            rfl
          refine take_ (i := 8) (N := some 79) (v := _) (a' := ?_) #[true, true, true, true, true, true, true, true, true, false, false, false] rfl rfl (by kernel_rfl) (fun _ _ _ h => h) (mid_if (by rfl) 51 _ rfl g7 rfl _ (bys dp) 53 _ (fun _ hS => hS.2.2.2.1) Try.underlying51 rfl J2.out) hHeld ?_ ?_
          rotate_left
          · simp only [Act.put, List.setIfInBounds_toArray, List.set_cons_zero, List.set_cons_succ, i64_w, i32_w]
            rfl
          refine one_ (i := 9) (N := some 80) #[true, true, true, true, true, true, true, true, true, true, false, false] rfl rfl (by kernel_rfl) (by decide) (fun K hK => ?_)
          refine goes_ Try.func33 (by kernel_rfl) rfl #[.agg (bys x.1.f1).toArray, .agg (bys dp).toArray] (by rfl) rfl rfl (by simp only [List.map_toArray, List.map_cons, List.map_nil]; rfl) ?_
          refine (plus_calls x.1.f1 dp HXS.out.2.2 HDP.out _).mono ?_
          rintro e4 u4 ⟨rfl, hb⟩
          refine ⟨_, rfl, ?_⟩
          obtain ⟨t0, t1, t2, t3, t4⟩ := hHeld
          have t5 := t4.trans (hb.mono t4.size)
          refine hK.out _ _ ⟨(hb.cell (World.block_lt_of_cell? _ _ t0)).trans t0, (hb.cell (World.block_lt_of_cell? _ _ t1)).trans t1, (hb.block _ (Array.getElem?_eq_some_iff.1 t2).1).trans t2, (hb.block _ (Array.getElem?_eq_some_iff.1 t3).1).trans t3, t5⟩ (fun hHeld => ?_)
          clear hK K t0 t1 t2 t3 t4 t5 hb
          refine norm_ (a' := ?_) ?_ ?_
          rotate_left
          · show Act.put _ (some 80) _ = _
            simp only [Act.put, List.setIfInBounds_toArray, List.set_cons_zero, List.set_cons_succ, i64_w, i32_w]
            rfl
          refine pure_ (i := 10) (N := some 81) (v := .agg (.int .i64 ((x.m ^^^ mp : Nat) : Int) :: bys (xorD x.1.f1 dp)).toArray) (a' := ?_) #[true, true, true, true, true, true, true, true, true, true, true, false] rfl rfl (by kernel_rfl) (fun _ _ _ h => h) (Or.inl ⟨by rfl, ?_⟩) ?_ ?_
          · intro w'
            refine exec_build rfl (vs := #[(0, .int .i64 ((x.m ^^^ mp : Nat) : Int)), (1, .agg (bys (xorD x.1.f1 dp)).toArray)]) ?_ (run_build53 _ _ HLX.out _)
            simp only [List.map_toArray, List.map_cons, List.map_nil]
            rw [← HXOR.out]
            rfl
          rotate_left
          · simp only [Act.put, List.setIfInBounds_toArray, List.set_cons_zero, List.set_cons_succ, i64_w, i32_w]
            rfl
          refine last_ (i := 11) (N := none) #[true, true, true, true, true, true, true, true, true, true, true, true] rfl rfl (by kernel_rfl) (by decide) (fun K hK => ?_)
          obtain ⟨t0, t1, t2, t3, t4⟩ := hHeld
          refine skip_row (by rfl) rfl 53 _ _ rfl Bx (.int .i64 ((x.m ^^^ mp : Nat) : Int) :: bys (xorD x.1.f1 dp)) _ 53 rfl rfl t2 (by simp only [List.size_toArray, List.length_cons, bys_len, HXS.out.2.2, HLX.out]) J3.out (eq_one _ _) ?_
          intro w1 q1 q2 q3 q4
          refine hK.out _ _ ?_
          refine done_ (by kernel_rfl) ?_
          have h34 := t4.size
          have hq4 : Below w.heap.size u3 w1 := q4 _ _ (by omega) (t4.mono (by omega))
          have ho4 := outC_below (outC_below HO2.out S2.out) t4
          refine HREST2.out _ _ _ _ _ _ _ _ _ _ _ _ _ _ _ _ _ _ _ _ _ _ _ _ _ _ _ _ _ _ _ w1 (x.m ^^^ mp) (xorD x.1.f1 dp) HLX.out ((HK2.out.trans (keeps_of_below S2.out _)).trans ((keeps_of_below t4 _).trans (keeps_of_cells t2 q2 q3 _))) (HB3W.out.trans hq4) ?_ q1 ?_ (outC_write ho4 t2 (by decide) (by decide) (by omega) q2) (by omega) ?_
          · rw [q2 _ (by omega)]; exact t3
          · exact (q2 _ (by omega)).trans (boxed_block (boxed_block HP2.out S2.out) t4)
          · unfold mixE
            rw [if_pos (by simpa [FRow.m] using hbit)]
            rfl
      have hout2 : ∀ K2 : Act → World → Prop, ¬ LetsOut (Exit.then K2 (Exit.then K1 (Exit.inBlock 4 (ownPostG W0.heap.size (Below w.heap.size)
        (fun (pre : List FRow) W => W.heap[g7]? = some (.cells (.int .i64 (mp : Int) :: bys dp).toArray 53 (0, 0)) ∧ Boxed W (g11 + 1) 4 (.bool (insL (mp, dp) (pre.map Subtype.val)).2) ∧ OutC w.heap.size g11 (insL (mp, dp) (pre.map Subtype.val)).1 W ∧ Below w.heap.size w W ∧ W0.heap.size ≤ W.heap.size)
        (fun _ _ _ => False) (pre ++ [x]) U)))) := fun K2 ⟨_, _, h⟩ => h
      have HREST := Lib.hid rest
      clear rest hK1
      refine wpIn_seq_k (fun K2 hK2 => ?_)
      have hout := hout2 K2
      have cP := hbP.cell
      have H7U := Lib.hid h7U
      have HX := Lib.hid hx
      have BP := Lib.hid hbP
      have HO := Lib.hid hOut
      clear h7U hx hbP hOut
      cases pl
      · refine start_in (m := 9) (S := (fun V => V.cell? ⟨g11 + 1, 0, none⟩ = some (.bool false) ∧ V.heap[Bx]? = some (.cells (.int .i64 (x.m : Int) :: bys x.1.f1).toArray 53 (0, 0)) ∧ V.heap[g7]? = some (.cells (.int .i64 (mp : Int) :: bys dp).toArray 53 (0, 0)) ∧ Below U.heap.size U V)) (ds := []) #[false, false, false, false, false, false, false, false, false] (by kernel_rfl) (by rfl) hout rfl rfl ⟨cP, HX.out, H7U.out, (Below.refl _ _).drew⟩ (fun hHeld => ?_)
        refine take_ (i := 0) (N := some 51) (v := ?_) (a' := ?_) #[true, false, false, false, false, false, false, false, false] rfl rfl (by kernel_rfl) (fun _ _ _ h => h) (Or.inl ⟨by rfl, ?_⟩) hHeld ?_ ?_
        rotate_left
        · rintro w' ⟨s0, s1, s2, s3⟩
          go_simp
          with_reducible rfl
        rotate_left
        · simp only [Act.put, List.setIfInBounds_toArray, List.set_cons_zero, List.set_cons_succ, i64_w, i32_w]
          rfl
        refine pure_ (i := 1) (N := some 52) (v := ?_) (a' := ?_) #[true, true, false, false, false, false, false, false, false] rfl rfl (by kernel_rfl) (fun _ _ _ h => h) (Or.inl ⟨by rfl, ?_⟩) ?_ ?_
        rotate_left
        · intro w'
          go_simp
          with_reducible rfl
        rotate_left
        · simp only [Act.put, List.setIfInBounds_toArray, List.set_cons_zero, List.set_cons_succ, i64_w, i32_w]
          rfl
        refine pure_ (i := 2) (N := some 53) (v := ?_) (a' := ?_) #[true, true, true, false, false, false, false, false, false] rfl rfl (by kernel_rfl) (fun _ _ _ h => h) (Or.inl ⟨by rfl, ?_⟩) ?_ ?_
        rotate_left
        · intro w'
          go_simp
          with_reducible rfl
        rotate_left
        · simp only [Act.put, List.setIfInBounds_toArray, List.set_cons_zero, List.set_cons_succ, i64_w, i32_w]
          rfl
        refine take_ (i := 3) (N := some 54) (v := _) (a' := ?_) #[true, true, true, true, false, false, false, false, false] rfl rfl (by kernel_rfl) (fun _ _ _ h => h) (row_if (by rfl) 53 _ rfl Bx rfl (.int .i64 (x.m : Int) :: bys x.1.f1) 53 _ (fun _ hS => hS.2.1) Try.underlying53 rfl HI17.out) hHeld ?_ ?_
        rotate_left
        · simp only [Act.put, List.setIfInBounds_toArray, List.set_cons_zero, List.set_cons_succ, i64_w, i32_w]
          rfl
        refine take_ (i := 5) (N := some 56) (v := _) (a' := ?_) #[true, true, true, true, false, true, false, false, false] rfl rfl (by kernel_rfl) (fun _ _ _ h => h) (row_if (by rfl) 53 _ rfl g7 rfl (.int .i64 (mp : Int) :: bys dp) 53 _ (fun _ hS => hS.2.2.1) Try.underlying53 rfl HI7.out) hHeld ?_ ?_
        rotate_left
        · simp only [Act.put, List.setIfInBounds_toArray, List.set_cons_zero, List.set_cons_succ, i64_w, i32_w]
          rfl
        refine one_ (i := 4) (N := some 55) #[true, true, true, true, true, true, false, false, false] rfl rfl (by kernel_rfl) (by decide) (fun K hK => ?_)
        refine goes_ Try.func32 (by kernel_rfl) rfl #[.agg (.int .i64 (x.m : Int) :: bys x.1.f1).toArray] (by rfl) rfl rfl (by simp only [List.map_toArray, List.map_cons, List.map_nil]; rfl) ?_
        refine (leading_calls x.m hmx _ _).mono ?_
        rintro e1 u1 ⟨rfl, hb⟩
        refine ⟨_, rfl, ?_⟩
        obtain ⟨s0, s1, s2, s3⟩ := hHeld
        have tt := s3.trans (hb.mono s3.size)
        refine hK.out _ _ ⟨(hb.cell (World.block_lt_of_cell? _ _ s0)).trans s0, (hb.block _ (Array.getElem?_eq_some_iff.1 s1).1).trans s1, (hb.block _ (Array.getElem?_eq_some_iff.1 s2).1).trans s2, tt⟩ (fun hHeld => ?_)
        clear hK K tt hb s0 s1 s2 s3
        refine norm_ (a' := ?_) ?_ ?_
        rotate_left
        · show Act.put _ (some 55) _ = _
          simp only [Act.put, List.setIfInBounds_toArray, List.set_cons_zero, List.set_cons_succ, i64_w, i32_w]
          rfl
        refine one_ (i := 6) (N := some 57) #[true, true, true, true, true, true, true, false, false] rfl rfl (by kernel_rfl) (by decide) (fun K hK => ?_)
        refine goes_ Try.func32 (by kernel_rfl) rfl #[.agg (.int .i64 (mp : Int) :: bys dp).toArray] (by rfl) rfl rfl (by simp only [List.map_toArray, List.map_cons, List.map_nil]; rfl) ?_
        refine (leading_calls mp hmp _ _).mono ?_
        rintro e2 u2 ⟨rfl, hb⟩
        refine ⟨_, rfl, ?_⟩
        obtain ⟨s0, s1, s2, s3⟩ := hHeld
        have tt := s3.trans (hb.mono s3.size)
        refine hK.out _ _ ⟨(hb.cell (World.block_lt_of_cell? _ _ s0)).trans s0, (hb.block _ (Array.getElem?_eq_some_iff.1 s1).1).trans s1, (hb.block _ (Array.getElem?_eq_some_iff.1 s2).1).trans s2, tt⟩ (fun hHeld => ?_)
        clear hK K tt hb s0 s1 s2 s3
        refine norm_ (a' := ?_) ?_ ?_
        rotate_left
        · show Act.put _ (some 57) _ = _
          simp only [Act.put, List.setIfInBounds_toArray, List.set_cons_zero, List.set_cons_succ, i64_w, i32_w]
          rfl
        refine pure_ (i := 7) (N := some 58) (v := ?_) (a' := ?_) #[true, true, true, true, true, true, true, true, false] rfl rfl (by kernel_rfl) (fun _ _ _ h => h) (Or.inl ⟨by rfl, ?_⟩) ?_ ?_
        rotate_left
        · intro w'
          go_simp
          with_reducible rfl
        rotate_left
        · simp only [Act.put, List.setIfInBounds_toArray, List.set_cons_zero, List.set_cons_succ, i64_w, i32_w]
          rfl
        refine pure_ (i := 8) (N := some 59) (v := ?_) (a' := ?_) #[true, true, true, true, true, true, true, true, true] rfl rfl (by kernel_rfl) (fun _ _ _ h => h) (Or.inl ⟨by rfl, ?_⟩) ?_ ?_
        rotate_left
        · intro w'
          go_simp
          with_reducible rfl
        rotate_left
        · simp only [Act.put, List.setIfInBounds_toArray, List.set_cons_zero, List.set_cons_succ, i64_w, i32_w]
          rfl
        refine done_ (by kernel_rfl) ?_
        obtain ⟨t0, t1, t2, t3⟩ := hHeld
        have hu2 := t3.size
        have hwu2 : w.heap.size ≤ u2.heap.size := by omega
        refine hK2 _ _ ?_
        by_cases hlt : lead x.m < lead mp
        · refine wpIn_cond_true (by show Value.bool _ = _; congr 1; simp; omega) ?_
          obtain ⟨v, hbv, hSv⟩ := outC_below HO.out t3
          have cO := hbv.cell
          have BV := Lib.hid hbv
          have HSV := Lib.hid hSv
          have T3 := Lib.hid t3
          have T2 := Lib.hid t2
          have T1 := Lib.hid t1
          clear hbv hSv t3 hout hout2
          have hout : ¬ LetsOut (Exit.then K1 (Exit.inBlock 4 (ownPostG W0.heap.size (Below w.heap.size)
            (fun (pre : List FRow) W => W.heap[g7]? = some (.cells (.int .i64 (mp : Int) :: bys dp).toArray 53 (0, 0)) ∧ Boxed W (g11 + 1) 4 (.bool (insL (mp, dp) (pre.map Subtype.val)).2) ∧ OutC w.heap.size g11 (insL (mp, dp) (pre.map Subtype.val)).1 W ∧ Below w.heap.size w W ∧ W0.heap.size ≤ W.heap.size)
            (fun _ _ _ => False) (pre ++ [x]) U))) := fun ⟨_, _, h⟩ => h
          refine start_in (m := 7) (S := (fun V => V.cell? ⟨g11, 0, none⟩ = some v ∧ V.heap[g7]? = some (.cells (.int .i64 (mp : Int) :: bys dp).toArray 53 (0, 0)) ∧ Below u2.heap.size u2 V)) (ds := [4, 5, 6]) #[false, false, false, false, false, false, false] (by kernel_rfl) (by rfl) hout rfl rfl ⟨cO, t2, (Below.refl _ _).drew⟩ (fun hHeld => ?_)
          refine take_ (i := 0) (N := some 60) (v := ?_) (a' := ?_) #[true, false, false, false, false, false, false] rfl rfl (by kernel_rfl) (fun _ _ _ h => h) (Or.inl ⟨by rfl, ?_⟩) hHeld ?_ ?_
          rotate_left
          · rintro w' ⟨s0, s1, s2⟩
            go_simp
            with_reducible rfl
          rotate_left
          · simp only [Act.put, List.setIfInBounds_toArray, List.set_cons_zero, List.set_cons_succ, i64_w, i32_w]
            rfl
          refine take_ (i := 1) (N := some 61) (v := _) (a' := ?_) #[true, true, false, false, false, false, false] rfl rfl (by kernel_rfl) (fun _ _ _ h => h) (row_if (by rfl) 53 _ rfl g7 rfl (.int .i64 (mp : Int) :: bys dp) 53 _ (fun _ hS => hS.2.1) Try.underlying53 rfl HI7.out) hHeld ?_ ?_
          rotate_left
          · simp only [Act.put, List.setIfInBounds_toArray, List.set_cons_zero, List.set_cons_succ, i64_w, i32_w]
            rfl
          refine one_ (i := 2) (N := some 62) #[true, true, true, false, false, false, false] rfl rfl (by kernel_rfl) (by decide) (fun K hK => ?_)
          refine goes_ Try.func31 (by kernel_rfl) rfl #[.agg (.int .i64 (mp : Int) :: bys dp).toArray] (by rfl) rfl rfl (by simp only [List.map_toArray, List.map_cons, List.map_nil]; rfl) ?_
          refine (row_calls (mp : Int) dp HDP.out _).mono ?_
          rintro e u ⟨gr, hg1, rfl, hg3, hb⟩
          refine ⟨_, rfl, ?_⟩
          obtain ⟨s0, s1, s2⟩ := hHeld
          have hgrU : u2.heap.size ≤ gr := Nat.le_trans s2.size hg1
          have t2 := s2.trans (hb.mono s2.size)
          have HG3 := Lib.hid hg3
          refine hK.out _ _ ⟨(hb.cell (World.block_lt_of_cell? _ _ s0)).trans s0, (hb.block _ (Array.getElem?_eq_some_iff.1 s1).1).trans s1, t2⟩ (fun hHeld => ?_)
          clear hK K s0 s1 s2 t2 hb hg1 hg3
          refine norm_ (a' := ?_) ?_ ?_
          rotate_left
          · show Act.put _ (some 62) _ = _
            simp only [Act.put, List.setIfInBounds_toArray, List.set_cons_zero, List.set_cons_succ, i64_w, i32_w]
            rfl
          refine one_ (i := 3) (N := some 63) #[true, true, true, true, false, false, false] rfl rfl (by kernel_rfl) (by decide) (fun K hK => ?_)
          obtain ⟨s0, s1, s2⟩ := hHeld
          refine event_step (by rfl) (exec_bs rfl (vs := #[(0, .agg #[.int .i64 (mp : Int), .slice (some ⟨gr, 0, none⟩) 16 16])]) (by simp only [List.map_toArray, List.map_cons, List.map_nil]; rfl) (run_bs _ gr u)) ?_
          have HU2 := Lib.hid s2
          have ha := (Below.refl u.heap.size u).alloc (Nat.le_refl _) (.cells #[.int .i64 (mp : Int), .slice (some ⟨gr, 0, none⟩) 16 16] 25)
          refine hK.out _ _ ⟨(ha.cell (World.block_lt_of_cell? _ _ s0)).trans s0, (ha.block _ (Array.getElem?_eq_some_iff.1 s1).1).trans s1, s2.trans (ha.mono s2.size)⟩ (fun hHeld => ?_)
          clear hK K s0 s1 s2 ha
          refine norm_ (a' := ?_) ?_ ?_
          rotate_left
          · show Act.put _ (some 63) _ = _
            simp only [Act.put, List.setIfInBounds_toArray, List.set_cons_zero, List.set_cons_succ, i64_w, i32_w]
            rfl
          refine last_ (i := 4) (N := some 64) #[true, true, true, true, true, false, false] rfl rfl (by kernel_rfl) (by decide) (fun K hK => ?_)
          have s2 := HU2.out
          have hus := s2.size
          refine app_step (by rfl) (.tmp 60) (.tmp 63) rfl u2 u w.heap.size v (xs0) (mp : Int) dp gr rfl rfl (Kd.S_mono (Kd.S_below (Kd.S_bound HSV.out) s2) (fun k hk => by have := hk.2.2.1; omega)) HG3.out (by omega) HDP.out (s2.mono hwu2) (by omega) (by omega) ?_
          intro v1 w1 h1 h2 h3 h4
          obtain ⟨A', c', rfl⟩ := Kd.R_slice (Kd.S_R h1)
          have bv1 : Boxed w1 g11 22 v := h4 _ _ (boxed_block BV.out s2) (fun cs e => by cases e)
          refine hK.out _ _ ?_
          clear hK K
          refine norm_ (a' := ?_) ?_ ?_
          rotate_left
          · show Act.put _ (some 64) _ = _
            simp only [Act.put, List.setIfInBounds_toArray, List.set_cons_zero, List.set_cons_succ, i64_w, i32_w]
            rfl
          refine last_ (i := 5) (N := none) #[true, true, true, true, true, true, false] rfl rfl (by kernel_rfl) (by decide) (fun K hK => ?_)
          refine store_step (by rfl) rfl rfl rfl rfl (run_st22 g11 v w1 A' _ c' bv1) ?_
          refine hK.out _ _ ?_
          clear hK K
          have bp1 : Boxed w1 (g11 + 1) 4 (.bool false) := h4 _ _ (boxed_block (boxed_block BP.out T3.out) s2) (fun cs e => by cases e)
          have bp2 := bp1.other (B' := g11) (by omega) (.slice A' (xs0 ++ [(⟨(mp : Int), dp⟩ : S25)]).length c')
          refine last_ (i := 6) (N := none) #[true, true, true, true, true, true, true] rfl rfl (by kernel_rfl) (by decide) (fun K hK => ?_)
          refine store_step (by rfl) rfl rfl rfl rfl (run_st4 (g11 + 1) (.bool false) _ true bp2) ?_
          refine hK.out _ _ ?_
          refine done_ (by kernel_rfl) ?_
          have hBf : Below w.heap.size u2 ((w1.setCell ⟨g11, 0, none⟩ (.slice A' (xs0 ++ [(⟨(mp : Int), dp⟩ : S25)]).length c')).setCell ⟨g11 + 1, 0, none⟩ (.bool true)) := (h2.setCell (p := ⟨g11, 0, none⟩) hg9 _).setCell (p := ⟨g11 + 1, 0, none⟩) (by simp; omega) _
          have hrow : ∀ (k : Nat) (c : Array Value), k < g11 ∨ g11 + 1 < k → u2.heap[k]? = some (.cells c 53 (0, 0)) → ((w1.setCell ⟨g11, 0, none⟩ (.slice A' (xs0 ++ [(⟨(mp : Int), dp⟩ : S25)]).length c')).setCell ⟨g11 + 1, 0, none⟩ (.bool true)).heap[k]? = some (.cells c 53 (0, 0)) := by
            intro k c hk hc
            rw [Below.heap_setCell _ _ _ _ (by simp; omega), Below.heap_setCell _ _ _ _ (by simp; omega)]
            exact h4 _ _ ((HU2.out.block _ (Array.getElem?_eq_some_iff.1 hc).1).trans hc) (fun cs e => by cases e)
          have hs1 := S_own h1 bv1 (.slice A' (xs0 ++ [(⟨(mp : Int), dp⟩ : S25)]).length c')
          refine HREST.out _ _ _ _ _ _ _ _ _ _ _ _ _ _ _ (xs0 ++ [(⟨(mp : Int), dp⟩ : S25)]) true ((keeps_of_below T3.out _).trans ((((keeps_of_below HU2.out _).trans (keeps_app h3 h4 _)).trans (keeps_set bv1 _ _)).trans (keeps_set bp2 _ _))) ((T3.out.mono hwW).trans hBf) (hrow _ _ (by omega) T2.out) (hrow _ _ (by omega) T1.out) (bp2.set _)
            (outC_write ⟨_, bv1.set _, hs1⟩ bp2 (by decide) (by decide) (by omega) (fun k hk => Below.heap_setCell _ _ _ _ hk)) (by simp; omega) (by rw [World.size_setCell, World.size_setCell]; have := HU2.out.size; omega) ?_
          rw [HSN.out]
          unfold insStep
          rw [if_pos ⟨rfl, hlt⟩]
          simp [rowE]
        · refine wpIn_cond_false (by show Value.bool _ = _; congr 1; simp; omega) (wpIn_skip ?_)
          refine HREST.out _ _ _ _ _ _ _ _ _ _ _ _ _ _ u2 xs0 false (keeps_of_below t3 _) (t3.mono hwW) t2 t1 (boxed_block BP.out t3) (outC_below HO.out t3) (by omega) (by omega) ?_
          rw [HSN.out]
          unfold insStep
          rw [if_neg (fun h => hlt h.2)]
      · refine start_in (m := 9) (S := (fun V => V.cell? ⟨g11 + 1, 0, none⟩ = some (.bool true) ∧ Below U.heap.size U V)) (ds := []) #[false, false, false, false, false, false, false, false, false] (by kernel_rfl) (by rfl) hout rfl rfl ⟨cP, (Below.refl _ _).drew⟩ (fun hHeld => ?_)
        refine take_ (i := 0) (N := some 51) (v := ?_) (a' := ?_) #[true, false, false, false, false, false, false, false, false] rfl rfl (by kernel_rfl) (fun _ _ _ h => h) (Or.inl ⟨by rfl, ?_⟩) hHeld ?_ ?_
        rotate_left
        · rintro w' ⟨s0, s1⟩
          go_simp
          with_reducible rfl
        rotate_left
        · simp only [Act.put, List.setIfInBounds_toArray, List.set_cons_zero, List.set_cons_succ, i64_w, i32_w]
          rfl
        refine pure_ (i := 1) (N := some 52) (v := ?_) (a' := ?_) #[true, true, false, false, false, false, false, false, false] rfl rfl (by kernel_rfl) (fun _ _ _ h => h) (Or.inl ⟨by rfl, ?_⟩) ?_ ?_
        rotate_left
        · intro w'
          go_simp
          with_reducible rfl
        rotate_left
        · simp only [Act.put, List.setIfInBounds_toArray, List.set_cons_zero, List.set_cons_succ, i64_w, i32_w]
          rfl
        refine pure_ (i := 2) (N := some 53) (v := ?_) (a' := ?_) #[true, true, true, false, false, false, false, false, false] rfl rfl (by kernel_rfl) (fun _ _ _ h => h) (Or.inl ⟨by rfl, ?_⟩) ?_ ?_
        rotate_left
        · intro w'
          go_simp
          with_reducible rfl
        rotate_left
        · simp only [Act.put, List.setIfInBounds_toArray, List.set_cons_zero, List.set_cons_succ, i64_w, i32_w]
          rfl
        refine pure_ (i := 3) (N := some 54) (v := undef) (a' := ?_) #[true, true, true, true, false, false, false, false, false] rfl rfl (by kernel_rfl) (fun _ _ _ h => h) (Or.inr ⟨by rfl, rfl⟩) ?_ ?_
        rotate_left
        · simp only [Act.put, List.setIfInBounds_toArray, List.set_cons_zero, List.set_cons_succ, i64_w, i32_w]
          rfl
        refine pure_ (i := 4) (N := some 55) (v := undef) (a' := ?_) #[true, true, true, true, true, false, false, false, false] rfl rfl (by kernel_rfl) (fun _ _ _ h => h) (Or.inr ⟨by rfl, rfl⟩) ?_ ?_
        rotate_left
        · simp only [Act.put, List.setIfInBounds_toArray, List.set_cons_zero, List.set_cons_succ, i64_w, i32_w]
          rfl
        refine pure_ (i := 5) (N := some 56) (v := undef) (a' := ?_) #[true, true, true, true, true, true, false, false, false] rfl rfl (by kernel_rfl) (fun _ _ _ h => h) (Or.inr ⟨by rfl, rfl⟩) ?_ ?_
        rotate_left
        · simp only [Act.put, List.setIfInBounds_toArray, List.set_cons_zero, List.set_cons_succ, i64_w, i32_w]
          rfl
        refine pure_ (i := 6) (N := some 57) (v := undef) (a' := ?_) #[true, true, true, true, true, true, true, false, false] rfl rfl (by kernel_rfl) (fun _ _ _ h => h) (Or.inr ⟨by rfl, rfl⟩) ?_ ?_
        rotate_left
        · simp only [Act.put, List.setIfInBounds_toArray, List.set_cons_zero, List.set_cons_succ, i64_w, i32_w]
          rfl
        refine pure_ (i := 7) (N := some 58) (v := undef) (a' := ?_) #[true, true, true, true, true, true, true, true, false] rfl rfl (by kernel_rfl) (fun _ _ _ h => h) (Or.inr ⟨by rfl, rfl⟩) ?_ ?_
        rotate_left
        · simp only [Act.put, List.setIfInBounds_toArray, List.set_cons_zero, List.set_cons_succ, i64_w, i32_w]
          rfl
        refine pure_ (i := 8) (N := some 59) (v := ?_) (a' := ?_) #[true, true, true, true, true, true, true, true, true] rfl rfl (by kernel_rfl) (fun _ _ _ h => h) (Or.inl ⟨by rfl, ?_⟩) ?_ ?_
        rotate_left
        · intro w'
          go_simp
          with_reducible rfl
        rotate_left
        · simp only [Act.put, List.setIfInBounds_toArray, List.set_cons_zero, List.set_cons_succ, i64_w, i32_w]
          rfl
        refine done_ (by kernel_rfl) ?_
        obtain ⟨t0, t1⟩ := hHeld
        refine hK2 _ _ (wpIn_cond_false rfl (wpIn_skip ?_))
        refine HREST.out _ _ _ _ _ _ _ _ _ _ _ _ _ _ _ xs0 true (keeps_of_below t1 _) (t1.mono hwW) ((t1.block _ (Array.getElem?_eq_some_iff.1 H7U.out).1).trans H7U.out) ((t1.block _ (Array.getElem?_eq_some_iff.1 HX.out).1).trans HX.out) (boxed_block BP.out t1) (outC_below HO.out t1) (by omega) (by have := t1.size; omega) ?_
        rw [HSN.out]
        unfold insStep
        rw [if_neg (fun h => by cases h.1)]
    case done =>
      rintro D xs U hD hxs ⟨h7D, hbP, hOut, hB2, hz2⟩ hKm
      have hx2 : xs.map Subtype.val = zs := by rw [hxs]; exact HFZ.out
      rw [hx2] at hbP hOut
      have hil := insL_len (mp, dp) zs
      generalize hst : insL (mp, dp) zs = st at hbP hOut hil
      obtain ⟨xs0, pl⟩ := st
      simp only at hbP hOut hil
      obtain ⟨v, hbv, hSv⟩ := hOut
      have hwW := hB2.size
      have cO := hbv.cell
      have cP := hbP.cell
      have BV := Lib.hid hbv
      have BP := Lib.hid hbP
      have HSV := Lib.hid hSv
      have H7D := Lib.hid h7D
      have HKm := Lib.hid hKm
      have HST := Lib.hid hst
      have hi17' : (Try.prog.info? 53).map (·.size) = some (Value.int .i64 (mp : Int) :: bys dp).length := by rw [HL2.out]; exact size53
      have HI7 := Lib.hid hi17'
      clear hxs hx2 hbv hbP hSv h7D hKm hst hi17' hO b5 hPP h7
      cases pl
      · go_wp2
        refine wp_normal ?_
        refine start_ (n := 6) (S := (fun V => V.cell? ⟨g11, 0, none⟩ = some v ∧ V.heap[g7]? = some (.cells (.int .i64 (mp : Int) :: bys dp).toArray 53 (0, 0)) ∧ Below U.heap.size U V)) (ds := [4, 5]) #[false, false, false, false, false, false] (by kernel_rfl) rfl rfl ⟨cO, H7D.out, (Below.refl _ _).drew⟩ (fun hHeld => ?_)
        refine take_ (i := 0) (N := some 89) (v := ?_) (a' := ?_) #[true, false, false, false, false, false] rfl rfl (by kernel_rfl) (fun _ _ _ h => h) (Or.inl ⟨by rfl, ?_⟩) hHeld ?_ ?_
        rotate_left
        · rintro w' ⟨s0, s1, s2⟩
          go_simp
          with_reducible rfl
        rotate_left
        · simp only [Act.put, List.setIfInBounds_toArray, List.set_cons_zero, List.set_cons_succ, i64_w, i32_w]
          rfl
        refine take_ (i := 1) (N := some 90) (v := _) (a' := ?_) #[true, true, false, false, false, false] rfl rfl (by kernel_rfl) (fun _ _ _ h => h) (row_if (by rfl) 53 _ rfl g7 rfl (.int .i64 (mp : Int) :: bys dp) 53 _ (fun _ hS => hS.2.1) Try.underlying53 rfl HI7.out) hHeld ?_ ?_
        rotate_left
        · simp only [Act.put, List.setIfInBounds_toArray, List.set_cons_zero, List.set_cons_succ, i64_w, i32_w]
          rfl
        refine one_ (i := 2) (N := some 91) #[true, true, true, false, false, false] rfl rfl (by kernel_rfl) (by decide) (fun K hK => ?_)
        refine goes_ Try.func31 (by kernel_rfl) rfl #[.agg (.int .i64 (mp : Int) :: bys dp).toArray] (by rfl) rfl rfl (by simp only [List.map_toArray, List.map_cons, List.map_nil]; rfl) ?_
        refine (row_calls (mp : Int) dp HDP.out _).mono ?_
        rintro e u ⟨gr, hg1, rfl, hg3, hb⟩
        refine ⟨_, rfl, ?_⟩
        obtain ⟨s0, s1, s2⟩ := hHeld
        have hgrU : U.heap.size ≤ gr := Nat.le_trans s2.size hg1
        have t2 := s2.trans (hb.mono s2.size)
        have HG3 := Lib.hid hg3
        refine hK.out _ _ ⟨(hb.cell (World.block_lt_of_cell? _ _ s0)).trans s0, (hb.block _ (Array.getElem?_eq_some_iff.1 s1).1).trans s1, t2⟩ (fun hHeld => ?_)
        clear hK K s0 s1 s2 t2 hb hg1 hg3
        refine norm_ (a' := ?_) ?_ ?_
        rotate_left
        · show Act.put _ (some 91) _ = _
          simp only [Act.put, List.setIfInBounds_toArray, List.set_cons_zero, List.set_cons_succ, i64_w, i32_w]
          rfl
        refine one_ (i := 3) (N := some 92) #[true, true, true, true, false, false] rfl rfl (by kernel_rfl) (by decide) (fun K hK => ?_)
        obtain ⟨s0, s1, s2⟩ := hHeld
        refine event_step (by rfl) (exec_bs rfl (vs := #[(0, .agg #[.int .i64 (mp : Int), .slice (some ⟨gr, 0, none⟩) 16 16])]) (by simp only [List.map_toArray, List.map_cons, List.map_nil]; rfl) (run_bs _ gr u)) ?_
        have HU2 := Lib.hid s2
        have ha := (Below.refl u.heap.size u).alloc (Nat.le_refl _) (.cells #[.int .i64 (mp : Int), .slice (some ⟨gr, 0, none⟩) 16 16] 25)
        refine hK.out _ _ ⟨(ha.cell (World.block_lt_of_cell? _ _ s0)).trans s0, (ha.block _ (Array.getElem?_eq_some_iff.1 s1).1).trans s1, s2.trans (ha.mono s2.size)⟩ (fun hHeld => ?_)
        clear hK K s0 s1 s2 ha
        refine norm_ (a' := ?_) ?_ ?_
        rotate_left
        · show Act.put _ (some 92) _ = _
          simp only [Act.put, List.setIfInBounds_toArray, List.set_cons_zero, List.set_cons_succ, i64_w, i32_w]
          rfl
        refine last_ (i := 4) (N := some 93) #[true, true, true, true, true, false] rfl rfl (by kernel_rfl) (by decide) (fun K hK => ?_)
        have s2 := HU2.out
        have hus := s2.size
        refine app_step (by rfl) (.tmp 89) (.tmp 92) rfl U u w.heap.size v (xs0) (mp : Int) dp gr rfl rfl (Kd.S_mono (Kd.S_below (Kd.S_bound HSV.out) s2) (fun k hk => by have := hk.2.2.1; omega)) HG3.out (by omega) HDP.out (s2.mono hwW) (by omega) (by omega) ?_
        intro v1 w1 h1 h2 h3 h4
        obtain ⟨A', c', rfl⟩ := Kd.R_slice (Kd.S_R h1)
        have bv1 : Boxed w1 g11 22 v := h4 _ _ (boxed_block BV.out s2) (fun cs e => by cases e)
        refine hK.out _ _ ?_
        clear hK K
        refine norm_ (a' := ?_) ?_ ?_
        rotate_left
        · show Act.put _ (some 93) _ = _
          simp only [Act.put, List.setIfInBounds_toArray, List.set_cons_zero, List.set_cons_succ, i64_w, i32_w]
          rfl
        refine last_ (i := 5) (N := none) #[true, true, true, true, true, true] rfl rfl (by kernel_rfl) (by decide) (fun K hK => ?_)
        refine store_step (by rfl) rfl rfl rfl rfl (run_st22 g11 v w1 A' _ c' bv1) ?_
        refine hK.out _ _ ?_
        refine done_ (by kernel_rfl) ?_
        have bvf := bv1.set (.slice A' (xs0 ++ [(⟨(mp : Int), dp⟩ : S25)]).length c')
        have hSf := S_own h1 bv1 (.slice A' (xs0 ++ [(⟨(mp : Int), dp⟩ : S25)]).length c')
        have hBf : Below w.heap.size U (w1.setCell ⟨g11, 0, none⟩ (.slice A' (xs0 ++ [(⟨(mp : Int), dp⟩ : S25)]).length c')) := h2.setCell (p := ⟨g11, 0, none⟩) hg9 _
        have hKf : (w1.setCell ⟨g11, 0, none⟩ (.slice A' (xs0 ++ [(⟨(mp : Int), dp⟩ : S25)]).length c')).heap[D]? = some (.deferred (some [])) := by
          rw [Below.heap_setCell _ _ _ _ (by simp; omega)]
          exact h4 _ _ ((HU2.out.block _ (Array.getElem?_eq_some_iff.1 HKm.out).1).trans HKm.out) (fun cs e => by cases e)
        have hans2 : insS (mp, dp) zs = xs0 ++ [(⟨(mp : Int), dp⟩ : S25)] := by
          unfold insS; rw [HST.out]; rfl
        generalize w1.setCell ⟨g11, 0, none⟩ (.slice A' (xs0 ++ [(⟨(mp : Int), dp⟩ : S25)]).length c') = V at *
        have cO2 := bvf.cell
        have HSF := Lib.hid hSf
        have HKF := Lib.hid hKf
        clear hSf hKf bvf h1 h2 h3 h4 bv1 cO cP
        go_wp2
        refine ⟨by simp, .inl ⟨_, _, rfl, run_takeDeferred HKF.out, ?_⟩⟩
        refine ⟨.tuple #[.slice A' (xs0 ++ [(⟨(mp : Int), dp⟩ : S25)]).length c', .bool true, .int .i64 0], by simp [results, Try.results12, go_sem], ?_⟩
        rw [HANS.out, hans2]
        exact add_fin HSF.out HKF.out (by omega) (hB2.trans hBf)
      · go_wp2
        have hans2 : insS (mp, dp) zs = xs0 := by
          unfold insS; rw [HST.out]; rfl
        obtain ⟨A', c', rfl⟩ := Kd.R_slice (Kd.S_R HSV.out)
        refine ⟨by simp, .inl ⟨_, _, rfl, run_takeDeferred HKm.out, ?_⟩⟩
        refine ⟨.tuple #[.slice A' xs0.length c', .bool true, .int .i64 0], by simp [results, Try.results12, go_sem], ?_⟩
        rw [HANS.out, hans2]
        exact add_fin HSV.out HKm.out (by omega) hB2
    case stop =>
      rintro D c pre W _ _ h _
      exact h.elim
end Go.Proofs.Ytknlbeojdmeljaa.H
