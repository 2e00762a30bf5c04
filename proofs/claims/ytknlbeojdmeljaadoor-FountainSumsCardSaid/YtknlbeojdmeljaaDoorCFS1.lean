-- cut by shake.py (own program) out of this session's texts
import Derived.Test.YtknlbeojdmeljaaDoorCFS0
namespace Go.Proofs.YtknlbeojdmeljaaDoor.H
open Go.RowKit Go.Proofs.YtknlbeojdmeljaaDoorW.PrintWords Go.Proofs.YtknlbeojdmeljaaDoorW.PrintLast Go.Proofs.YtknlbeojdmeljaaDoorW.PrintMore Go.Proofs.YtknlbeojdmeljaaDoor.P
set_option linter.unusedVariables false
set_option linter.unusedSimpArgs false
theorem keeps_app {w w1 : World} (h3 : w.heap.size ≤ w1.heap.size) (h4 : ∀ (k : Nat) (ob : Obj), w.heap[k]? = some ob → (∀ cs, ob ≠ Obj.cells cs 52 (0, 0)) → w1.heap[k]? = some ob) (B : Nat) : KeepsFrom B w w1 :=
  ⟨h3, fun k o _ ho hc => h4 k o ho (by rintro cs rfl; cases hc)⟩
theorem rowE_m (x : FRow) : (⟨(x.m : Int), x.1.f1⟩ : S25) = x.1 := by
  obtain ⟨⟨a, b⟩, h⟩ := x
  have := FRow.m_eq ⟨⟨a, b⟩, h⟩
  simp only at this
  rw [← this]
theorem insL_len (e : Nat × List Int) (p : List S25) : (insL e p).1.length ≤ 2 * p.length := by
  have key : ∀ (q : List S25) (s : List S25 × Bool), (q.foldl (insStep e) s).1.length ≤ s.1.length + 2 * q.length := by
    intro q
    induction q with
    | nil => intro s; simp
    | cons r q ih =>
      intro s
      have h1 : (insStep e s r).1.length ≤ s.1.length + 2 := by
        unfold insStep
        split <;> simp
      have h2 := ih (insStep e s r)
      simp only [List.foldl_cons, List.length_cons]
      omega
  have := key p ([], false)
  simpa [insL] using this
theorem add_fin {w U : World} {D : Nat} {v : Value} {xs : List S25} (hS : Kd.S k25 52 U w.heap.size (fun _ => True) v xs) (hK : U.heap[D]? = some (.deferred (some []))) (hD : w.heap.size ≤ D) (hB : Below w.heap.size w U) :
    ∃ u, Ending.returned (.tuple #[v, .bool (xs, true, (0 : Int)).2.1, .int .i64 (xs, true, (0 : Int)).2.2]) = .returned (.tuple #[u, .bool (xs, true, (0 : Int)).2.1, .int .i64 (xs, true, (0 : Int)).2.2]) ∧ Kd.S k25 52 (U.putObj D (.deferred none)) w.heap.size (fun _ => True) u (xs, true, (0 : Int)).1 ∧ Below w.heap.size w (U.putObj D (.deferred none)) := by
  refine ⟨_, rfl, Kd.S_mono (Kd.S_step (Kd.S_bound hS) (fun k hk _ => World.putObj_heap_other (fun e => ?_))) (fun _ _ => trivial), hB.trans (belowK_b (w := w) (Nat.le_refl _) U D _ (.deferred none) hD hK rfl rfl)⟩
  obtain ⟨_, _, _, q, _, cells, hc⟩ := hk
  subst e
  rw [hc] at hK
  cases hK
theorem eqg53 (x y : Operand) (xs ys : Array Value) (w : World) : (eqGuard .eql 76 x y (.agg xs) (.agg ys)).run Tryd.prog w = .ok () w := by
  kernel_rfl
theorem exec_eql53 {a : Act} {o : Oper} {x y : Operand} {s : TypeId} {m : Int} {d : List Int} {w : World} (ho : o.op = .binOp .eql 76 x y s) (hx : a.eval x = .agg (.int .i64 m :: bys d).toArray) (hy : a.eval y = .agg (.int .i64 0 :: bys z16).toArray) (hd : d.length = 16) {b : Bool} (hb : (m == 0 && d == z16) = b) :
    (execOp a.eval o).run Tryd.prog w = .ok (.value (.bool b)) w := by
  subst hb
  unfold execOp
  simp only [ho, Sem.run_bind]
  rw [hx, hy, eqg53]
  simp only [Result.andThen]
  rw [eq53 m d hd w]
  rfl
set_option maxRecDepth 100000 in
set_option maxHeartbeats 1000000 in
theorem add_calls (A : Option Addr) (cap : Nat) (zs : List S25) (m : Int) (A1 : Option Addr) (c1 : Nat) (ds : List Int) (w : World) (hr : Kd.C k25 w A zs.length zs) (hx : Kd.C (Kd.int .u8) w A1 ds.length ds) (hlen : zs.length ≤ 1000000) :
    Calls Tryd.prog 34 #[.slice A zs.length cap, .agg #[.int .i64 m, .slice A1 ds.length c1]] w fun e w' => ∃ v, e = .returned (.tuple #[v, .bool (addS zs m ds).2.1, .int .i64 (addS zs m ds).2.2]) ∧ Kd.S k25 52 w' w.heap.size (fun _ => True) v (addS zs m ds).1 ∧ Below w.heap.size w w' := by
  have out : ∀ (w' : World), Below w.heap.size w w' → (validS zs = false ∨ fineB m ds = false) → ∃ v, Ending.returned (.tuple #[.slice none 0 0, .bool false, .int .i64 1]) = .returned (.tuple #[v, .bool (addS zs m ds).2.1, .int .i64 (addS zs m ds).2.2]) ∧ Kd.S k25 52 w' w.heap.size (fun _ => True) v (addS zs m ds).1 ∧ Below w.heap.size w w' := by
    intro w' hb h
    have : addS zs m ds = ([], false, 1) := if_pos h
    rw [this]
    exact ⟨_, rfl, Kd.S_nil _ _ _ _ _, hb⟩
  have OUT := Lib.hid out
  have hba : ∀ o : Obj, Below w.heap.size w (w.alloc o) := fun o => (Below.refl _ _).alloc (Nat.le_refl _) _
  have HBA := Lib.hid hba
  have hl17 : (Value.int .i64 m :: bys (pad16 ds)).length = 17 := by rw [List.length_cons, bys_len, pad16_len]
  have HL := Lib.hid hl17
  have hone := eq_one m (pad16 ds)
  have HX := Lib.hid hx
  have HR := Lib.hid hr
  clear out hba hl17 hx hr
  refine (callsIn_wide (n := 3)).1 (callsIn_of_wp_marks Tryd.func34 rfl trivial (wpIn_wide.2 ?_) rfl)
  simp only [Tryd.ntmps34, List.size_toArray, List.length_cons, List.length_nil, Nat.reduceAdd, Nat.reduceSub, Array.replicate_succ, Array.replicate_zero, List.push_toArray, List.append_toArray, List.nil_append, List.cons_append]
  have hu25 := Tryd.underlying52
  by_cases hbad : validS zs = false ∨ fineB m ds = false
  · have HBAD := Lib.hid hbad
    have hcond : (!(validS zs) || !(fineB m ds)) = true := by rcases hbad with h | h <;> simp [h]
    cases hv : validS zs <;> cases hf : fineB m ds <;> simp only [hv, hf] at hcond
    all_goals clear hbad
    rotate_right
    · cases hcond
    all_goals
      go_wp2_with (first
        | (go_at_call 45; refine (formed_calls m A1 c1 ds _ (Kd.C_below HX.out (HBA.out _))).mono ?_; rintro e w1 ⟨rfl, hb1⟩; have HB1 := Lib.hid hb1; clear hb1)
        | (refine wpList_store_row rfl 76 _ _ rfl _ (.int .i64 m :: bys (pad16 ds)) _ 76 rfl rfl (blk_new rfl) (by rw [HL.out]; rfl) (by rw [HL.out]; exact size53) hone ?_; intro w2 g1 g2 g3 g4; have hb2 := (HBA.out (.cells #[.int .i64 m, .slice A1 ds.length c1] 52)).trans (HB1.out.mono (HBA.out _).size); have HB2 := Lib.hid (g4 _ _ hb2.size (hb2.alloc hb2.size _)); clear g1 g2 g3 g4 hb2)
        | (go_at_call 46; refine (valid_calls A cap zs _ (Kd.C_below HR.out HB2.out)).mono ?_; rintro e w3 ⟨rfl, hb3⟩; have HB3 := Lib.hid hb3; clear hb3; rw [hv]))
      exact ⟨.tuple #[.slice none 0 0, .bool false, .int .i64 1], by simp [results, Tryd.results34, go_sem], OUT.out _ (HB2.out.trans (HB3.out.mono HB2.out.size)) HBAD.out⟩
  have hv : validS zs = true := by
    cases h : validS zs
    · exact absurd (.inl h) hbad
    · rfl
  have hf : fineB m ds = true := by
    cases h : fineB m ds
    · exact absurd (.inr h) hbad
    · rfl
  have hsp := FRow.spec ⟨⟨m, ds⟩, hf⟩
  simp only at hsp
  obtain ⟨mn, hmn⟩ := Int.eq_ofNat_of_zero_le (show 0 ≤ m by omega)
  subst hmn
  have hmn16 : mn < 65536 := by omega
  have hd16 := hsp.2.2
  rw [pad16_of _ hd16] at hone HL
  have hok := redS_ok hv (mn, ds) ⟨hmn16, hd16⟩
  have hs : addS zs (mn : Int) ds = if redS zs (mn, ds) = (0, z16) then (zs, false, 0) else if (redS zs (mn, ds)).1 = 0 then ([], false, 12) else (insS (redS zs (mn, ds)) zs, true, 0) := by
    unfold addS; rw [if_neg hbad]; rfl
  have hred := fun w' (h : Below w.heap.size w w') => reduce_calls' A cap zs hv mn hmn16 ds hd16 w' (Kd.C_below HR.out h)
  obtain ⟨fz, hfz⟩ := valid_fz hv
  have hfl : fz.length = zs.length := by rw [← hfz, List.length_map]
  generalize hq : redS zs (mn, ds) = q at hok hs hred
  obtain ⟨mp, dp⟩ := q
  obtain ⟨hmp, hdp⟩ := hok
  simp only at hmp hdp hs hred
  have hl17 : (Value.int .i64 (mp : Int) :: bys dp).length = 17 := by rw [List.length_cons, bys_len, hdp]
  have hone2 := eq_one (mp : Int) dp
  have HL2 := Lib.hid hl17
  have HS := Lib.hid hs
  have HDP := Lib.hid hdp
  have HRED := Lib.hid hred
  have HFZ := Lib.hid hfz
  have HFL := Lib.hid hfl
  have HD16 := Lib.hid hd16
  have HV := Lib.hid hv
  have hp16 : pad16 ds = ds := pad16_of _ hd16
  have HP16 := Lib.hid hp16
  clear hl17 hq hs hdp hred hsp hbad hfz hfl hd16 hp16 hmn16
  obtain ⟨bz, hbz⟩ : ∃ b, ((mp : Int) == 0 && dp == z16) = b := ⟨_, rfl⟩
  obtain ⟨b0, hb0⟩ : ∃ b, ((mp : Int) == 0) = b := ⟨_, rfl⟩
  have hcs : (bz = true ↔ (mp = 0 ∧ dp = z16)) ∧ (b0 = true ↔ mp = 0) := by
    rw [← hbz, ← hb0]; simp
  have HCS := Lib.hid hcs
  have HBZ := Lib.hid hbz
  clear hcs hbz
  cases bz
  rotate_left
  · -- the same rows again
    have hans : addS zs (mn : Int) ds = (zs, false, 0) := by
      have := HCS.out.1.1 rfl
      rw [HS.out, if_pos (by rw [this.1, this.2])]
    have HANS := Lib.hid hans
    clear hans
    go_wp2_with (first
      | (go_at_call 45; refine (formed_calls (mn : Int) A1 c1 ds _ (Kd.C_below HX.out (HBA.out _))).mono ?_; rw [HP16.out, hf]; rintro e w1 ⟨rfl, hb1⟩; have HB1 := Lib.hid hb1; clear hb1)
      | (refine wpList_store_row rfl 76 _ _ rfl _ (.int .i64 (mn : Int) :: bys ds) _ 76 rfl rfl (blk_new rfl) (by rw [HL.out]; rfl) (by rw [HL.out]; exact size53) hone ?_; intro w2 g1 g2 g3 g4; have hb2 := (HBA.out (.cells #[.int .i64 (mn : Int), .slice A1 ds.length c1] 52)).trans (HB1.out.mono (HBA.out _).size); have HB2 := Lib.hid (g4 _ _ hb2.size (hb2.alloc hb2.size _)); have hg7 := hb2.size; have hs2 : w2.heap.size = w1.heap.size + 1 := (by rw [g3]; simp); clear g2 g3 g4 hb2)
      | (go_at_call 48; refine (equations_calls _ _ _ _).mono ?_; rintro e w' ⟨rfl, rfl⟩)
      | (go_at_call 46; refine (valid_calls A cap zs _ (Kd.C_below HR.out HB2.out)).mono ?_; rw [HV.out]; rintro e w3 ⟨rfl, hb3⟩; have HB3 := Lib.hid hb3; have g1' := (hb3.block _ (Array.getElem?_eq_some_iff.1 g1).1).trans g1; clear hb3)
      | (refine wpList_load_row rfl 76 _ rfl w1.heap.size rfl 76 _ (0, 0) _ g1' Tryd.underlying76 rfl (by simp only [List.size_toArray]; rw [HL.out]; exact size53) ?_)
      | (go_at_call 47; refine (HRED.out _ (HB2.out.trans (HB3.out.mono HB2.out.size))).mono ?_; rintro e w4 ⟨rfl, hb4⟩; have HB4 := Lib.hid hb4; have g1'' := (hb4.block _ (Array.getElem?_eq_some_iff.1 g1').1).trans g1'; clear hb4)
      | (refine wpList_store_row rfl 76 _ _ rfl w1.heap.size (.int .i64 (mp : Int) :: bys dp) _ 76 rfl rfl g1'' (by rw [HL2.out, List.size_toArray, HL.out]) (by rw [HL2.out]; exact size53) hone2 ?_; intro w5 p1 p2 p3 p4; have hb3 := HB2.out.trans (HB3.out.mono HB2.out.size); have hb4 := hb3.trans (HB4.out.mono hb3.size); have HB5 := Lib.hid (p4 _ _ hg7 hb4); have hsz5 := p3; have c0 : w5.cell? ⟨w1.heap.size, 0, none⟩ = some (.int .i64 (mp : Int)) := (cell_of_row w5 _ 0 _ 76 (0, 0) p1).trans (by simp); clear p2 p3 p4 hb3 hb4)
      | (refine wpList_load_row rfl 76 _ rfl w1.heap.size rfl 76 _ (0, 0) _ p1 Tryd.underlying76 rfl (by simp only [List.size_toArray]; rw [HL2.out]; exact size53) ?_)
      | (refine Kd.event_run rfl (exec_eql53 (x := .tmp 30) (y := .tmp 31) (m := (mp : Int)) (d := dp) rfl rfl (by rw [zrow]; rfl) HDP.out HBZ.out) ?_))
    have hg9 : w.heap.size ≤ w4.heap.size := by have := HB5.out.size; omega
    have sz0 : ((w5.alloc (.cells #[.slice none 0 0] 23)).alloc (.cells #[.slice A zs.length cap] 23)).heap.size = w4.heap.size + 1 + 1 := by simp [hsz5]
    have bO : Boxed ((w5.alloc (.cells #[.slice none 0 0] 23)).alloc (.cells #[.slice A zs.length cap] 23)) w4.heap.size 23 (.slice none 0 0) := by
      have := (Boxed.new w5 23 (.slice none 0 0)).alloc (.cells #[.slice A zs.length cap] 23)
      rwa [hsz5] at this
    have b5 : ((w5.alloc (.cells #[.slice none 0 0] 23)).alloc (.cells #[.slice A zs.length cap] 23)).heap[w4.heap.size + 1]? = some (.cells #[.slice A zs.length cap] 23 (0, 0)) := blk_new (by simp [hsz5])
    have hB0 : Below w.heap.size w ((w5.alloc (.cells #[.slice none 0 0] 23)).alloc (.cells #[.slice A zs.length cap] 23)) := (HB5.out.alloc HB5.out.size _).alloc (by simp; omega) _
    have hO : OutC w.heap.size w4.heap.size [] ((w5.alloc (.cells #[.slice none 0 0] 23)).alloc (.cells #[.slice A zs.length cap] 23)) := ⟨_, bO, Kd.S_nil _ _ _ _ _⟩
    generalize (w5.alloc (.cells #[.slice none 0 0] 23)).alloc (.cells #[.slice A zs.length cap] 23) = W0 at *
    generalize w1.heap.size = g7 at *
    generalize w4.heap.size = g9 at *
    clear bO g1 g1' g1'' p1 c0 HB2 HB3 HB4 HB5 HB1 hs2 hsz5 hg7
    refine (wpIn_wide (n := 3)).1 (wpIn_rangeFunc_ownH (F := Fence.wide) (n := 3) rfl (by omega) (gf := 61) (lb := #[.pointer (some ⟨g9 + 1, 0, none⟩)]) rfl trivial (enters_of Tryd.func61 (by kernel_rfl) rfl)
      (iter_stops (fun x : FRow => x.1) (3 - 1) (g9 + 1) w.heap.size A cap fz W0 (by omega) (by omega) (by rw [HFL.out]; exact (cell_of_row W0 _ 0 _ 23 (0, 0) b5).trans rfl) (fun W' h => by rw [HFL.out]; rw [show fz.map (fun x : FRow => x.1) = zs from HFZ.out]; exact Kd.C_below HR.out (hB0.trans h))) belowK_t (belowK_b (by omega)) (Below.refl _ _) (fun _ => rfl)
      (fun (pre : List FRow) W => OutC w.heap.size g9 (pre.map Subtype.val) W ∧ Below w.heap.size w W ∧ W0.heap.size ≤ W.heap.size)
      (fun _ _ _ => False)
      (fun s X Y row hs hg hr => by
        obtain ⟨h1, h2, h3⟩ := hs
        exact ⟨outC_round h1 hg hr, h2.grown hg (by have := h2.size; omega) (fun k e => by have := (hr k e).1; omega), Nat.le_trans h3 hg.size⟩)
      (fun _ _ _ _ _ hs _ _ => hs)
      ⟨hO, hB0, Nat.le_refl _⟩
      (fun x a' Z => ∃ Bx, W0.heap.size ≤ Bx ∧ Z.heap[Bx]? = some (.cells (.int .i64 (x.m : Int) :: bys x.1.f1).toArray 76 (0, 0)) ∧ a' = { tmps := #[.slice A zs.length cap, .agg #[.int .i64 (mn : Int), .slice A1 ds.length c1], undef, .pointer (some ⟨w.heap.size, 0, none⟩), .slice none 0 0, .bool false, .int .i64 0, .pointer (some ⟨g7, 0, none⟩), .bool true, .pointer (some ⟨g9, 0, none⟩), .pointer (some ⟨Bx, 0, none⟩), undef, undef, undef, .tuple #[.agg (.int .i64 (mn : Int) :: bys ds).toArray, .bool true], .agg #[.int .i64 (mn : Int), .slice A1 ds.length c1], .tuple #[.agg (.int .i64 (mn : Int) :: bys ds).toArray, .bool true], .agg (.int .i64 (mn : Int) :: bys ds).toArray, .bool true, .slice A zs.length cap, .bool true, .bool false, .bool false, .bool true, .bool false, .bool false, .slice A zs.length cap, .agg (.int .i64 (mn : Int) :: bys ds).toArray, .agg (.int .i64 (mp : Int) :: bys dp).toArray, .bool true, .agg (.int .i64 (mp : Int) :: bys dp).toArray, .agg #[.int .i64 0, .int .u8 0, .int .u8 0, .int .u8 0, .int .u8 0, .int .u8 0, .int .u8 0, .int .u8 0, .int .u8 0, .int .u8 0, .int .u8 0, .int .u8 0, .int .u8 0, .int .u8 0, .int .u8 0, .int .u8 0, .int .u8 0], .bool true, .slice A zs.length cap, .func (.func 61) #[] #[.pointer (some ⟨g9 + 1, 0, none⟩)], .agg (.int .i64 (x.m : Int) :: bys x.1.f1).toArray, .bool true, undef, undef, undef, undef, undef, undef, undef, undef, undef, undef, undef, undef, undef, undef, undef, undef, undef, undef, undef, undef, undef, undef, undef, undef, undef, undef, undef, undef, undef, undef, undef, undef, undef, undef, undef, undef, undef, undef, undef, undef, undef, undef, undef, undef, undef, undef, undef, undef, undef, undef, undef, undef, undef, undef, undef, undef, undef, undef], defers := [] })
      (fun x a' s X Y row hs hg hr => by obtain ⟨Bx, h1, h2, h3⟩ := hs; exact ⟨Bx, h1, keep_block h2 hg hr, h3⟩)
      ?assign ?body ?done ?stop)
    case assign =>
      intro l pre x U K hI hK
      have hsp := x.spec
      have he : encE x.1 = #[.agg (.int .i64 (x.m : Int) :: bys x.1.f1).toArray, .bool true] := by
        unfold encE; rw [pad16_of _ hsp.2.2, x.2, x.m_eq]
      rw [he]
      have hout : ¬ LetsOut (Exit.then K (fun _ _ _ => False)) := fun ⟨_, _, h⟩ => h
      refine plain_in (by rfl) hout ?_
      simp only [List.zip_toArray, List.zip_cons_cons, List.zip_nil_right, List.foldl_toArray, List.foldl_cons, List.foldl_nil, List.setIfInBounds_toArray, List.set_cons_zero, List.set_cons_succ]
      have hl17 : (Value.int .i64 (x.m : Int) :: bys x.1.f1).length = 17 := by rw [List.length_cons, bys_len, hsp.2.2]
      have H17 := Lib.hid hl17
      have hone : ∀ v ∈ Value.int .i64 (x.m : Int) :: bys x.1.f1, v.oneCell' = true := eq_one _ _
      have HK2 := Lib.hid hK
      have HI := Lib.hid hI
      clear hl17 hsp he hK hI
      go_wp2_with (first | (refine wpList_store_row rfl 76 _ _ rfl U.heap.size (.int .i64 (x.m : Int) :: bys x.1.f1) _ 76 rfl rfl (blk_new rfl) (by rw [H17.out]; rfl) (by rw [H17.out]; exact size53) hone ?_; intro w1 g1 g2 g3 g4))
      obtain ⟨i1, i4, i5⟩ := HI.out
      have hwW := i4.size
      have hB1 : Below w.heap.size U w1 := g4 _ _ hwW ((Below.refl _ _).alloc hwW _)
      have hB1' : Below U.heap.size U w1 := g4 _ _ (Nat.le_refl _) ((Below.refl _ _).alloc (Nat.le_refl _) _)
      exact HK2.out _ _ ((keeps_of_below ((Below.refl _ U).alloc (Nat.le_refl _) _) _).trans (keeps_of_cells (blk_new rfl) g2 g3 _)) hB1
        ⟨outC_below i1 hB1', i4.trans hB1, by rw [g3]; simp; omega⟩ ⟨U.heap.size, i5, g1, rfl⟩
    case body =>
      rintro l pre x a' U hl hrec ⟨⟨v, hbv, hSv⟩, hB2, hz2⟩ ⟨Bx, hBx, hx, rfl⟩ hlen2
      have hwW := hB2.size
      have hxs := x.spec
      have hi17 : (Tryd.prog.info? 76).map (·.size) = some (Value.int .i64 (x.m : Int) :: bys x.1.f1).length := by rw [List.length_cons, bys_len, hxs.2.2]; exact size53
      have cO := hbv.cell
      have HX := Lib.hid hx
      have HXS := Lib.hid hxs
      have HI17 := Lib.hid hi17
      have BV := Lib.hid hbv
      have HSV := Lib.hid hSv
      have HLEN : pre.length < 1000000 := by have := HFL.out; omega
      clear hx hi17 hbv hSv hrec hxs hO b5
      refine wpIn_block ?_
      have hout : ¬ LetsOut (Exit.inBlock 2 (ownPostG W0.heap.size (Below w.heap.size)
        (fun (pre : List FRow) W => OutC w.heap.size g9 (pre.map Subtype.val) W ∧ Below w.heap.size w W ∧ W0.heap.size ≤ W.heap.size)
        (fun _ _ _ => False) (pre ++ [x]) U)) := fun ⟨_, _, h⟩ => h
      refine start_in (m := 6) (S := (fun V => V.cell? ⟨g9, 0, none⟩ = some v ∧ V.heap[Bx]? = some (.cells (.int .i64 (x.m : Int) :: bys x.1.f1).toArray 76 (0, 0)) ∧ Below U.heap.size U V)) (ds := [4, 5]) #[false, false, false, false, false, false] (by kernel_rfl) (by rfl) hout rfl rfl ⟨cO, HX.out, (Below.refl _ _).drew⟩ (fun hHeld => ?_)
      refine take_ (i := 0) (N := some 37) (v := ?_) (a' := ?_) #[true, false, false, false, false, false] rfl rfl (by kernel_rfl) (fun _ _ _ h => h) (Or.inl ⟨by rfl, ?_⟩) hHeld ?_ ?_
      rotate_left
      · rintro w' ⟨s0, s1, s2⟩
        go_simp
        with_reducible rfl
      rotate_left
      · simp only [Act.put, List.setIfInBounds_toArray, List.set_cons_zero, List.set_cons_succ, i64_w, i32_w]
        rfl
      refine take_ (i := 1) (N := some 38) (v := _) (a' := ?_) #[true, true, false, false, false, false] rfl rfl (by kernel_rfl) (fun _ _ _ h => h) (row_if (by rfl) 76 _ rfl Bx rfl (.int .i64 (x.m : Int) :: bys x.1.f1) 76 _ (fun _ hS => hS.2.1) Tryd.underlying76 rfl HI17.out) hHeld ?_ ?_
      rotate_left
      · simp only [Act.put, List.setIfInBounds_toArray, List.set_cons_zero, List.set_cons_succ, i64_w, i32_w]
        rfl
      refine one_ (i := 2) (N := some 39) #[true, true, true, false, false, false] rfl rfl (by kernel_rfl) (by decide) (fun K hK => ?_)
      refine goes_ Tryd.func49 (by kernel_rfl) rfl #[.agg (.int .i64 (x.m : Int) :: bys x.1.f1).toArray] (by rfl) rfl rfl (by simp only [List.map_toArray, List.map_cons, List.map_nil]; rfl) ?_
      refine (row_calls (x.m : Int) x.1.f1 HXS.out.2.2 _).mono ?_
      rintro e u ⟨gr, hg1, rfl, hg3, hb⟩
      refine ⟨_, rfl, ?_⟩
      obtain ⟨s0, s1, s2⟩ := hHeld
      have hgrU : U.heap.size ≤ gr := Nat.le_trans s2.size hg1
      have t2 := s2.trans (hb.mono s2.size)
      have HG3 := Lib.hid hg3
      refine hK.out _ _ ⟨(hb.cell (World.block_lt_of_cell? _ _ s0)).trans s0, (hb.block _ (Array.getElem?_eq_some_iff.1 s1).1).trans s1, t2⟩ (fun hHeld => ?_)
      clear hK K s0 s1 s2 t2 hb hg1 hg3
      refine norm_ (a' := ?_) ?_ ?_
      rotate_left
      · show Act.put _ (some 39) _ = _
        simp only [Act.put, List.setIfInBounds_toArray, List.set_cons_zero, List.set_cons_succ, i64_w, i32_w]
        rfl
      refine one_ (i := 3) (N := some 40) #[true, true, true, true, false, false] rfl rfl (by kernel_rfl) (by decide) (fun K hK => ?_)
      obtain ⟨s0, s1, s2⟩ := hHeld
      refine event_step (by rfl) (exec_bs rfl (vs := #[(0, .agg #[.int .i64 (x.m : Int), .slice (some ⟨gr, 0, none⟩) 16 16])]) (by simp only [List.map_toArray, List.map_cons, List.map_nil]; rfl) (run_bs _ gr u)) ?_
      have HU2 := Lib.hid s2
      have ha := (Below.refl u.heap.size u).alloc (Nat.le_refl _) (.cells #[.int .i64 (x.m : Int), .slice (some ⟨gr, 0, none⟩) 16 16] 52)
      refine hK.out _ _ ⟨(ha.cell (World.block_lt_of_cell? _ _ s0)).trans s0, (ha.block _ (Array.getElem?_eq_some_iff.1 s1).1).trans s1, s2.trans (ha.mono s2.size)⟩ (fun hHeld => ?_)
      clear hK K s0 s1 s2 ha
      refine norm_ (a' := ?_) ?_ ?_
      rotate_left
      · show Act.put _ (some 40) _ = _
        simp only [Act.put, List.setIfInBounds_toArray, List.set_cons_zero, List.set_cons_succ, i64_w, i32_w]
        rfl
      refine last_ (i := 4) (N := some 41) #[true, true, true, true, true, false] rfl rfl (by kernel_rfl) (by decide) (fun K hK => ?_)
      have s2 := HU2.out
      have hus := s2.size
      refine app_step (by rfl) (.tmp 37) (.tmp 40) rfl U u w.heap.size v (pre.map Subtype.val) (x.m : Int) x.1.f1 gr rfl rfl (Kd.S_mono (Kd.S_below (Kd.S_bound HSV.out) s2) (fun k hk => by have := hk.2.2.1; omega)) HG3.out (by omega) HXS.out.2.2 (s2.mono hwW) (by omega) (by simp only [List.length_map]; omega) ?_
      intro v1 w1 h1 h2 h3 h4
      obtain ⟨A', c', rfl⟩ := Kd.R_slice (Kd.S_R h1)
      have bv1 : Boxed w1 g9 23 v := h4 _ _ (boxed_block BV.out s2) (fun cs e => by cases e)
      refine hK.out _ _ ?_
      clear hK K
      refine norm_ (a' := ?_) ?_ ?_
      rotate_left
      · show Act.put _ (some 41) _ = _
        simp only [Act.put, List.setIfInBounds_toArray, List.set_cons_zero, List.set_cons_succ, i64_w, i32_w]
        rfl
      refine last_ (i := 5) (N := none) #[true, true, true, true, true, true] rfl rfl (by kernel_rfl) (by decide) (fun K hK => ?_)
      refine store_step (by rfl) rfl rfl rfl rfl (run_st22 g9 v w1 A' _ c' bv1) ?_
      refine hK.out _ _ ?_
      refine done_ (by kernel_rfl) ?_
      have hs2 := HU2.out.size
      have hBf : Below w.heap.size U (w1.setCell ⟨g9, 0, none⟩ (.slice A' (List.map Subtype.val pre ++ [(⟨(x.m : Int), x.1.f1⟩ : S25)]).length c')) := h2.setCell (p := ⟨g9, 0, none⟩) hg9 _
      refine ⟨((keeps_of_below HU2.out _).trans (keeps_app h3 h4 _)).trans (keeps_set bv1 _ _), hBf, ⟨⟨_, bv1.set _, ?_⟩, hB2.trans hBf, ?_⟩⟩
      · have := S_own h1 bv1 (.slice A' (List.map Subtype.val pre ++ [(⟨(x.m : Int), x.1.f1⟩ : S25)]).length c')
        rw [rowE_m] at this
        rw [List.map_append, rowE_m]
        exact this
      · rw [World.size_setCell]; omega
    case done =>
      rintro D xs U hD hxs ⟨⟨v, hbv, hSv⟩, hB2, hz2⟩ hKm
      have hx2 : xs.map Subtype.val = zs := by rw [hxs]; exact HFZ.out
      rw [hx2] at hSv
      have cO := hbv.cell
      have HSV := Lib.hid hSv
      have HKm := Lib.hid hKm
      clear hxs hx2 hSv hbv hKm hO b5
      go_wp2
      have hbk := belowK_b (w := w) (Nat.le_refl _) U D _ (.deferred none) (by omega) HKm.out rfl rfl
      refine ⟨by simp, .inl ⟨_, _, rfl, run_takeDeferred HKm.out, ?_⟩⟩
      obtain ⟨A', c', rfl⟩ := Kd.R_slice (Kd.S_R HSV.out)
      refine ⟨.tuple #[.slice A' zs.length c', .bool false, .int .i64 0], by simp [results, Tryd.results34, go_sem], ?_⟩
      rw [HANS.out]
      refine ⟨_, rfl, Kd.S_mono (Kd.S_step (Kd.S_bound HSV.out) (fun k hk _ => World.putObj_heap_other (fun e => ?_))) (fun _ _ => trivial), hB2.trans hbk⟩
      obtain ⟨_, _, _, q, _, cells, hc⟩ := hk
      have := HKm.out
      subst e
      rw [hc] at this
      cases this
    case stop =>
      rintro D c pre W _ _ h _
      exact h.elim
  cases b0
  rotate_left
  · -- against the rows
    have hans : addS zs (mn : Int) ds = ([], false, 12) := by
      have h0 := HCS.out.2.1 rfl
      rw [HS.out, if_neg (fun h => by injection h with h1 h2; have := HCS.out.1.2 ⟨h1, h2⟩; cases this), if_pos h0]
    have HANS := Lib.hid hans
    clear hans
    go_wp2_with (first
      | (go_at_call 45; refine (formed_calls (mn : Int) A1 c1 ds _ (Kd.C_below HX.out (HBA.out _))).mono ?_; rw [HP16.out, hf]; rintro e w1 ⟨rfl, hb1⟩; have HB1 := Lib.hid hb1; clear hb1)
      | (refine wpList_store_row rfl 76 _ _ rfl _ (.int .i64 (mn : Int) :: bys ds) _ 76 rfl rfl (blk_new rfl) (by rw [HL.out]; rfl) (by rw [HL.out]; exact size53) hone ?_; intro w2 g1 g2 g3 g4; have hb2 := (HBA.out (.cells #[.int .i64 (mn : Int), .slice A1 ds.length c1] 52)).trans (HB1.out.mono (HBA.out _).size); have HB2 := Lib.hid (g4 _ _ hb2.size (hb2.alloc hb2.size _)); have hg7 := hb2.size; have hs2 : w2.heap.size = w1.heap.size + 1 := (by rw [g3]; simp); clear g2 g3 g4 hb2)
      | (go_at_call 48; refine (equations_calls _ _ _ _).mono ?_; rintro e w' ⟨rfl, rfl⟩)
      | (go_at_call 46; refine (valid_calls A cap zs _ (Kd.C_below HR.out HB2.out)).mono ?_; rw [HV.out]; rintro e w3 ⟨rfl, hb3⟩; have HB3 := Lib.hid hb3; have g1' := (hb3.block _ (Array.getElem?_eq_some_iff.1 g1).1).trans g1; clear hb3)
      | (refine wpList_load_row rfl 76 _ rfl w1.heap.size rfl 76 _ (0, 0) _ g1' Tryd.underlying76 rfl (by simp only [List.size_toArray]; rw [HL.out]; exact size53) ?_)
      | (go_at_call 47; refine (HRED.out _ (HB2.out.trans (HB3.out.mono HB2.out.size))).mono ?_; rintro e w4 ⟨rfl, hb4⟩; have HB4 := Lib.hid hb4; have g1'' := (hb4.block _ (Array.getElem?_eq_some_iff.1 g1').1).trans g1'; clear hb4)
      | (refine wpList_store_row rfl 76 _ _ rfl w1.heap.size (.int .i64 (mp : Int) :: bys dp) _ 76 rfl rfl g1'' (by rw [HL2.out, List.size_toArray, HL.out]) (by rw [HL2.out]; exact size53) hone2 ?_; intro w5 p1 p2 p3 p4; have hb3 := HB2.out.trans (HB3.out.mono HB2.out.size); have hb4 := hb3.trans (HB4.out.mono hb3.size); have HB5 := Lib.hid (p4 _ _ hg7 hb4); have hsz5 := p3; have c0 : w5.cell? ⟨w1.heap.size, 0, none⟩ = some (.int .i64 (mp : Int)) := (cell_of_row w5 _ 0 _ 76 (0, 0) p1).trans (by simp); clear p2 p3 p4 hb3 hb4)
      | (refine wpList_load_row rfl 76 _ rfl w1.heap.size rfl 76 _ (0, 0) _ p1 Tryd.underlying76 rfl (by simp only [List.size_toArray]; rw [HL2.out]; exact size53) ?_)
      | (refine Kd.event_run rfl (exec_eql53 (x := .tmp 30) (y := .tmp 31) (m := (mp : Int)) (d := dp) rfl rfl (by rw [zrow]; rfl) HDP.out HBZ.out) ?_))
    refine ⟨.tuple #[.slice none 0 0, .bool false, .int .i64 12], by simp [results, Tryd.results34, go_sem], ?_⟩
    rw [HANS.out]
    exact ⟨_, rfl, Kd.S_nil _ _ _ _ _, HB5.out⟩
  · -- new
    have hans : addS zs (mn : Int) ds = (insS (mp, dp) zs, true, 0) := by
      rw [HS.out, if_neg (fun h => by injection h with h1 h2; have := HCS.out.1.2 ⟨h1, h2⟩; cases this), if_neg (fun h => by have := HCS.out.2.2 h; cases this)]
    have HANS := Lib.hid hans
    clear hans
    go_wp2_with (first
      | (go_at_call 45; refine (formed_calls (mn : Int) A1 c1 ds _ (Kd.C_below HX.out (HBA.out _))).mono ?_; rw [HP16.out, hf]; rintro e w1 ⟨rfl, hb1⟩; have HB1 := Lib.hid hb1; clear hb1)
      | (refine wpList_store_row rfl 76 _ _ rfl _ (.int .i64 (mn : Int) :: bys ds) _ 76 rfl rfl (blk_new rfl) (by rw [HL.out]; rfl) (by rw [HL.out]; exact size53) hone ?_; intro w2 g1 g2 g3 g4; have hb2 := (HBA.out (.cells #[.int .i64 (mn : Int), .slice A1 ds.length c1] 52)).trans (HB1.out.mono (HBA.out _).size); have HB2 := Lib.hid (g4 _ _ hb2.size (hb2.alloc hb2.size _)); have hg7 := hb2.size; have hs2 : w2.heap.size = w1.heap.size + 1 := (by rw [g3]; simp); clear g2 g3 g4 hb2)
      | (go_at_call 48; refine (equations_calls _ _ _ _).mono ?_; rintro e w' ⟨rfl, rfl⟩)
      | (go_at_call 46; refine (valid_calls A cap zs _ (Kd.C_below HR.out HB2.out)).mono ?_; rw [HV.out]; rintro e w3 ⟨rfl, hb3⟩; have HB3 := Lib.hid hb3; have g1' := (hb3.block _ (Array.getElem?_eq_some_iff.1 g1).1).trans g1; clear hb3)
      | (refine wpList_load_row rfl 76 _ rfl w1.heap.size rfl 76 _ (0, 0) _ g1' Tryd.underlying76 rfl (by simp only [List.size_toArray]; rw [HL.out]; exact size53) ?_)
      | (go_at_call 47; refine (HRED.out _ (HB2.out.trans (HB3.out.mono HB2.out.size))).mono ?_; rintro e w4 ⟨rfl, hb4⟩; have HB4 := Lib.hid hb4; have g1'' := (hb4.block _ (Array.getElem?_eq_some_iff.1 g1').1).trans g1'; clear hb4)
      | (refine wpList_store_row rfl 76 _ _ rfl w1.heap.size (.int .i64 (mp : Int) :: bys dp) _ 76 rfl rfl g1'' (by rw [HL2.out, List.size_toArray, HL.out]) (by rw [HL2.out]; exact size53) hone2 ?_; intro w5 p1 p2 p3 p4; have hb3 := HB2.out.trans (HB3.out.mono HB2.out.size); have hb4 := hb3.trans (HB4.out.mono hb3.size); have HB5 := Lib.hid (p4 _ _ hg7 hb4); have hsz5 := p3; have c0 : w5.cell? ⟨w1.heap.size, 0, none⟩ = some (.int .i64 (mp : Int)) := (cell_of_row w5 _ 0 _ 76 (0, 0) p1).trans (by simp); clear p2 p3 p4 hb3 hb4)
      | (refine wpList_load_row rfl 76 _ rfl w1.heap.size rfl 76 _ (0, 0) _ p1 Tryd.underlying76 rfl (by simp only [List.size_toArray]; rw [HL2.out]; exact size53) ?_)
      | (refine Kd.event_run rfl (exec_eql53 (x := .tmp 30) (y := .tmp 31) (m := (mp : Int)) (d := dp) rfl rfl (by rw [zrow]; rfl) HDP.out HBZ.out) ?_))
    have hg9 : w.heap.size ≤ w4.heap.size := by have := HB5.out.size; omega
    have h74 : w1.heap.size < w4.heap.size := by have h1 := HB3.out.size; have h2 := HB4.out.size; omega
    have hPO := (((Boxed.new w5 23 (.slice none 0 0)).alloc (.cells #[.bool false] 4)).alloc (.cells #[.slice A zs.length cap] 23))
    have hPP := ((Boxed.new (w5.alloc (.cells #[.slice none 0 0] 23)) 4 (.bool false)).alloc (.cells #[.slice A zs.length cap] 23))
    have sz0 : (((w5.alloc (.cells #[.slice none 0 0] 23)).alloc (.cells #[.bool false] 4)).alloc (.cells #[.slice A zs.length cap] 23)).heap.size = w4.heap.size + 1 + 1 + 1 := by simp [hsz5]
    have b5 : (((w5.alloc (.cells #[.slice none 0 0] 23)).alloc (.cells #[.bool false] 4)).alloc (.cells #[.slice A zs.length cap] 23)).heap[w4.heap.size + 1 + 1]? = some (.cells #[.slice A zs.length cap] 23 (0, 0)) := blk_new (by simp [hsz5])
    have hB0 : Below w.heap.size w (((w5.alloc (.cells #[.slice none 0 0] 23)).alloc (.cells #[.bool false] 4)).alloc (.cells #[.slice A zs.length cap] 23)) := ((HB5.out.alloc HB5.out.size _).alloc (by simp; omega) _).alloc (by simp; omega) _
    have h7 : (((w5.alloc (.cells #[.slice none 0 0] 23)).alloc (.cells #[.bool false] 4)).alloc (.cells #[.slice A zs.length cap] 23)).heap[w1.heap.size]? = some (.cells (.int .i64 (mp : Int) :: bys dp).toArray 76 (0, 0)) := by
      rw [Below.heap_alloc _ _ _ (by simp; omega), Below.heap_alloc _ _ _ (by simp; omega), Below.heap_alloc _ _ _ (by omega)]; exact p1
    simp only [World.size_alloc, hsz5] at hPO hPP
    have hO : OutC w.heap.size w4.heap.size [] (((w5.alloc (.cells #[.slice none 0 0] 23)).alloc (.cells #[.bool false] 4)).alloc (.cells #[.slice A zs.length cap] 23)) := ⟨_, hPO, Kd.S_nil _ _ _ _ _⟩
    generalize ((w5.alloc (.cells #[.slice none 0 0] 23)).alloc (.cells #[.bool false] 4)).alloc (.cells #[.slice A zs.length cap] 23) = W0 at *
    have hg7' : w.heap.size ≤ w1.heap.size := hg7
    clear hPO g1 g1' g1'' p1 c0 HB2 HB3 HB4 HB5 HB1 hs2 hsz5 hg7
    generalize w1.heap.size = g7 at *
    generalize w4.heap.size = g11 at *
    refine (wpIn_wide (n := 3)).1 (wpIn_rangeFunc_ownH (F := Fence.wide) (n := 3) rfl (by omega) (gf := 61) (lb := #[.pointer (some ⟨g11 + 1 + 1, 0, none⟩)]) rfl trivial (enters_of Tryd.func61 (by kernel_rfl) rfl)
      (iter_stops (fun x : FRow => x.1) (3 - 1) (g11 + 1 + 1) w.heap.size A cap fz W0 (by omega) (by omega) (by rw [HFL.out]; exact (cell_of_row W0 _ 0 _ 23 (0, 0) b5).trans rfl) (fun W' h => by rw [HFL.out]; rw [show fz.map (fun x : FRow => x.1) = zs from HFZ.out]; exact Kd.C_below HR.out (hB0.trans h))) belowK_t (belowK_b (by omega)) (Below.refl _ _) (fun _ => rfl)
      (fun (pre : List FRow) W => W.heap[g7]? = some (.cells (.int .i64 (mp : Int) :: bys dp).toArray 76 (0, 0)) ∧ Boxed W (g11 + 1) 4 (.bool (insL (mp, dp) (pre.map Subtype.val)).2) ∧ OutC w.heap.size g11 (insL (mp, dp) (pre.map Subtype.val)).1 W ∧ Below w.heap.size w W ∧ W0.heap.size ≤ W.heap.size)
      (fun _ _ _ => False)
      (fun s X Y row hs hg hr => by
        obtain ⟨h0, h1, h2, h3, h4⟩ := hs
        exact ⟨keep_block h0 hg hr, boxed_keep h1 hg hr, outC_round h2 hg hr, h3.grown hg (by have := h3.size; omega) (fun k e => by have := (hr k e).1; omega), Nat.le_trans h4 hg.size⟩)
      (fun _ _ _ _ _ hs _ _ => hs)
      ⟨h7, hPP, hO, hB0, Nat.le_refl _⟩
      (fun x a' Z => ∃ Bx, W0.heap.size ≤ Bx ∧ Z.heap[Bx]? = some (.cells (.int .i64 (x.m : Int) :: bys x.1.f1).toArray 76 (0, 0)) ∧ a' = { tmps := #[.slice A zs.length cap, .agg #[.int .i64 (mn : Int), .slice A1 ds.length c1], undef, .pointer (some ⟨w.heap.size, 0, none⟩), .slice none 0 0, .bool false, .int .i64 0, .pointer (some ⟨g7, 0, none⟩), .bool true, undef, undef, .pointer (some ⟨g11, 0, none⟩), .pointer (some ⟨g11 + 1, 0, none⟩), .pointer (some ⟨Bx, 0, none⟩), .tuple #[.agg (.int .i64 (mn : Int) :: bys ds).toArray, .bool true], .agg #[.int .i64 (mn : Int), .slice A1 ds.length c1], .tuple #[.agg (.int .i64 (mn : Int) :: bys ds).toArray, .bool true], .agg (.int .i64 (mn : Int) :: bys ds).toArray, .bool true, .slice A zs.length cap, .bool true, .bool false, .bool false, .bool true, .bool false, .bool false, .slice A zs.length cap, .agg (.int .i64 (mn : Int) :: bys ds).toArray, .agg (.int .i64 (mp : Int) :: bys dp).toArray, .bool false, .agg (.int .i64 (mp : Int) :: bys dp).toArray, .agg #[.int .i64 0, .int .u8 0, .int .u8 0, .int .u8 0, .int .u8 0, .int .u8 0, .int .u8 0, .int .u8 0, .int .u8 0, .int .u8 0, .int .u8 0, .int .u8 0, .int .u8 0, .int .u8 0, .int .u8 0, .int .u8 0, .int .u8 0], .bool false, undef, undef, undef, undef, undef, undef, undef, undef, undef, undef, .bool false, .pointer (some ⟨g7, 0, none⟩), .int .i64 (mp : Int), .bool false, .slice A zs.length cap, .func (.func 61) #[] #[.pointer (some ⟨g11 + 1 + 1, 0, none⟩)], .agg (.int .i64 (x.m : Int) :: bys x.1.f1).toArray, .bool true, undef, undef, undef, undef, undef, undef, undef, undef, undef, undef, undef, undef, undef, undef, undef, undef, undef, undef, undef, undef, undef, undef, undef, undef, undef, undef, undef, undef, undef, undef, undef, undef, undef, undef, undef, undef, undef, undef, undef, undef, undef, undef, undef, undef], defers := [] })
      (fun x a' s X Y row hs hg hr => by obtain ⟨Bx, h1, h2, h3⟩ := hs; exact ⟨Bx, h1, keep_block h2 hg hr, h3⟩)
      ?assign ?body ?done ?stop)
    case assign =>
      intro l pre x U K hI hK
      have hsp := x.spec
      have he : encE x.1 = #[.agg (.int .i64 (x.m : Int) :: bys x.1.f1).toArray, .bool true] := by
        unfold encE; rw [pad16_of _ hsp.2.2, x.2, x.m_eq]
      rw [he]
      have hout : ¬ LetsOut (Exit.then K (fun _ _ _ => False)) := fun ⟨_, _, h⟩ => h
      refine plain_in (by rfl) hout ?_
      simp only [List.zip_toArray, List.zip_cons_cons, List.zip_nil_right, List.foldl_toArray, List.foldl_cons, List.foldl_nil, List.setIfInBounds_toArray, List.set_cons_zero, List.set_cons_succ]
      have hl17 : (Value.int .i64 (x.m : Int) :: bys x.1.f1).length = 17 := by rw [List.length_cons, bys_len, hsp.2.2]
      have H17 := Lib.hid hl17
      have hone : ∀ v ∈ Value.int .i64 (x.m : Int) :: bys x.1.f1, v.oneCell' = true := eq_one _ _
      have HK2 := Lib.hid hK
      have HI := Lib.hid hI
      clear hl17 hsp he hK hI
      go_wp2_with (first | (refine wpList_store_row rfl 76 _ _ rfl U.heap.size (.int .i64 (x.m : Int) :: bys x.1.f1) _ 76 rfl rfl (blk_new rfl) (by rw [H17.out]; rfl) (by rw [H17.out]; exact size53) hone ?_; intro w1 g1 g2 g3 g4))
      obtain ⟨i0, i1, i2, i4, i5⟩ := HI.out
      have hwW := i4.size
      have hB1 : Below w.heap.size U w1 := g4 _ _ hwW ((Below.refl _ _).alloc hwW _)
      have hB1' : Below U.heap.size U w1 := g4 _ _ (Nat.le_refl _) ((Below.refl _ _).alloc (Nat.le_refl _) _)
      exact HK2.out _ _ ((keeps_of_below ((Below.refl _ U).alloc (Nat.le_refl _) _) _).trans (keeps_of_cells (blk_new rfl) g2 g3 _)) hB1
        ⟨(hB1'.block _ (Array.getElem?_eq_some_iff.1 i0).1).trans i0, boxed_block i1 hB1', outC_below i2 hB1', i4.trans hB1, by rw [g3]; simp; omega⟩ ⟨U.heap.size, i5, g1, rfl⟩
    case body =>
      rintro l pre x a' U hl hrec ⟨h7U, hbP, hOut, hB2, hz2⟩ ⟨Bx, hBx, hx, rfl⟩ hlen2
      have hwW := hB2.size
      have hxs := x.spec
      have hmx := x.m_lt
      have hll := lead_lt x.m hmx
      have hll2 := lead_lt mp hmp
      have hi17 : (Tryd.prog.info? 76).map (·.size) = some (Value.int .i64 (x.m : Int) :: bys x.1.f1).length := by rw [List.length_cons, bys_len, hxs.2.2]; exact size53
      have HXS := Lib.hid hxs
      have HI17 := Lib.hid hi17
      have hi17' : (Tryd.prog.info? 76).map (·.size) = some (Value.int .i64 (mp : Int) :: bys dp).length := by rw [HL2.out]; exact size53
      have HI7 := Lib.hid hi17'
      have HLEN : pre.length < 1000000 := by have := HFL.out; omega
      have hsn : insL (mp, dp) ((pre ++ [x]).map Subtype.val) = insStep (mp, dp) (insL (mp, dp) (pre.map Subtype.val)) x.1 := by simp [insL]
      have hil : ∀ p : List S25, (insL (mp, dp) p).1.length ≤ 2 * p.length := insL_len (mp, dp)
      have hil2 := hil (pre.map Subtype.val)
      rw [List.length_map] at hil2
      generalize hst : insL (mp, dp) (pre.map Subtype.val) = st at hbP hOut hsn hil2
      obtain ⟨xs0, pl⟩ := st
      simp only at hbP hOut hil2
      have HSN := Lib.hid hsn
      clear hi17 hi17' hrec hxs hO b5 hPP h7 hsn hst hil
      refine wpIn_block ?_
      refine wpIn_seq_k (fun K1 hK1 => ?_)
      -- what comes behind the first 'if'
      have rest : ∀ (t51 t52 t53 t54 t55 t56 t57 t58 t59 t60 t61 t62 t63 t64 : Value) (U2 : World) (xs2 : List S25) (pl2 : Bool), KeepsFrom W0.heap.size U U2 → Below w.heap.size U U2 → U2.heap[g7]? = some (.cells (.int .i64 (mp : Int) :: bys dp).toArray 76 (0, 0)) →
          U2.heap[Bx]? = some (.cells (.int .i64 (x.m : Int) :: bys x.1.f1).toArray 76 (0, 0)) → Boxed U2 (g11 + 1) 4 (.bool pl2) → OutC w.heap.size g11 xs2 U2 → xs2.length ≤ 3000000 → W0.heap.size ≤ U2.heap.size →
          insL (mp, dp) ((pre ++ [x]).map Subtype.val) = (xs2 ++ [mixE (mp, dp) x.1], pl2) → K1 { tmps := #[.slice A zs.length cap, .agg #[.int .i64 (mn : Int), .slice A1 ds.length c1], undef, .pointer (some ⟨w.heap.size, 0, none⟩), .slice none 0 0, .bool false, .int .i64 0, .pointer (some ⟨g7, 0, none⟩), .bool true, undef, undef, .pointer (some ⟨g11, 0, none⟩), .pointer (some ⟨g11 + 1, 0, none⟩), .pointer (some ⟨Bx, 0, none⟩), .tuple #[.agg (.int .i64 (mn : Int) :: bys ds).toArray, .bool true], .agg #[.int .i64 (mn : Int), .slice A1 ds.length c1], .tuple #[.agg (.int .i64 (mn : Int) :: bys ds).toArray, .bool true], .agg (.int .i64 (mn : Int) :: bys ds).toArray, .bool true, .slice A zs.length cap, .bool true, .bool false, .bool false, .bool true, .bool false, .bool false, .slice A zs.length cap, .agg (.int .i64 (mn : Int) :: bys ds).toArray, .agg (.int .i64 (mp : Int) :: bys dp).toArray, .bool false, .agg (.int .i64 (mp : Int) :: bys dp).toArray, .agg #[.int .i64 0, .int .u8 0, .int .u8 0, .int .u8 0, .int .u8 0, .int .u8 0, .int .u8 0, .int .u8 0, .int .u8 0, .int .u8 0, .int .u8 0, .int .u8 0, .int .u8 0, .int .u8 0, .int .u8 0, .int .u8 0, .int .u8 0], .bool false, undef, undef, undef, undef, undef, undef, undef, undef, undef, undef, .bool false, .pointer (some ⟨g7, 0, none⟩), .int .i64 (mp : Int), .bool false, .slice A zs.length cap, .func (.func 61) #[] #[.pointer (some ⟨g11 + 1 + 1, 0, none⟩)], .agg (.int .i64 (x.m : Int) :: bys x.1.f1).toArray, .bool true, t51, t52, t53, t54, t55, t56, t57, t58, t59, t60, t61, t62, t63, t64, undef, undef, undef, undef, undef, undef, undef, undef, undef, undef, undef, undef, undef, undef, undef, undef, undef, undef, undef, undef, undef, undef, undef, undef, undef, undef, undef, undef, undef, undef], defers := [] } U2 := by
        intro t51 t52 t53 t54 t55 t56 t57 t58 t59 t60 t61 t62 t63 t64 U2 xs2 pl2 hk2 hb2 h72 hx2 hP2 hO2 hl2 hz3 hans
        refine hK1 _ _ ?_
        have hwU2 := hB2.trans hb2
        have hwW2 := hwU2.size
        have c0 : U2.cell? ⟨Bx, 0, none⟩ = some (.int .i64 (x.m : Int)) := (cell_of_row U2 _ 0 _ 76 (0, 0) hx2).trans (by simp)
        have H72 := Lib.hid h72
        have HX2 := Lib.hid hx2
        have HP2 := Lib.hid hP2
        have HO2 := Lib.hid hO2
        have HK2 := Lib.hid hk2
        have HB22 := Lib.hid hb2
        have HANS2 := Lib.hid hans
        clear h72 hx2 hP2 hO2 hk2 hb2 hans
        refine wpIn_seq_k (fun K3 hK3 => ?_)
        have rest2 : ∀ (t51 t52 t53 t54 t55 t56 t57 t58 t59 t60 t61 t62 t63 t64 t65 t66 t67 t68 t69 t70 t71 t72 t73 t74 t75 t76 t77 t78 t79 t80 t81 : Value) (U3 : World) (mr : Nat) (dr : List Int), dr.length = 16 → KeepsFrom W0.heap.size U U3 → Below w.heap.size U U3 → U3.heap[g7]? = some (.cells (.int .i64 (mp : Int) :: bys dp).toArray 76 (0, 0)) →
            U3.heap[Bx]? = some (.cells (.int .i64 (mr : Int) :: bys dr).toArray 76 (0, 0)) → Boxed U3 (g11 + 1) 4 (.bool pl2) → OutC w.heap.size g11 xs2 U3 → W0.heap.size ≤ U3.heap.size →
            mixE (mp, dp) x.1 = ⟨(mr : Int), dr⟩ → K3 { tmps := #[.slice A zs.length cap, .agg #[.int .i64 (mn : Int), .slice A1 ds.length c1], undef, .pointer (some ⟨w.heap.size, 0, none⟩), .slice none 0 0, .bool false, .int .i64 0, .pointer (some ⟨g7, 0, none⟩), .bool true, undef, undef, .pointer (some ⟨g11, 0, none⟩), .pointer (some ⟨g11 + 1, 0, none⟩), .pointer (some ⟨Bx, 0, none⟩), .tuple #[.agg (.int .i64 (mn : Int) :: bys ds).toArray, .bool true], .agg #[.int .i64 (mn : Int), .slice A1 ds.length c1], .tuple #[.agg (.int .i64 (mn : Int) :: bys ds).toArray, .bool true], .agg (.int .i64 (mn : Int) :: bys ds).toArray, .bool true, .slice A zs.length cap, .bool true, .bool false, .bool false, .bool true, .bool false, .bool false, .slice A zs.length cap, .agg (.int .i64 (mn : Int) :: bys ds).toArray, .agg (.int .i64 (mp : Int) :: bys dp).toArray, .bool false, .agg (.int .i64 (mp : Int) :: bys dp).toArray, .agg #[.int .i64 0, .int .u8 0, .int .u8 0, .int .u8 0, .int .u8 0, .int .u8 0, .int .u8 0, .int .u8 0, .int .u8 0, .int .u8 0, .int .u8 0, .int .u8 0, .int .u8 0, .int .u8 0, .int .u8 0, .int .u8 0, .int .u8 0], .bool false, undef, undef, undef, undef, undef, undef, undef, undef, undef, undef, .bool false, .pointer (some ⟨g7, 0, none⟩), .int .i64 (mp : Int), .bool false, .slice A zs.length cap, .func (.func 61) #[] #[.pointer (some ⟨g11 + 1 + 1, 0, none⟩)], .agg (.int .i64 (x.m : Int) :: bys x.1.f1).toArray, .bool true, t51, t52, t53, t54, t55, t56, t57, t58, t59, t60, t61, t62, t63, t64, t65, t66, t67, t68, t69, t70, t71, t72, t73, t74, t75, t76, t77, t78, t79, t80, t81, undef, undef, undef, undef, undef, undef, undef, undef, undef, undef, undef, undef, undef], defers := [] } U3 := by
          intro t51 t52 t53 t54 t55 t56 t57 t58 t59 t60 t61 t62 t63 t64 t65 t66 t67 t68 t69 t70 t71 t72 t73 t74 t75 t76 t77 t78 t79 t80 t81 U3 mr dr hdr hk3 hb3 h73 hx3 hP3 hO3 hz4 hmix
          refine hK3 _ _ ?_
          obtain ⟨v, hbv, hSv⟩ := hO3
          have cO := hbv.cell
          have hwU3 := hB2.trans hb3
          have hwW3 := hwU3.size
          have hi3 : (Tryd.prog.info? 76).map (·.size) = some (Value.int .i64 (mr : Int) :: bys dr).length := by rw [List.length_cons, bys_len, hdr]; exact size53
          have HI3 := Lib.hid hi3
          have HX3 := Lib.hid hx3
          have H73 := Lib.hid h73
          have HP3 := Lib.hid hP3
          have BV := Lib.hid hbv
          have HSV := Lib.hid hSv
          have HK3 := Lib.hid hk3
          have HB3 := Lib.hid hb3
          clear hi3 hx3 h73 hP3 hbv hSv hk3 hb3 hK3
          have hout : ¬ LetsOut (Exit.inBlock 4 (ownPostG W0.heap.size (Below w.heap.size)
            (fun (pre : List FRow) W => W.heap[g7]? = some (.cells (.int .i64 (mp : Int) :: bys dp).toArray 76 (0, 0)) ∧ Boxed W (g11 + 1) 4 (.bool (insL (mp, dp) (pre.map Subtype.val)).2) ∧ OutC w.heap.size g11 (insL (mp, dp) (pre.map Subtype.val)).1 W ∧ Below w.heap.size w W ∧ W0.heap.size ≤ W.heap.size)
            (fun _ _ _ => False) (pre ++ [x]) U)) := fun ⟨_, _, h⟩ => h
          refine start_in (m := 6) (S := (fun V => V.cell? ⟨g11, 0, none⟩ = some v ∧ V.heap[Bx]? = some (.cells (.int .i64 (mr : Int) :: bys dr).toArray 76 (0, 0)) ∧ Below U3.heap.size U3 V)) (ds := [4, 5]) #[false, false, false, false, false, false] (by kernel_rfl) (by rfl) hout rfl rfl ⟨cO, HX3.out, (Below.refl _ _).drew⟩ (fun hHeld => ?_)
          refine take_ (i := 0) (N := some 82) (v := ?_) (a' := ?_) #[true, false, false, false, false, false] rfl rfl (by kernel_rfl) (fun _ _ _ h => h) (Or.inl ⟨by rfl, ?_⟩) hHeld ?_ ?_
          rotate_left
          · rintro w' ⟨s0, s1, s2⟩
            go_simp
            with_reducible rfl
          rotate_left
          · simp only [Act.put, List.setIfInBounds_toArray, List.set_cons_zero, List.set_cons_succ, i64_w, i32_w]
            rfl
          refine take_ (i := 1) (N := some 83) (v := _) (a' := ?_) #[true, true, false, false, false, false] rfl rfl (by kernel_rfl) (fun _ _ _ h => h) (row_if (by rfl) 76 _ rfl Bx rfl (.int .i64 (mr : Int) :: bys dr) 76 _ (fun _ hS => hS.2.1) Tryd.underlying76 rfl HI3.out) hHeld ?_ ?_
          rotate_left
          · simp only [Act.put, List.setIfInBounds_toArray, List.set_cons_zero, List.set_cons_succ, i64_w, i32_w]
            rfl
          refine one_ (i := 2) (N := some 84) #[true, true, true, false, false, false] rfl rfl (by kernel_rfl) (by decide) (fun K hK => ?_)
          refine goes_ Tryd.func49 (by kernel_rfl) rfl #[.agg (.int .i64 (mr : Int) :: bys dr).toArray] (by rfl) rfl rfl (by simp only [List.map_toArray, List.map_cons, List.map_nil]; rfl) ?_
          refine (row_calls (mr : Int) dr hdr _).mono ?_
          rintro e u ⟨gr, hg1, rfl, hg3, hb⟩
          refine ⟨_, rfl, ?_⟩
          obtain ⟨s0, s1, s2⟩ := hHeld
          have hgrU : U3.heap.size ≤ gr := Nat.le_trans s2.size hg1
          have t2 := s2.trans (hb.mono s2.size)
          have HG3 := Lib.hid hg3
          refine hK.out _ _ ⟨(hb.cell (World.block_lt_of_cell? _ _ s0)).trans s0, (hb.block _ (Array.getElem?_eq_some_iff.1 s1).1).trans s1, t2⟩ (fun hHeld => ?_)
          clear hK K s0 s1 s2 t2 hb hg1 hg3
          refine norm_ (a' := ?_) ?_ ?_
          rotate_left
          · show Act.put _ (some 84) _ = _
            simp only [Act.put, List.setIfInBounds_toArray, List.set_cons_zero, List.set_cons_succ, i64_w, i32_w]
            rfl
          refine one_ (i := 3) (N := some 85) #[true, true, true, true, false, false] rfl rfl (by kernel_rfl) (by decide) (fun K hK => ?_)
          obtain ⟨s0, s1, s2⟩ := hHeld
          refine event_step (by rfl) (exec_bs rfl (vs := #[(0, .agg #[.int .i64 (mr : Int), .slice (some ⟨gr, 0, none⟩) 16 16])]) (by simp only [List.map_toArray, List.map_cons, List.map_nil]; rfl) (run_bs _ gr u)) ?_
          have HU2 := Lib.hid s2
          have ha := (Below.refl u.heap.size u).alloc (Nat.le_refl _) (.cells #[.int .i64 (mr : Int), .slice (some ⟨gr, 0, none⟩) 16 16] 52)
          refine hK.out _ _ ⟨(ha.cell (World.block_lt_of_cell? _ _ s0)).trans s0, (ha.block _ (Array.getElem?_eq_some_iff.1 s1).1).trans s1, s2.trans (ha.mono s2.size)⟩ (fun hHeld => ?_)
          clear hK K s0 s1 s2 ha
          refine norm_ (a' := ?_) ?_ ?_
          rotate_left
          · show Act.put _ (some 85) _ = _
            simp only [Act.put, List.setIfInBounds_toArray, List.set_cons_zero, List.set_cons_succ, i64_w, i32_w]
            rfl
          refine last_ (i := 4) (N := some 86) #[true, true, true, true, true, false] rfl rfl (by kernel_rfl) (by decide) (fun K hK => ?_)
          have s2 := HU2.out
          have hus := s2.size
          refine app_step (by rfl) (.tmp 82) (.tmp 85) rfl U3 u w.heap.size v (xs2) (mr : Int) dr gr rfl rfl (Kd.S_mono (Kd.S_below (Kd.S_bound HSV.out) s2) (fun k hk => by have := hk.2.2.1; omega)) HG3.out (by omega) hdr (s2.mono hwW3) (by omega) (by omega) ?_
          intro v1 w1 h1 h2 h3 h4
          obtain ⟨A', c', rfl⟩ := Kd.R_slice (Kd.S_R h1)
          have bv1 : Boxed w1 g11 23 v := h4 _ _ (boxed_block BV.out s2) (fun cs e => by cases e)
          refine hK.out _ _ ?_
          clear hK K
          refine norm_ (a' := ?_) ?_ ?_
          rotate_left
          · show Act.put _ (some 86) _ = _
            simp only [Act.put, List.setIfInBounds_toArray, List.set_cons_zero, List.set_cons_succ, i64_w, i32_w]
            rfl
          refine last_ (i := 5) (N := none) #[true, true, true, true, true, true] rfl rfl (by kernel_rfl) (by decide) (fun K hK => ?_)
          refine store_step (by rfl) rfl rfl rfl rfl (run_st22 g11 v w1 A' _ c' bv1) ?_
          refine hK.out _ _ ?_
          refine done_ (by kernel_rfl) ?_
          have hs2 := HU2.out.size
          have hBf : Below w.heap.size U3 (w1.setCell ⟨g11, 0, none⟩ (.slice A' (xs2 ++ [(⟨(mr : Int), dr⟩ : S25)]).length c')) := h2.setCell (p := ⟨g11, 0, none⟩) hg9 _
          have hBp := boxed_block HP3.out HU2.out
          refine ⟨HK3.out.trans (((keeps_of_below HU2.out _).trans (keeps_app h3 h4 _)).trans (keeps_set bv1 _ _)), HB3.out.trans hBf, ?_⟩
          dsimp only
          rw [HANS2.out, hmix]
          have hBp1 : Boxed w1 (g11 + 1) 4 (.bool pl2) := h4 _ _ hBp (fun cs e => by cases e)
          refine ⟨?_, hBp1.other (B' := g11) (by omega) _, ⟨_, bv1.set _, S_own h1 bv1 _⟩, hwU3.trans hBf, ?_⟩
          · rw [Below.heap_setCell _ _ _ _ (by simp; omega)]
            exact h4 _ _ ((HU2.out.block _ (Array.getElem?_eq_some_iff.1 H73.out).1).trans H73.out) (fun cs e => by cases e)
          · rw [World.size_setCell]; omega
        have HREST2 := Lib.hid rest2
        clear rest2 hK3
        have hand := i64_and_nat x.m (lead mp) (by omega) (by omega)
        have HAND := Lib.hid hand
        have hxor := i64_xor_nat x.m mp (by omega) (by omega)
        have HXOR := Lib.hid hxor
        have hlx : (xorD x.1.f1 dp).length = 16 := by simp [xorD, List.length_zipWith, HXS.out.2.2, HDP.out]
        have HLX := Lib.hid hlx
        have j1 : (Tryd.prog.info? 74).map (·.size) = some (bys x.1.f1).length := by rw [bys_len, HXS.out.2.2]; exact size51
        have j2 : (Tryd.prog.info? 74).map (·.size) = some (bys dp).length := by rw [bys_len, HDP.out]; exact size51
        have j3 : (Tryd.prog.info? 76).map (·.size) = some (Value.int .i64 ((x.m ^^^ mp : Nat) : Int) :: bys (xorD x.1.f1 dp)).length := by rw [List.length_cons, bys_len, hlx]; exact size53
        have J1 := Lib.hid j1
        have J2 := Lib.hid j2
        have J3 := Lib.hid j3
        have houtK : ∀ K4 : Act → World → Prop, ¬ LetsOut (Exit.then K4 (Exit.then K3 (Exit.inBlock 4 (ownPostG W0.heap.size (Below w.heap.size)
          (fun (pre : List FRow) W => W.heap[g7]? = some (.cells (.int .i64 (mp : Int) :: bys dp).toArray 76 (0, 0)) ∧ Boxed W (g11 + 1) 4 (.bool (insL (mp, dp) (pre.map Subtype.val)).2) ∧ OutC w.heap.size g11 (insL (mp, dp) (pre.map Subtype.val)).1 W ∧ Below w.heap.size w W ∧ W0.heap.size ≤ W.heap.size)
          (fun _ _ _ => False) (pre ++ [x]) U)))) := fun K4 ⟨_, _, h⟩ => h
        clear hand hxor hlx j1 j2 j3
        refine wpIn_seq_k (fun K4 hK4 => ?_)
        have hout := houtK K4
        refine start_in (m := 6) (S := (fun V => V.cell? ⟨Bx, 0, none⟩ = some (.int .i64 (x.m : Int)) ∧ V.heap[g7]? = some (.cells (.int .i64 (mp : Int) :: bys dp).toArray 76 (0, 0)) ∧ Below U2.heap.size U2 V)) (ds := []) #[false, false, false, false, false, false] (by kernel_rfl) (by rfl) hout rfl rfl ⟨c0, H72.out, (Below.refl _ _).drew⟩ (fun hHeld => ?_)
        refine pure_ (i := 0) (N := some 65) (v := ?_) (a' := ?_) #[true, false, false, false, false, false] rfl rfl (by kernel_rfl) (fun _ _ _ h => h) (Or.inl ⟨by rfl, ?_⟩) ?_ ?_
        rotate_left
        · intro w'
          go_simp
          with_reducible rfl
        rotate_left
        · simp only [Act.put, List.setIfInBounds_toArray, List.set_cons_zero, List.set_cons_succ, i64_w, i32_w]
          rfl
        refine take_ (i := 1) (N := some 66) (v := ?_) (a' := ?_) #[true, true, false, false, false, false] rfl rfl (by kernel_rfl) (fun _ _ _ h => h) (Or.inl ⟨by rfl, ?_⟩) hHeld ?_ ?_
        rotate_left
        · rintro w' ⟨s0, s1, s2⟩
          go_simp
          with_reducible rfl
        rotate_left
        · simp only [Act.put, List.setIfInBounds_toArray, List.set_cons_zero, List.set_cons_succ, i64_w, i32_w]
          rfl
        refine take_ (i := 2) (N := some 67) (v := _) (a' := ?_) #[true, true, true, false, false, false] rfl rfl (by kernel_rfl) (fun _ _ _ h => h) (row_if (by rfl) 76 _ rfl g7 rfl (.int .i64 (mp : Int) :: bys dp) 76 _ (fun _ hS => hS.2.1) Tryd.underlying76 rfl HI7.out) hHeld ?_ ?_
        rotate_left
        · simp only [Act.put, List.setIfInBounds_toArray, List.set_cons_zero, List.set_cons_succ, i64_w, i32_w]
          rfl
        refine one_ (i := 3) (N := some 68) #[true, true, true, true, false, false] rfl rfl (by kernel_rfl) (by decide) (fun K hK => ?_)
        refine goes_ Tryd.func50 (by kernel_rfl) rfl #[.agg (.int .i64 (mp : Int) :: bys dp).toArray] (by rfl) rfl rfl (by simp only [List.map_toArray, List.map_cons, List.map_nil]; rfl) ?_
        refine (leading_calls mp hmp _ _).mono ?_
        rintro e3 u3 ⟨rfl, hb⟩
        refine ⟨_, rfl, ?_⟩
        obtain ⟨s0, s1, s2⟩ := hHeld
        have tt := s2.trans (hb.mono s2.size)
        refine hK.out _ _ ⟨(hb.cell (World.block_lt_of_cell? _ _ s0)).trans s0, (hb.block _ (Array.getElem?_eq_some_iff.1 s1).1).trans s1, tt⟩ (fun hHeld => ?_)
        clear hK K tt hb s0 s1 s2
        refine norm_ (a' := ?_) ?_ ?_
        rotate_left
        · show Act.put _ (some 68) _ = _
          simp only [Act.put, List.setIfInBounds_toArray, List.set_cons_zero, List.set_cons_succ, i64_w, i32_w]
          rfl
        refine pure_ (i := 4) (N := some 69) (v := ?_) (a' := ?_) #[true, true, true, true, true, false] rfl rfl (by kernel_rfl) (fun _ _ _ h => h) (Or.inl ⟨by rfl, ?_⟩) ?_ ?_
        rotate_left
        · intro w'
          go_simp
          with_reducible rfl
        rotate_left
        · simp only [Act.put, List.setIfInBounds_toArray, List.set_cons_zero, List.set_cons_succ, i64_w, i32_w]
          rfl
        refine pure_ (i := 5) (N := some 70) (v := ?_) (a' := ?_) #[true, true, true, true, true, true] rfl rfl (by kernel_rfl) (fun _ _ _ h => h) (Or.inl ⟨by rfl, ?_⟩) ?_ ?_
        rotate_left
        · intro w'
          go_simp
          with_reducible rfl
        rotate_left
        · simp only [Act.put, List.setIfInBounds_toArray, List.set_cons_zero, List.set_cons_succ, i64_w, i32_w]
          rfl
        refine done_ (by kernel_rfl) ?_
        obtain ⟨s0, s1, s2⟩ := hHeld
        refine hK4 _ _ ?_
        have hu3 := s2.size
        have hb3w : Below w.heap.size U u3 := HB22.out.trans (s2.mono hwW2)
        by_cases hbit : x.m &&& lead mp = 0
        · refine wpIn_cond_false (by show Value.bool _ = _; rw [HAND.out, hbit]; simp) (wpIn_skip ?_)
          refine HREST2.out _ _ _ _ _ _ _ _ _ _ _ _ _ _ _ _ _ _ _ _ _ _ _ _ _ _ _ _ _ _ _ u3 x.m x.1.f1 HXS.out.2.2 (HK2.out.trans (keeps_of_below s2 _)) hb3w s1 ((s2.block _ (Array.getElem?_eq_some_iff.1 HX2.out).1).trans HX2.out) (boxed_block HP2.out s2) (outC_below HO2.out s2) (by omega) ?_
          rw [rowE_m]
          unfold mixE
          rw [if_neg (by simpa [FRow.m] using hbit)]
        · refine wpIn_cond_true (by show Value.bool _ = _; rw [HAND.out]; congr 1; simp; omega) ?_
          have c7 : u3.cell? ⟨g7, 0, none⟩ = some (.int .i64 (mp : Int)) := (cell_of_row u3 _ 0 _ 76 (0, 0) s1).trans (by simp)
          have x3 := (s2.block _ (Array.getElem?_eq_some_iff.1 HX2.out).1).trans HX2.out
          have X3 := Lib.hid x3
          have S2 := Lib.hid s2
          have E3 := Lib.hid s1
          have HB3W := Lib.hid hb3w
          clear s2 x3 hb3w hout houtK
          have hout : ¬ LetsOut (Exit.then K3 (Exit.inBlock 4 (ownPostG W0.heap.size (Below w.heap.size)
            (fun (pre : List FRow) W => W.heap[g7]? = some (.cells (.int .i64 (mp : Int) :: bys dp).toArray 76 (0, 0)) ∧ Boxed W (g11 + 1) 4 (.bool (insL (mp, dp) (pre.map Subtype.val)).2) ∧ OutC w.heap.size g11 (insL (mp, dp) (pre.map Subtype.val)).1 W ∧ Below w.heap.size w W ∧ W0.heap.size ≤ W.heap.size)
            (fun _ _ _ => False) (pre ++ [x]) U))) := fun ⟨_, _, h⟩ => h
          refine start_in (m := 12) (S := (fun V => V.cell? ⟨Bx, 0, none⟩ = some (.int .i64 (x.m : Int)) ∧ V.cell? ⟨g7, 0, none⟩ = some (.int .i64 (mp : Int)) ∧ V.heap[Bx]? = some (.cells (.int .i64 (x.m : Int) :: bys x.1.f1).toArray 76 (0, 0)) ∧ V.heap[g7]? = some (.cells (.int .i64 (mp : Int) :: bys dp).toArray 76 (0, 0)) ∧ Below u3.heap.size u3 V)) (ds := [11]) #[false, false, false, false, false, false, false, false, false, false, false, false] (by kernel_rfl) (by rfl) hout rfl rfl ⟨s0, c7, X3.out, s1, (Below.refl _ _).drew⟩ (fun hHeld => ?_)
          refine pure_ (i := 0) (N := some 71) (v := ?_) (a' := ?_) #[true, false, false, false, false, false, false, false, false, false, false, false] rfl rfl (by kernel_rfl) (fun _ _ _ h => h) (Or.inl ⟨by rfl, ?_⟩) ?_ ?_
          rotate_left
          · intro w'
            go_simp
            with_reducible rfl
          rotate_left
          · simp only [Act.put, List.setIfInBounds_toArray, List.set_cons_zero, List.set_cons_succ, i64_w, i32_w]
            rfl
          refine pure_ (i := 2) (N := some 73) (v := ?_) (a' := ?_) #[true, false, true, false, false, false, false, false, false, false, false, false] rfl rfl (by kernel_rfl) (fun _ _ _ h => h) (Or.inl ⟨by rfl, ?_⟩) ?_ ?_
          rotate_left
          · intro w'
            go_simp
            with_reducible rfl
          rotate_left
          · simp only [Act.put, List.setIfInBounds_toArray, List.set_cons_zero, List.set_cons_succ, i64_w, i32_w]
            rfl
          refine pure_ (i := 5) (N := some 76) (v := ?_) (a' := ?_) #[true, false, true, false, false, true, false, false, false, false, false, false] rfl rfl (by kernel_rfl) (fun _ _ _ h => h) (Or.inl ⟨by rfl, ?_⟩) ?_ ?_
          rotate_left
          · intro w'
            go_simp
            with_reducible rfl
          rotate_left
          · simp only [Act.put, List.setIfInBounds_toArray, List.set_cons_zero, List.set_cons_succ, i64_w, i32_w]
            rfl
          refine pure_ (i := 7) (N := some 78) (v := ?_) (a' := ?_) #[true, false, true, false, false, true, false, true, false, false, false, false] rfl rfl (by kernel_rfl) (fun _ _ _ h => h) (Or.inl ⟨by rfl, ?_⟩) ?_ ?_
          rotate_left
          · intro w'
            go_simp
            with_reducible rfl
          rotate_left
          · simp only [Act.put, List.setIfInBounds_toArray, List.set_cons_zero, List.set_cons_succ, i64_w, i32_w]
            rfl
          refine take_ (i := 1) (N := some 72) (v := ?_) (a' := ?_) #[true, true, true, false, false, true, false, true, false, false, false, false] rfl rfl (by kernel_rfl) (fun _ _ _ h => h) (Or.inl ⟨by rfl, ?_⟩) hHeld ?_ ?_
          rotate_left
          · rintro w' ⟨s0, s1, s2, s3, s4⟩
            go_simp
            with_reducible rfl
          rotate_left
          · simp only [Act.put, List.setIfInBounds_toArray, List.set_cons_zero, List.set_cons_succ, i64_w, i32_w]
            rfl
          refine take_ (i := 3) (N := some 74) (v := ?_) (a' := ?_) #[true, true, true, true, false, true, false, true, false, false, false, false] rfl rfl (by kernel_rfl) (fun _ _ _ h => h) (Or.inl ⟨by rfl, ?_⟩) hHeld ?_ ?_
          rotate_left
          · rintro w' ⟨s0, s1, s2, s3, s4⟩
            go_simp
            with_reducible rfl
          rotate_left
          · simp only [Act.put, List.setIfInBounds_toArray, List.set_cons_zero, List.set_cons_succ, i64_w, i32_w]
            rfl
          refine pure_ (i := 4) (N := some 75) (v := ?_) (a' := ?_) #[true, true, true, true, true, true, false, true, false, false, false, false] rfl rfl (by kernel_rfl) (fun _ _ _ h => h) (Or.inl ⟨by rfl, ?_⟩) ?_ ?_
          rotate_left
          · intro w'
            go_simp
            with_reducible rfl
          rotate_left
          · simp only [Act.put, List.setIfInBounds_toArray, List.set_cons_zero, List.set_cons_succ, i64_w, i32_w]
            rfl
          refine take_ (i := 6) (N := some 77) (v := _) (a' := ?_) #[true, true, true, true, true, true, true, true, false, false, false, false] rfl rfl (by kernel_rfl) (fun _ _ _ h => h) (mid_if (by rfl) 74 _ rfl Bx rfl _ (bys x.1.f1) 76 _ (fun _ hS => hS.2.2.1) Tryd.underlying74 rfl J1.out) hHeld ?_ ?_
          rotate_left
          · simp only [Act.put, List.setIfInBounds_toArray, List.set_cons_zero, List.set_cons_succ, i64_w, i32_w]
            rfl
          refine take_ (i := 8) (N := some 79) (v := _) (a' := ?_) #[true, true, true, true, true, true, true, true, true, false, false, false] rfl rfl (by kernel_rfl) (fun _ _ _ h => h) (mid_if (by rfl) 74 _ rfl g7 rfl _ (bys dp) 76 _ (fun _ hS => hS.2.2.2.1) Tryd.underlying74 rfl J2.out) hHeld ?_ ?_
          rotate_left
          · simp only [Act.put, List.setIfInBounds_toArray, List.set_cons_zero, List.set_cons_succ, i64_w, i32_w]
            rfl
          refine one_ (i := 9) (N := some 80) #[true, true, true, true, true, true, true, true, true, true, false, false] rfl rfl (by kernel_rfl) (by decide) (fun K hK => ?_)
          refine goes_ Tryd.func51 (by kernel_rfl) rfl #[.agg (bys x.1.f1).toArray, .agg (bys dp).toArray] (by rfl) rfl rfl (by simp only [List.map_toArray, List.map_cons, List.map_nil]; rfl) ?_
          refine (plus_calls x.1.f1 dp HXS.out.2.2 HDP.out _).mono ?_
          rintro e4 u4 ⟨rfl, hb⟩
          refine ⟨_, rfl, ?_⟩
          obtain ⟨t0, t1, t2, t3, t4⟩ := hHeld
          have t5 := t4.trans (hb.mono t4.size)
          refine hK.out _ _ ⟨(hb.cell (World.block_lt_of_cell? _ _ t0)).trans t0, (hb.cell (World.block_lt_of_cell? _ _ t1)).trans t1, (hb.block _ (Array.getElem?_eq_some_iff.1 t2).1).trans t2, (hb.block _ (Array.getElem?_eq_some_iff.1 t3).1).trans t3, t5⟩ (fun hHeld => ?_)
          clear hK K t0 t1 t2 t3 t4 t5 hb
          refine norm_ (a' := ?_) ?_ ?_
          rotate_left
          · show Act.put _ (some 80) _ = _
            simp only [Act.put, List.setIfInBounds_toArray, List.set_cons_zero, List.set_cons_succ, i64_w, i32_w]
            rfl
          refine pure_ (i := 10) (N := some 81) (v := .agg (.int .i64 ((x.m ^^^ mp : Nat) : Int) :: bys (xorD x.1.f1 dp)).toArray) (a' := ?_) #[true, true, true, true, true, true, true, true, true, true, true, false] rfl rfl (by kernel_rfl) (fun _ _ _ h => h) (Or.inl ⟨by rfl, ?_⟩) ?_ ?_
          · intro w'
            refine exec_build rfl (vs := #[(0, .int .i64 ((x.m ^^^ mp : Nat) : Int)), (1, .agg (bys (xorD x.1.f1 dp)).toArray)]) ?_ (run_build53 _ _ HLX.out _)
            simp only [List.map_toArray, List.map_cons, List.map_nil]
            rw [← HXOR.out]
            rfl
          rotate_left
          · simp only [Act.put, List.setIfInBounds_toArray, List.set_cons_zero, List.set_cons_succ, i64_w, i32_w]
            rfl
          refine last_ (i := 11) (N := none) #[true, true, true, true, true, true, true, true, true, true, true, true] rfl rfl (by kernel_rfl) (by decide) (fun K hK => ?_)
          obtain ⟨t0, t1, t2, t3, t4⟩ := hHeld
          refine skip_row (by rfl) rfl 76 _ _ rfl Bx (.int .i64 ((x.m ^^^ mp : Nat) : Int) :: bys (xorD x.1.f1 dp)) _ 76 rfl rfl t2 (by simp only [List.size_toArray, List.length_cons, bys_len, HXS.out.2.2, HLX.out]) J3.out (eq_one _ _) ?_
          intro w1 q1 q2 q3 q4
          refine hK.out _ _ ?_
          refine done_ (by kernel_rfl) ?_
          have h34 := t4.size
          have hq4 : Below w.heap.size u3 w1 := q4 _ _ (by omega) (t4.mono (by omega))
          have ho4 := outC_below (outC_below HO2.out S2.out) t4
          refine HREST2.out _ _ _ _ _ _ _ _ _ _ _ _ _ _ _ _ _ _ _ _ _ _ _ _ _ _ _ _ _ _ _ w1 (x.m ^^^ mp) (xorD x.1.f1 dp) HLX.out ((HK2.out.trans (keeps_of_below S2.out _)).trans ((keeps_of_below t4 _).trans (keeps_of_cells t2 q2 q3 _))) (HB3W.out.trans hq4) ?_ q1 ?_ (outC_write ho4 t2 (by decide) (by decide) (by omega) q2) (by omega) ?_
          · rw [q2 _ (by omega)]; exact t3
          · exact (q2 _ (by omega)).trans (boxed_block (boxed_block HP2.out S2.out) t4)
          · unfold mixE
            rw [if_pos (by simpa [FRow.m] using hbit)]
            rfl
      have hout2 : ∀ K2 : Act → World → Prop, ¬ LetsOut (Exit.then K2 (Exit.then K1 (Exit.inBlock 4 (ownPostG W0.heap.size (Below w.heap.size)
        (fun (pre : List FRow) W => W.heap[g7]? = some (.cells (.int .i64 (mp : Int) :: bys dp).toArray 76 (0, 0)) ∧ Boxed W (g11 + 1) 4 (.bool (insL (mp, dp) (pre.map Subtype.val)).2) ∧ OutC w.heap.size g11 (insL (mp, dp) (pre.map Subtype.val)).1 W ∧ Below w.heap.size w W ∧ W0.heap.size ≤ W.heap.size)
        (fun _ _ _ => False) (pre ++ [x]) U)))) := fun K2 ⟨_, _, h⟩ => h
      have HREST := Lib.hid rest
      clear rest hK1
      refine wpIn_seq_k (fun K2 hK2 => ?_)
      have hout := hout2 K2
      have cP := hbP.cell
      have H7U := Lib.hid h7U
      have HX := Lib.hid hx
      have BP := Lib.hid hbP
      have HO := Lib.hid hOut
      clear h7U hx hbP hOut
      cases pl
      · refine start_in (m := 9) (S := (fun V => V.cell? ⟨g11 + 1, 0, none⟩ = some (.bool false) ∧ V.heap[Bx]? = some (.cells (.int .i64 (x.m : Int) :: bys x.1.f1).toArray 76 (0, 0)) ∧ V.heap[g7]? = some (.cells (.int .i64 (mp : Int) :: bys dp).toArray 76 (0, 0)) ∧ Below U.heap.size U V)) (ds := []) #[false, false, false, false, false, false, false, false, false] (by kernel_rfl) (by rfl) hout rfl rfl ⟨cP, HX.out, H7U.out, (Below.refl _ _).drew⟩ (fun hHeld => ?_)
        refine take_ (i := 0) (N := some 51) (v := ?_) (a' := ?_) #[true, false, false, false, false, false, false, false, false] rfl rfl (by kernel_rfl) (fun _ _ _ h => h) (Or.inl ⟨by rfl, ?_⟩) hHeld ?_ ?_
        rotate_left
        · rintro w' ⟨s0, s1, s2, s3⟩
          go_simp
          with_reducible rfl
        rotate_left
        · simp only [Act.put, List.setIfInBounds_toArray, List.set_cons_zero, List.set_cons_succ, i64_w, i32_w]
          rfl
        refine pure_ (i := 1) (N := some 52) (v := ?_) (a' := ?_) #[true, true, false, false, false, false, false, false, false] rfl rfl (by kernel_rfl) (fun _ _ _ h => h) (Or.inl ⟨by rfl, ?_⟩) ?_ ?_
        rotate_left
        · intro w'
          go_simp
          with_reducible rfl
        rotate_left
        · simp only [Act.put, List.setIfInBounds_toArray, List.set_cons_zero, List.set_cons_succ, i64_w, i32_w]
          rfl
        refine pure_ (i := 2) (N := some 53) (v := ?_) (a' := ?_) #[true, true, true, false, false, false, false, false, false] rfl rfl (by kernel_rfl) (fun _ _ _ h => h) (Or.inl ⟨by rfl, ?_⟩) ?_ ?_
        rotate_left
        · intro w'
          go_simp
          with_reducible rfl
        rotate_left
        · simp only [Act.put, List.setIfInBounds_toArray, List.set_cons_zero, List.set_cons_succ, i64_w, i32_w]
          rfl
        refine take_ (i := 3) (N := some 54) (v := _) (a' := ?_) #[true, true, true, true, false, false, false, false, false] rfl rfl (by kernel_rfl) (fun _ _ _ h => h) (row_if (by rfl) 76 _ rfl Bx rfl (.int .i64 (x.m : Int) :: bys x.1.f1) 76 _ (fun _ hS => hS.2.1) Tryd.underlying76 rfl HI17.out) hHeld ?_ ?_
        rotate_left
        · simp only [Act.put, List.setIfInBounds_toArray, List.set_cons_zero, List.set_cons_succ, i64_w, i32_w]
          rfl
        refine take_ (i := 5) (N := some 56) (v := _) (a' := ?_) #[true, true, true, true, false, true, false, false, false] rfl rfl (by kernel_rfl) (fun _ _ _ h => h) (row_if (by rfl) 76 _ rfl g7 rfl (.int .i64 (mp : Int) :: bys dp) 76 _ (fun _ hS => hS.2.2.1) Tryd.underlying76 rfl HI7.out) hHeld ?_ ?_
        rotate_left
        · simp only [Act.put, List.setIfInBounds_toArray, List.set_cons_zero, List.set_cons_succ, i64_w, i32_w]
          rfl
        refine one_ (i := 4) (N := some 55) #[true, true, true, true, true, true, false, false, false] rfl rfl (by kernel_rfl) (by decide) (fun K hK => ?_)
        refine goes_ Tryd.func50 (by kernel_rfl) rfl #[.agg (.int .i64 (x.m : Int) :: bys x.1.f1).toArray] (by rfl) rfl rfl (by simp only [List.map_toArray, List.map_cons, List.map_nil]; rfl) ?_
        refine (leading_calls x.m hmx _ _).mono ?_
        rintro e1 u1 ⟨rfl, hb⟩
        refine ⟨_, rfl, ?_⟩
        obtain ⟨s0, s1, s2, s3⟩ := hHeld
        have tt := s3.trans (hb.mono s3.size)
        refine hK.out _ _ ⟨(hb.cell (World.block_lt_of_cell? _ _ s0)).trans s0, (hb.block _ (Array.getElem?_eq_some_iff.1 s1).1).trans s1, (hb.block _ (Array.getElem?_eq_some_iff.1 s2).1).trans s2, tt⟩ (fun hHeld => ?_)
        clear hK K tt hb s0 s1 s2 s3
        refine norm_ (a' := ?_) ?_ ?_
        rotate_left
        · show Act.put _ (some 55) _ = _
          simp only [Act.put, List.setIfInBounds_toArray, List.set_cons_zero, List.set_cons_succ, i64_w, i32_w]
          rfl
        refine one_ (i := 6) (N := some 57) #[true, true, true, true, true, true, true, false, false] rfl rfl (by kernel_rfl) (by decide) (fun K hK => ?_)
        refine goes_ Tryd.func50 (by kernel_rfl) rfl #[.agg (.int .i64 (mp : Int) :: bys dp).toArray] (by rfl) rfl rfl (by simp only [List.map_toArray, List.map_cons, List.map_nil]; rfl) ?_
        refine (leading_calls mp hmp _ _).mono ?_
        rintro e2 u2 ⟨rfl, hb⟩
        refine ⟨_, rfl, ?_⟩
        obtain ⟨s0, s1, s2, s3⟩ := hHeld
        have tt := s3.trans (hb.mono s3.size)
        refine hK.out _ _ ⟨(hb.cell (World.block_lt_of_cell? _ _ s0)).trans s0, (hb.block _ (Array.getElem?_eq_some_iff.1 s1).1).trans s1, (hb.block _ (Array.getElem?_eq_some_iff.1 s2).1).trans s2, tt⟩ (fun hHeld => ?_)
        clear hK K tt hb s0 s1 s2 s3
        refine norm_ (a' := ?_) ?_ ?_
        rotate_left
        · show Act.put _ (some 57) _ = _
          simp only [Act.put, List.setIfInBounds_toArray, List.set_cons_zero, List.set_cons_succ, i64_w, i32_w]
          rfl
        refine pure_ (i := 7) (N := some 58) (v := ?_) (a' := ?_) #[true, true, true, true, true, true, true, true, false] rfl rfl (by kernel_rfl) (fun _ _ _ h => h) (Or.inl ⟨by rfl, ?_⟩) ?_ ?_
        rotate_left
        · intro w'
          go_simp
          with_reducible rfl
        rotate_left
        · simp only [Act.put, List.setIfInBounds_toArray, List.set_cons_zero, List.set_cons_succ, i64_w, i32_w]
          rfl
        refine pure_ (i := 8) (N := some 59) (v := ?_) (a' := ?_) #[true, true, true, true, true, true, true, true, true] rfl rfl (by kernel_rfl) (fun _ _ _ h => h) (Or.inl ⟨by rfl, ?_⟩) ?_ ?_
        rotate_left
        · intro w'
          go_simp
          with_reducible rfl
        rotate_left
        · simp only [Act.put, List.setIfInBounds_toArray, List.set_cons_zero, List.set_cons_succ, i64_w, i32_w]
          rfl
        refine done_ (by kernel_rfl) ?_
        obtain ⟨t0, t1, t2, t3⟩ := hHeld
        have hu2 := t3.size
        have hwu2 : w.heap.size ≤ u2.heap.size := by omega
        refine hK2 _ _ ?_
        by_cases hlt : lead x.m < lead mp
        · refine wpIn_cond_true (by show Value.bool _ = _; congr 1; simp; omega) ?_
          obtain ⟨v, hbv, hSv⟩ := outC_below HO.out t3
          have cO := hbv.cell
          have BV := Lib.hid hbv
          have HSV := Lib.hid hSv
          have T3 := Lib.hid t3
          have T2 := Lib.hid t2
          have T1 := Lib.hid t1
          clear hbv hSv t3 hout hout2
          have hout : ¬ LetsOut (Exit.then K1 (Exit.inBlock 4 (ownPostG W0.heap.size (Below w.heap.size)
            (fun (pre : List FRow) W => W.heap[g7]? = some (.cells (.int .i64 (mp : Int) :: bys dp).toArray 76 (0, 0)) ∧ Boxed W (g11 + 1) 4 (.bool (insL (mp, dp) (pre.map Subtype.val)).2) ∧ OutC w.heap.size g11 (insL (mp, dp) (pre.map Subtype.val)).1 W ∧ Below w.heap.size w W ∧ W0.heap.size ≤ W.heap.size)
            (fun _ _ _ => False) (pre ++ [x]) U))) := fun ⟨_, _, h⟩ => h
          refine start_in (m := 7) (S := (fun V => V.cell? ⟨g11, 0, none⟩ = some v ∧ V.heap[g7]? = some (.cells (.int .i64 (mp : Int) :: bys dp).toArray 76 (0, 0)) ∧ Below u2.heap.size u2 V)) (ds := [4, 5, 6]) #[false, false, false, false, false, false, false] (by kernel_rfl) (by rfl) hout rfl rfl ⟨cO, t2, (Below.refl _ _).drew⟩ (fun hHeld => ?_)
          refine take_ (i := 0) (N := some 60) (v := ?_) (a' := ?_) #[true, false, false, false, false, false, false] rfl rfl (by kernel_rfl) (fun _ _ _ h => h) (Or.inl ⟨by rfl, ?_⟩) hHeld ?_ ?_
          rotate_left
          · rintro w' ⟨s0, s1, s2⟩
            go_simp
            with_reducible rfl
          rotate_left
          · simp only [Act.put, List.setIfInBounds_toArray, List.set_cons_zero, List.set_cons_succ, i64_w, i32_w]
            rfl
          refine take_ (i := 1) (N := some 61) (v := _) (a' := ?_) #[true, true, false, false, false, false, false] rfl rfl (by kernel_rfl) (fun _ _ _ h => h) (row_if (by rfl) 76 _ rfl g7 rfl (.int .i64 (mp : Int) :: bys dp) 76 _ (fun _ hS => hS.2.1) Tryd.underlying76 rfl HI7.out) hHeld ?_ ?_
          rotate_left
          · simp only [Act.put, List.setIfInBounds_toArray, List.set_cons_zero, List.set_cons_succ, i64_w, i32_w]
            rfl
          refine one_ (i := 2) (N := some 62) #[true, true, true, false, false, false, false] rfl rfl (by kernel_rfl) (by decide) (fun K hK => ?_)
          refine goes_ Tryd.func49 (by kernel_rfl) rfl #[.agg (.int .i64 (mp : Int) :: bys dp).toArray] (by rfl) rfl rfl (by simp only [List.map_toArray, List.map_cons, List.map_nil]; rfl) ?_
          refine (row_calls (mp : Int) dp HDP.out _).mono ?_
          rintro e u ⟨gr, hg1, rfl, hg3, hb⟩
          refine ⟨_, rfl, ?_⟩
          obtain ⟨s0, s1, s2⟩ := hHeld
          have hgrU : u2.heap.size ≤ gr := Nat.le_trans s2.size hg1
          have t2 := s2.trans (hb.mono s2.size)
          have HG3 := Lib.hid hg3
          refine hK.out _ _ ⟨(hb.cell (World.block_lt_of_cell? _ _ s0)).trans s0, (hb.block _ (Array.getElem?_eq_some_iff.1 s1).1).trans s1, t2⟩ (fun hHeld => ?_)
          clear hK K s0 s1 s2 t2 hb hg1 hg3
          refine norm_ (a' := ?_) ?_ ?_
          rotate_left
          · show Act.put _ (some 62) _ = _
            simp only [Act.put, List.setIfInBounds_toArray, List.set_cons_zero, List.set_cons_succ, i64_w, i32_w]
            rfl
          refine one_ (i := 3) (N := some 63) #[true, true, true, true, false, false, false] rfl rfl (by kernel_rfl) (by decide) (fun K hK => ?_)
          obtain ⟨s0, s1, s2⟩ := hHeld
          refine event_step (by rfl) (exec_bs rfl (vs := #[(0, .agg #[.int .i64 (mp : Int), .slice (some ⟨gr, 0, none⟩) 16 16])]) (by simp only [List.map_toArray, List.map_cons, List.map_nil]; rfl) (run_bs _ gr u)) ?_
          have HU2 := Lib.hid s2
          have ha := (Below.refl u.heap.size u).alloc (Nat.le_refl _) (.cells #[.int .i64 (mp : Int), .slice (some ⟨gr, 0, none⟩) 16 16] 52)
          refine hK.out _ _ ⟨(ha.cell (World.block_lt_of_cell? _ _ s0)).trans s0, (ha.block _ (Array.getElem?_eq_some_iff.1 s1).1).trans s1, s2.trans (ha.mono s2.size)⟩ (fun hHeld => ?_)
          clear hK K s0 s1 s2 ha
          refine norm_ (a' := ?_) ?_ ?_
          rotate_left
          · show Act.put _ (some 63) _ = _
            simp only [Act.put, List.setIfInBounds_toArray, List.set_cons_zero, List.set_cons_succ, i64_w, i32_w]
            rfl
          refine last_ (i := 4) (N := some 64) #[true, true, true, true, true, false, false] rfl rfl (by kernel_rfl) (by decide) (fun K hK => ?_)
          have s2 := HU2.out
          have hus := s2.size
          refine app_step (by rfl) (.tmp 60) (.tmp 63) rfl u2 u w.heap.size v (xs0) (mp : Int) dp gr rfl rfl (Kd.S_mono (Kd.S_below (Kd.S_bound HSV.out) s2) (fun k hk => by have := hk.2.2.1; omega)) HG3.out (by omega) HDP.out (s2.mono hwu2) (by omega) (by omega) ?_
          intro v1 w1 h1 h2 h3 h4
          obtain ⟨A', c', rfl⟩ := Kd.R_slice (Kd.S_R h1)
          have bv1 : Boxed w1 g11 23 v := h4 _ _ (boxed_block BV.out s2) (fun cs e => by cases e)
          refine hK.out _ _ ?_
          clear hK K
          refine norm_ (a' := ?_) ?_ ?_
          rotate_left
          · show Act.put _ (some 64) _ = _
            simp only [Act.put, List.setIfInBounds_toArray, List.set_cons_zero, List.set_cons_succ, i64_w, i32_w]
            rfl
          refine last_ (i := 5) (N := none) #[true, true, true, true, true, true, false] rfl rfl (by kernel_rfl) (by decide) (fun K hK => ?_)
          refine store_step (by rfl) rfl rfl rfl rfl (run_st22 g11 v w1 A' _ c' bv1) ?_
          refine hK.out _ _ ?_
          clear hK K
          have bp1 : Boxed w1 (g11 + 1) 4 (.bool false) := h4 _ _ (boxed_block (boxed_block BP.out T3.out) s2) (fun cs e => by cases e)
          have bp2 := bp1.other (B' := g11) (by omega) (.slice A' (xs0 ++ [(⟨(mp : Int), dp⟩ : S25)]).length c')
          refine last_ (i := 6) (N := none) #[true, true, true, true, true, true, true] rfl rfl (by kernel_rfl) (by decide) (fun K hK => ?_)
          refine store_step (by rfl) rfl rfl rfl rfl (run_st4 (g11 + 1) (.bool false) _ true bp2) ?_
          refine hK.out _ _ ?_
          refine done_ (by kernel_rfl) ?_
          have hBf : Below w.heap.size u2 ((w1.setCell ⟨g11, 0, none⟩ (.slice A' (xs0 ++ [(⟨(mp : Int), dp⟩ : S25)]).length c')).setCell ⟨g11 + 1, 0, none⟩ (.bool true)) := (h2.setCell (p := ⟨g11, 0, none⟩) hg9 _).setCell (p := ⟨g11 + 1, 0, none⟩) (by simp; omega) _
          have hrow : ∀ (k : Nat) (c : Array Value), k < g11 ∨ g11 + 1 < k → u2.heap[k]? = some (.cells c 76 (0, 0)) → ((w1.setCell ⟨g11, 0, none⟩ (.slice A' (xs0 ++ [(⟨(mp : Int), dp⟩ : S25)]).length c')).setCell ⟨g11 + 1, 0, none⟩ (.bool true)).heap[k]? = some (.cells c 76 (0, 0)) := by
            intro k c hk hc
            rw [Below.heap_setCell _ _ _ _ (by simp; omega), Below.heap_setCell _ _ _ _ (by simp; omega)]
            exact h4 _ _ ((HU2.out.block _ (Array.getElem?_eq_some_iff.1 hc).1).trans hc) (fun cs e => by cases e)
          have hs1 := S_own h1 bv1 (.slice A' (xs0 ++ [(⟨(mp : Int), dp⟩ : S25)]).length c')
          refine HREST.out _ _ _ _ _ _ _ _ _ _ _ _ _ _ _ (xs0 ++ [(⟨(mp : Int), dp⟩ : S25)]) true ((keeps_of_below T3.out _).trans ((((keeps_of_below HU2.out _).trans (keeps_app h3 h4 _)).trans (keeps_set bv1 _ _)).trans (keeps_set bp2 _ _))) ((T3.out.mono hwW).trans hBf) (hrow _ _ (by omega) T2.out) (hrow _ _ (by omega) T1.out) (bp2.set _)
            (outC_write ⟨_, bv1.set _, hs1⟩ bp2 (by decide) (by decide) (by omega) (fun k hk => Below.heap_setCell _ _ _ _ hk)) (by simp; omega) (by rw [World.size_setCell, World.size_setCell]; have := HU2.out.size; omega) ?_
          rw [HSN.out]
          unfold insStep
          rw [if_pos ⟨rfl, hlt⟩]
          simp [rowE]
        · refine wpIn_cond_false (by show Value.bool _ = _; congr 1; simp; omega) (wpIn_skip ?_)
          refine HREST.out _ _ _ _ _ _ _ _ _ _ _ _ _ _ u2 xs0 false (keeps_of_below t3 _) (t3.mono hwW) t2 t1 (boxed_block BP.out t3) (outC_below HO.out t3) (by omega) (by omega) ?_
          rw [HSN.out]
          unfold insStep
          rw [if_neg (fun h => hlt h.2)]
      · refine start_in (m := 9) (S := (fun V => V.cell? ⟨g11 + 1, 0, none⟩ = some (.bool true) ∧ Below U.heap.size U V)) (ds := []) #[false, false, false, false, false, false, false, false, false] (by kernel_rfl) (by rfl) hout rfl rfl ⟨cP, (Below.refl _ _).drew⟩ (fun hHeld => ?_)
        refine take_ (i := 0) (N := some 51) (v := ?_) (a' := ?_) #[true, false, false, false, false, false, false, false, false] rfl rfl (by kernel_rfl) (fun _ _ _ h => h) (Or.inl ⟨by rfl, ?_⟩) hHeld ?_ ?_
        rotate_left
        · rintro w' ⟨s0, s1⟩
          go_simp
          with_reducible rfl
        rotate_left
        · simp only [Act.put, List.setIfInBounds_toArray, List.set_cons_zero, List.set_cons_succ, i64_w, i32_w]
          rfl
        refine pure_ (i := 1) (N := some 52) (v := ?_) (a' := ?_) #[true, true, false, false, false, false, false, false, false] rfl rfl (by kernel_rfl) (fun _ _ _ h => h) (Or.inl ⟨by rfl, ?_⟩) ?_ ?_
        rotate_left
        · intro w'
          go_simp
          with_reducible rfl
        rotate_left
        · simp only [Act.put, List.setIfInBounds_toArray, List.set_cons_zero, List.set_cons_succ, i64_w, i32_w]
          rfl
        refine pure_ (i := 2) (N := some 53) (v := ?_) (a' := ?_) #[true, true, true, false, false, false, false, false, false] rfl rfl (by kernel_rfl) (fun _ _ _ h => h) (Or.inl ⟨by rfl, ?_⟩) ?_ ?_
        rotate_left
        · intro w'
          go_simp
          with_reducible rfl
        rotate_left
        · simp only [Act.put, List.setIfInBounds_toArray, List.set_cons_zero, List.set_cons_succ, i64_w, i32_w]
          rfl
        refine pure_ (i := 3) (N := some 54) (v := undef) (a' := ?_) #[true, true, true, true, false, false, false, false, false] rfl rfl (by kernel_rfl) (fun _ _ _ h => h) (Or.inr ⟨by rfl, rfl⟩) ?_ ?_
        rotate_left
        · simp only [Act.put, List.setIfInBounds_toArray, List.set_cons_zero, List.set_cons_succ, i64_w, i32_w]
          rfl
        refine pure_ (i := 4) (N := some 55) (v := undef) (a' := ?_) #[true, true, true, true, true, false, false, false, false] rfl rfl (by kernel_rfl) (fun _ _ _ h => h) (Or.inr ⟨by rfl, rfl⟩) ?_ ?_
        rotate_left
        · simp only [Act.put, List.setIfInBounds_toArray, List.set_cons_zero, List.set_cons_succ, i64_w, i32_w]
          rfl
        refine pure_ (i := 5) (N := some 56) (v := undef) (a' := ?_) #[true, true, true, true, true, true, false, false, false] rfl rfl (by kernel_rfl) (fun _ _ _ h => h) (Or.inr ⟨by rfl, rfl⟩) ?_ ?_
        rotate_left
        · simp only [Act.put, List.setIfInBounds_toArray, List.set_cons_zero, List.set_cons_succ, i64_w, i32_w]
          rfl
        refine pure_ (i := 6) (N := some 57) (v := undef) (a' := ?_) #[true, true, true, true, true, true, true, false, false] rfl rfl (by kernel_rfl) (fun _ _ _ h => h) (Or.inr ⟨by rfl, rfl⟩) ?_ ?_
        rotate_left
        · simp only [Act.put, List.setIfInBounds_toArray, List.set_cons_zero, List.set_cons_succ, i64_w, i32_w]
          rfl
        refine pure_ (i := 7) (N := some 58) (v := undef) (a' := ?_) #[true, true, true, true, true, true, true, true, false] rfl rfl (by kernel_rfl) (fun _ _ _ h => h) (Or.inr ⟨by rfl, rfl⟩) ?_ ?_
        rotate_left
        · simp only [Act.put, List.setIfInBounds_toArray, List.set_cons_zero, List.set_cons_succ, i64_w, i32_w]
          rfl
        refine pure_ (i := 8) (N := some 59) (v := ?_) (a' := ?_) #[true, true, true, true, true, true, true, true, true] rfl rfl (by kernel_rfl) (fun _ _ _ h => h) (Or.inl ⟨by rfl, ?_⟩) ?_ ?_
        rotate_left
        · intro w'
          go_simp
          with_reducible rfl
        rotate_left
        · simp only [Act.put, List.setIfInBounds_toArray, List.set_cons_zero, List.set_cons_succ, i64_w, i32_w]
          rfl
        refine done_ (by kernel_rfl) ?_
        obtain ⟨t0, t1⟩ := hHeld
        refine hK2 _ _ (wpIn_cond_false rfl (wpIn_skip ?_))
        refine HREST.out _ _ _ _ _ _ _ _ _ _ _ _ _ _ _ xs0 true (keeps_of_below t1 _) (t1.mono hwW) ((t1.block _ (Array.getElem?_eq_some_iff.1 H7U.out).1).trans H7U.out) ((t1.block _ (Array.getElem?_eq_some_iff.1 HX.out).1).trans HX.out) (boxed_block BP.out t1) (outC_below HO.out t1) (by omega) (by have := t1.size; omega) ?_
        rw [HSN.out]
        unfold insStep
        rw [if_neg (fun h => by cases h.1)]
    case done =>
      rintro D xs U hD hxs ⟨h7D, hbP, hOut, hB2, hz2⟩ hKm
      have hx2 : xs.map Subtype.val = zs := by rw [hxs]; exact HFZ.out
      rw [hx2] at hbP hOut
      have hil := insL_len (mp, dp) zs
      generalize hst : insL (mp, dp) zs = st at hbP hOut hil
      obtain ⟨xs0, pl⟩ := st
      simp only at hbP hOut hil
      obtain ⟨v, hbv, hSv⟩ := hOut
      have hwW := hB2.size
      have cO := hbv.cell
      have cP := hbP.cell
      have BV := Lib.hid hbv
      have BP := Lib.hid hbP
      have HSV := Lib.hid hSv
      have H7D := Lib.hid h7D
      have HKm := Lib.hid hKm
      have HST := Lib.hid hst
      have hi17' : (Tryd.prog.info? 76).map (·.size) = some (Value.int .i64 (mp : Int) :: bys dp).length := by rw [HL2.out]; exact size53
      have HI7 := Lib.hid hi17'
      clear hxs hx2 hbv hbP hSv h7D hKm hst hi17' hO b5 hPP h7
      cases pl
      · go_wp2
        refine wp_normal ?_
        refine start_ (n := 6) (S := (fun V => V.cell? ⟨g11, 0, none⟩ = some v ∧ V.heap[g7]? = some (.cells (.int .i64 (mp : Int) :: bys dp).toArray 76 (0, 0)) ∧ Below U.heap.size U V)) (ds := [4, 5]) #[false, false, false, false, false, false] (by kernel_rfl) rfl rfl ⟨cO, H7D.out, (Below.refl _ _).drew⟩ (fun hHeld => ?_)
        refine take_ (i := 0) (N := some 89) (v := ?_) (a' := ?_) #[true, false, false, false, false, false] rfl rfl (by kernel_rfl) (fun _ _ _ h => h) (Or.inl ⟨by rfl, ?_⟩) hHeld ?_ ?_
        rotate_left
        · rintro w' ⟨s0, s1, s2⟩
          go_simp
          with_reducible rfl
        rotate_left
        · simp only [Act.put, List.setIfInBounds_toArray, List.set_cons_zero, List.set_cons_succ, i64_w, i32_w]
          rfl
        refine take_ (i := 1) (N := some 90) (v := _) (a' := ?_) #[true, true, false, false, false, false] rfl rfl (by kernel_rfl) (fun _ _ _ h => h) (row_if (by rfl) 76 _ rfl g7 rfl (.int .i64 (mp : Int) :: bys dp) 76 _ (fun _ hS => hS.2.1) Tryd.underlying76 rfl HI7.out) hHeld ?_ ?_
        rotate_left
        · simp only [Act.put, List.setIfInBounds_toArray, List.set_cons_zero, List.set_cons_succ, i64_w, i32_w]
          rfl
        refine one_ (i := 2) (N := some 91) #[true, true, true, false, false, false] rfl rfl (by kernel_rfl) (by decide) (fun K hK => ?_)
        refine goes_ Tryd.func49 (by kernel_rfl) rfl #[.agg (.int .i64 (mp : Int) :: bys dp).toArray] (by rfl) rfl rfl (by simp only [List.map_toArray, List.map_cons, List.map_nil]; rfl) ?_
        refine (row_calls (mp : Int) dp HDP.out _).mono ?_
        rintro e u ⟨gr, hg1, rfl, hg3, hb⟩
        refine ⟨_, rfl, ?_⟩
        obtain ⟨s0, s1, s2⟩ := hHeld
        have hgrU : U.heap.size ≤ gr := Nat.le_trans s2.size hg1
        have t2 := s2.trans (hb.mono s2.size)
        have HG3 := Lib.hid hg3
        refine hK.out _ _ ⟨(hb.cell (World.block_lt_of_cell? _ _ s0)).trans s0, (hb.block _ (Array.getElem?_eq_some_iff.1 s1).1).trans s1, t2⟩ (fun hHeld => ?_)
        clear hK K s0 s1 s2 t2 hb hg1 hg3
        refine norm_ (a' := ?_) ?_ ?_
        rotate_left
        · show Act.put _ (some 91) _ = _
          simp only [Act.put, List.setIfInBounds_toArray, List.set_cons_zero, List.set_cons_succ, i64_w, i32_w]
          rfl
        refine one_ (i := 3) (N := some 92) #[true, true, true, true, false, false] rfl rfl (by kernel_rfl) (by decide) (fun K hK => ?_)
        obtain ⟨s0, s1, s2⟩ := hHeld
        refine event_step (by rfl) (exec_bs rfl (vs := #[(0, .agg #[.int .i64 (mp : Int), .slice (some ⟨gr, 0, none⟩) 16 16])]) (by simp only [List.map_toArray, List.map_cons, List.map_nil]; rfl) (run_bs _ gr u)) ?_
        have HU2 := Lib.hid s2
        have ha := (Below.refl u.heap.size u).alloc (Nat.le_refl _) (.cells #[.int .i64 (mp : Int), .slice (some ⟨gr, 0, none⟩) 16 16] 52)
        refine hK.out _ _ ⟨(ha.cell (World.block_lt_of_cell? _ _ s0)).trans s0, (ha.block _ (Array.getElem?_eq_some_iff.1 s1).1).trans s1, s2.trans (ha.mono s2.size)⟩ (fun hHeld => ?_)
        clear hK K s0 s1 s2 ha
        refine norm_ (a' := ?_) ?_ ?_
        rotate_left
        · show Act.put _ (some 92) _ = _
          simp only [Act.put, List.setIfInBounds_toArray, List.set_cons_zero, List.set_cons_succ, i64_w, i32_w]
          rfl
        refine last_ (i := 4) (N := some 93) #[true, true, true, true, true, false] rfl rfl (by kernel_rfl) (by decide) (fun K hK => ?_)
        have s2 := HU2.out
        have hus := s2.size
        refine app_step (by rfl) (.tmp 89) (.tmp 92) rfl U u w.heap.size v (xs0) (mp : Int) dp gr rfl rfl (Kd.S_mono (Kd.S_below (Kd.S_bound HSV.out) s2) (fun k hk => by have := hk.2.2.1; omega)) HG3.out (by omega) HDP.out (s2.mono hwW) (by omega) (by omega) ?_
        intro v1 w1 h1 h2 h3 h4
        obtain ⟨A', c', rfl⟩ := Kd.R_slice (Kd.S_R h1)
        have bv1 : Boxed w1 g11 23 v := h4 _ _ (boxed_block BV.out s2) (fun cs e => by cases e)
        refine hK.out _ _ ?_
        clear hK K
        refine norm_ (a' := ?_) ?_ ?_
        rotate_left
        · show Act.put _ (some 93) _ = _
          simp only [Act.put, List.setIfInBounds_toArray, List.set_cons_zero, List.set_cons_succ, i64_w, i32_w]
          rfl
        refine last_ (i := 5) (N := none) #[true, true, true, true, true, true] rfl rfl (by kernel_rfl) (by decide) (fun K hK => ?_)
        refine store_step (by rfl) rfl rfl rfl rfl (run_st22 g11 v w1 A' _ c' bv1) ?_
        refine hK.out _ _ ?_
        refine done_ (by kernel_rfl) ?_
        have bvf := bv1.set (.slice A' (xs0 ++ [(⟨(mp : Int), dp⟩ : S25)]).length c')
        have hSf := S_own h1 bv1 (.slice A' (xs0 ++ [(⟨(mp : Int), dp⟩ : S25)]).length c')
        have hBf : Below w.heap.size U (w1.setCell ⟨g11, 0, none⟩ (.slice A' (xs0 ++ [(⟨(mp : Int), dp⟩ : S25)]).length c')) := h2.setCell (p := ⟨g11, 0, none⟩) hg9 _
        have hKf : (w1.setCell ⟨g11, 0, none⟩ (.slice A' (xs0 ++ [(⟨(mp : Int), dp⟩ : S25)]).length c')).heap[D]? = some (.deferred (some [])) := by
          rw [Below.heap_setCell _ _ _ _ (by simp; omega)]
          exact h4 _ _ ((HU2.out.block _ (Array.getElem?_eq_some_iff.1 HKm.out).1).trans HKm.out) (fun cs e => by cases e)
        have hans2 : insS (mp, dp) zs = xs0 ++ [(⟨(mp : Int), dp⟩ : S25)] := by
          unfold insS; rw [HST.out]; rfl
        generalize w1.setCell ⟨g11, 0, none⟩ (.slice A' (xs0 ++ [(⟨(mp : Int), dp⟩ : S25)]).length c') = V at *
        have cO2 := bvf.cell
        have HSF := Lib.hid hSf
        have HKF := Lib.hid hKf
        clear hSf hKf bvf h1 h2 h3 h4 bv1 cO cP
        go_wp2
        refine ⟨by simp, .inl ⟨_, _, rfl, run_takeDeferred HKF.out, ?_⟩⟩
        refine ⟨.tuple #[.slice A' (xs0 ++ [(⟨(mp : Int), dp⟩ : S25)]).length c', .bool true, .int .i64 0], by simp [results, Tryd.results34, go_sem], ?_⟩
        rw [HANS.out, hans2]
        exact add_fin HSF.out HKF.out (by omega) (hB2.trans hBf)
      · go_wp2
        have hans2 : insS (mp, dp) zs = xs0 := by
          unfold insS; rw [HST.out]; rfl
        obtain ⟨A', c', rfl⟩ := Kd.R_slice (Kd.S_R HSV.out)
        refine ⟨by simp, .inl ⟨_, _, rfl, run_takeDeferred HKm.out, ?_⟩⟩
        refine ⟨.tuple #[.slice A' xs0.length c', .bool true, .int .i64 0], by simp [results, Tryd.results34, go_sem], ?_⟩
        rw [HANS.out, hans2]
        exact add_fin HSV.out HKm.out (by omega) hB2
    case stop =>
      rintro D c pre W _ _ h _
      exact h.elim
end Go.Proofs.YtknlbeojdmeljaaDoor.H
namespace Go.Proofs.YtknlbeojdmeljaaDoor.P
open Go.RowKit Go.Proofs.YtknlbeojdmeljaaDoorW.PrintWords Go.Proofs.YtknlbeojdmeljaaDoorW.PrintLast Go.Proofs.YtknlbeojdmeljaaDoorW.PrintMore
attribute [local go_sem] max2_int min2_int max_two min_two max_three min_three max_four min_four   -- for this text's walks alone
set_option linter.unusedVariables false
set_option linter.unusedSimpArgs false
def fountain_isSeed.f (a0 : Int) : Option (Bool) := if a0 ≥ 0 then (some (decide (a0 ≤ 1000000000))) else (some false)
set_option maxHeartbeats 8000000 in
set_option maxRecDepth 100000 in
theorem fountain_isSeed.calls (a0 : Int) (r : Bool) (w : World) (h : fountain_isSeed.f a0 = some r) :
    Calls Tryd.prog 29 #[.int .i64 a0] w fun e w' => e = .returned (.bool r) ∧ Drawn0 w w' := by
  have H : (if a0 ≥ 0 then (some (decide (a0 ≤ 1000000000))) else (some false)) = some r := h
  clear h
  by_cases c2 : a0 ≥ 0
  · rw [if_pos c2] at H
    have c2b0 : decide (0 ≤ a0) = true := decide_eq_true c2
    clear c2
    obtain rfl := Option.some.inj H
    go_enter Tryd.func29, Tryd.ntmps29
    go_wp2
    go_ret
    exact ⟨by first | rfl | (simp; done) | (simp [*]; done), by repeat (first | exact Drawn0.refl _ | apply Drawn0.step)⟩
  · rw [if_neg c2] at H
    have c2b0 : decide (0 ≤ a0) = false := decide_eq_false c2
    clear c2
    obtain rfl := Option.some.inj H
    go_enter Tryd.func29, Tryd.ntmps29
    go_wp2
    go_ret
    exact ⟨by first | rfl | (simp; done) | (simp [*]; done), by repeat (first | exact Drawn0.refl _ | apply Drawn0.step)⟩
def fountain_isPage.f (a0 : Int) : Option (Bool) := if a0 ≥ 0 then (some (decide (a0 < 16))) else (some false)
set_option maxHeartbeats 8000000 in
set_option maxRecDepth 100000 in
theorem fountain_isPage.calls (a0 : Int) (r : Bool) (w : World) (h : fountain_isPage.f a0 = some r) :
    Calls Tryd.prog 28 #[.int .i64 a0] w fun e w' => e = .returned (.bool r) ∧ Drawn0 w w' := by
  have H : (if a0 ≥ 0 then (some (decide (a0 < 16))) else (some false)) = some r := h
  clear h
  by_cases c2 : a0 ≥ 0
  · rw [if_pos c2] at H
    have c2b0 : decide (0 ≤ a0) = true := decide_eq_true c2
    clear c2
    obtain rfl := Option.some.inj H
    go_enter Tryd.func28, Tryd.ntmps28
    go_wp2
    go_ret
    exact ⟨by first | rfl | (simp; done) | (simp [*]; done), by repeat (first | exact Drawn0.refl _ | apply Drawn0.step)⟩
  · rw [if_neg c2] at H
    have c2b0 : decide (0 ≤ a0) = false := decide_eq_false c2
    clear c2
    obtain rfl := Option.some.inj H
    go_enter Tryd.func28, Tryd.ntmps28
    go_wp2
    go_ret
    exact ⟨by first | rfl | (simp; done) | (simp [*]; done), by repeat (first | exact Drawn0.refl _ | apply Drawn0.step)⟩
def slices_Index_bool_bool.l0 : Nat → List Bool → Bool → Int → Int → Option (Int)
  | 0, _, _, _, _ => none
  | k + 1, x0, x1, x7, x8 => if x8 < x7 then (if 0 ≤ x8 then (if x8 < (x0.length : Int) then (if (x1 == (rdOf false x0 x8)) = true then (some x8) else (slices_Index_bool_bool.l0 k x0 x1 x7 (wrap64 (x8 + 1)))) else (none)) else (none)) else (some (-1))
def slices_Index_bool_bool.f (k : Nat) (l0 : List Bool) (a1 : Bool) : Option (Int) := slices_Index_bool_bool.l0 k l0 a1 (l0.length : Int) 0
theorem slices_Index_bool_bool.mono_l : ∀ k, (∀ y0 y1 y2 y3, LeO (slices_Index_bool_bool.l0 k y0 y1 y2 y3) (slices_Index_bool_bool.l0 (k + 1) y0 y1 y2 y3))
  | 0 => fun _ _ _ _ r h => by simp [slices_Index_bool_bool.l0] at h
  | k + 1 => by
    have ih0 := slices_Index_bool_bool.mono_l k
    · intro y0 y1 y2 y3
      unfold slices_Index_bool_bool.l0
      repeat' first
      | (with_reducible exact ih0 _ _ _ _)
      | (with_reducible exact LeO.refl _)
      | (with_reducible exact LeO.none _)
      | (with_reducible refine LeO.ite ?_ ?_)
      | (with_reducible refine LeO.bind ?_ (fun _ => ?_))
      | exact ih0 _ _ _ _
      | exact LeO.none _
      | refine LeO.ite ?_ ?_
      | refine LeO.bind ?_ (fun _ => ?_)
theorem slices_Index_bool_bool.mono : ∀ a0 a1 k, LeO (slices_Index_bool_bool.f k a0 a1) (slices_Index_bool_bool.f (k + 1) a0 a1) := by
  intro a0 a1 k
  have ih0 := slices_Index_bool_bool.mono_l k
  unfold slices_Index_bool_bool.f
  repeat' first
      | (with_reducible exact ih0 _ _ _ _)
      | (with_reducible exact LeO.refl _)
      | (with_reducible exact LeO.none _)
      | (with_reducible refine LeO.ite ?_ ?_)
      | (with_reducible refine LeO.bind ?_ (fun _ => ?_))
      | exact ih0 _ _ _ _
      | exact LeO.none _
      | refine LeO.ite ?_ ?_
      | refine LeO.bind ?_ (fun _ => ?_)
set_option maxHeartbeats 8000000 in
set_option maxRecDepth 100000 in
theorem slices_Index_bool_bool.calls (k : Nat) (A0 : Option Addr) (c0 : Nat) (l0 : List Bool) (a1 : Bool) (r : Int) (w : World) (hr0 : Kd.C Kd.bool w A0 l0.length l0) (hc0 : l0.length ≤ c0) (h : slices_Index_bool_bool.f k l0 a1 = some r) :
    Calls Tryd.prog 57 #[.slice A0 l0.length c0, .bool a1] w fun e w' => e = .returned (.int .i64 r) ∧ Drawn0 w w' := by
  have HR0 := Aside0.mk hr0
  have HC0 := Aside0.mk hc0
  clear hr0 hc0
  have H : (slices_Index_bool_bool.l0 k l0 a1 (l0.length : Int) 0) = some r := h
  clear h
  have H' := Aside0.mk H
  clear H
  go_enter Tryd.func57, Tryd.ntmps57
  go_wp2
  go_loopg [8] k (fun kq v8 w' => ∃ (x8_1 : Int), v8 = .int .i64 x8_1 ∧ Aside0 (slices_Index_bool_bool.l0 kq l0 a1 (l0.length : Int) x8_1 = some r) ∧ Aside0 (kq ≤ k) ∧ Drawn0 w w')
  case atStart => exact ⟨(0), (by first | rfl | (simp; done) | (simp [*]; done)), H', ⟨Nat.le_refl _⟩, by repeat (first | exact Drawn0.refl _ | apply Drawn0.step)⟩
  case round =>
    clear H'
    try clear p2
    obtain ⟨x8_1, rfl, HA, HK1, ⟨m1, rfl⟩⟩ := hrel
    cases gk with
    | zero => exact absurd HA.out (by simp [slices_Index_bool_bool.l0])
    | succ k1 =>
      have H := HA.out
      clear HA
      simp only [slices_Index_bool_bool.l0] at H
      by_cases c3 : x8_1 < (l0.length : Int)
      · rw [if_pos c3] at H
        have c3b0 : decide (x8_1 < (l0.length : Int)) = true := decide_eq_true c3
        clear c3
        by_cases c4 : 0 ≤ x8_1
        · rw [if_pos c4] at H
          have c4b0 : decide (0 ≤ x8_1) = true := decide_eq_true c4
          clear c4
          by_cases c5 : x8_1 < (l0.length : Int)
          · rw [if_pos c5] at H
            have c5b0 : decide (x8_1 < (l0.length : Int)) = true := decide_eq_true c5
            clear c5
            by_cases c6 : (a1 == (rdOf false l0 x8_1)) = true
            · rw [if_pos c6] at H
              have c6b0 : (a1 == (rdOf false l0 x8_1)) = true := c6
              (try (have c6b1 : decide (a1 = (rdOf false l0 x8_1)) = true := by simpa using c6))
              (try (have c6b2 : (a1 == (rdOf false l0 x8_1)) = true := by simpa using c6))
              clear c6
              obtain rfl := Option.some.inj H
              have p186 : 0 ≤ (x8_1 : Int) := of_decide_eq_true (by first | (with_reducible assumption) | assumption)
              have q186 : x8_1 < (l0.length : Int) := of_decide_eq_true (by first | (with_reducible assumption) | assumption)
              obtain ⟨ad186, e186, hx186_0⟩ := Kd.at_bool HR0.out x8_1 p186 q186
              cases e186
              replace p186 := eq_true p186
              replace q186 := eq_true q186
              go_wp2
              go_ret
              exact ⟨by first | rfl | (simp; done) | (simp [*]; done), by repeat (first | exact Drawn0.refl _ | apply Drawn0.step)⟩
            · rw [if_neg c6] at H
              have c6b0 : (a1 == (rdOf false l0 x8_1)) = false := by simpa using c6
              (try (have c6b1 : decide (a1 = (rdOf false l0 x8_1)) = false := by simpa using c6))
              (try (have c6b2 : (a1 == (rdOf false l0 x8_1)) = false := by simpa using c6))
              (try (have c6b3 : ¬ (a1 = (rdOf false l0 x8_1)) := by simpa using c6))
              clear c6
              have H' := Aside0.mk H
              clear H
              have p186 : 0 ≤ (x8_1 : Int) := of_decide_eq_true (by first | (with_reducible assumption) | assumption)
              have q186 : x8_1 < (l0.length : Int) := of_decide_eq_true (by first | (with_reducible assumption) | assumption)
              obtain ⟨ad186, e186, hx186_0⟩ := Kd.at_bool HR0.out x8_1 p186 q186
              cases e186
              replace p186 := eq_true p186
              replace q186 := eq_true q186
              go_wp2
              go_roundg k1
              case measure => have := HK1.out; omega
              case rel => exact ⟨(wrap64 (x8_1 + 1)), (by first | rfl | (simp; done) | (simp [*]; done)), H', ⟨by have := HK1.out; omega⟩, by repeat (first | exact Drawn0.refl _ | apply Drawn0.step)⟩
          · rw [if_neg c5] at H
            exact absurd H (by simp)
        · rw [if_neg c4] at H
          exact absurd H (by simp)
      · rw [if_neg c3] at H
        have c3b0 : decide (x8_1 < (l0.length : Int)) = false := decide_eq_false c3
        clear c3
        obtain rfl := Option.some.inj H
        go_wp2
        go_ret
        exact ⟨by first | rfl | (simp; done) | (simp [*]; done), by repeat (first | exact Drawn0.refl _ | apply Drawn0.step)⟩
def slices_Contains_bool_bool.f (k : Nat) (l0 : List Bool) (a1 : Bool) : Option (Bool) := (slices_Index_bool_bool.f k l0 a1).bind fun t187 => (some (decide (t187 ≥ 0)))
theorem slices_Contains_bool_bool.mono : ∀ a0 a1 k, LeO (slices_Contains_bool_bool.f k a0 a1) (slices_Contains_bool_bool.f (k + 1) a0 a1) := by
  intro a0 a1 k
  unfold slices_Contains_bool_bool.f
  repeat' first
      | (with_reducible exact slices_Index_bool_bool.mono _ _ _)
      | (with_reducible exact LeO.refl _)
      | (with_reducible exact LeO.none _)
      | (with_reducible refine LeO.ite ?_ ?_)
      | (with_reducible refine LeO.bind ?_ (fun _ => ?_))
      | exact slices_Index_bool_bool.mono _ _ _
      | exact LeO.none _
      | refine LeO.ite ?_ ?_
      | refine LeO.bind ?_ (fun _ => ?_)
set_option maxHeartbeats 8000000 in
set_option maxRecDepth 100000 in
theorem slices_Contains_bool_bool.calls (k : Nat) (A0 : Option Addr) (c0 : Nat) (l0 : List Bool) (a1 : Bool) (r : Bool) (w : World) (hr0 : Kd.C Kd.bool w A0 l0.length l0) (hc0 : l0.length ≤ c0) (h : slices_Contains_bool_bool.f k l0 a1 = some r) :
    Calls Tryd.prog 38 #[.slice A0 l0.length c0, .bool a1] w fun e w' => e = .returned (.bool r) ∧ Drawn0 w w' := by
  have HR0 := Aside0.mk hr0
  have HC0 := Aside0.mk hc0
  clear hr0 hc0
  have H : ((slices_Index_bool_bool.f k l0 a1).bind fun t187 => (some (decide (t187 ≥ 0)))) = some r := h
  clear h
  replace H := Option.bind_eq_some_iff.mp H
  obtain ⟨t187, A30, H⟩ := H
  replace H : (some (decide (t187 ≥ 0))) = some r := H
  have A3 := Aside0.mk A30
  clear A30
  obtain rfl := Option.some.inj H
  go_enter Tryd.func38, Tryd.ntmps38
  go_wp2_with (first | ((with_reducible refine gate_callee (f := 57) rfl ?_); refine goesL_ (some 7) rfl rfl Tryd.func57 (by kernel_rfl) rfl #[.slice A0 l0.length c0, .bool a1] rfl (by (try simp only [List.map_toArray, List.map_cons, List.map_nil]); first | done | rfl | (simp only [List.length_drop, List.length_take]; rfl)) ?_; (with_reducible refine (slices_Index_bool_bool.calls k _ _ l0 a1 t187 _ ?side1 ?side2 A3.out).mono ?_); (case side1 => repeat (first | exact HR0.out | (with_reducible refine Kd.C_alloc ?_ _) | (with_reducible refine Kd.C_drewN ?_ _) | (with_reducible refine Kd.C_drew ?_))); (case side2 => exact HC0.out); rintro e w' ⟨rfl, ⟨nd, rfl⟩⟩; refine ⟨_, rfl, ?_⟩))
  go_ret
  exact ⟨by first | rfl | (simp; done) | (simp [*]; done), by repeat (first | exact Drawn0.refl _ | apply Drawn0.step)⟩
def slotmeshlaw34_example.l0 : Nat → List Int → Int → Option (List Int)
  | 0, _, _ => none
  | k + 1, x1, x2 => if x2 < 256 then (if x1.length < 140737488355328 then (slotmeshlaw34_example.l0 k (x1 ++ [(wrap64 (Int.tdiv x2 16)) % 256]) (wrap64 (x2 + 1))) else (none)) else (some x1)
def slotmeshlaw34_example.f (k : Nat)  : Option (List Int) := slotmeshlaw34_example.l0 k ([] : List Int) 0
set_option maxHeartbeats 8000000 in
set_option maxRecDepth 100000 in
theorem slotmeshlaw34_example.calls (k : Nat)  (r : List Int) (w : World) (h : slotmeshlaw34_example.f k  = some r) :
    Calls Tryd.prog 27 #[] w fun e w' => ∃ v0_ : Value, e = .returned (v0_) ∧ Kd.R (Kd.int .u8) 5 w' w.heap.size (fun _ => True) v0_ r ∧ Below w.heap.size w w' := by
  have HB := Aside0.mk (Below.refl w.heap.size w)
  have H : (slotmeshlaw34_example.l0 k ([] : List Int) 0) = some r := h
  clear h
  have H' := Aside0.mk H
  clear H
  go_enter Tryd.func27, Tryd.ntmps27
  go_wp2
  go_loopg [1, 2] k (fun kq v1 v2 w' => ∃ (x1_1 : List Int) (x2_1 : Int), v2 = .int .i64 x2_1 ∧ Aside0 (slotmeshlaw34_example.l0 kq x1_1 x2_1 = some r) ∧ Aside0 (kq ≤ k) ∧ Aside0 (Kd.R (Kd.int .u8) 5 w' w.heap.size (fun _ => True) v1 x1_1) ∧ Aside0 (Below w.heap.size w w'))
  case atStart => exact ⟨(([] : List Int)), (0), (by first | rfl | (simp; done) | (simp [*]; done)), H', ⟨Nat.le_refl _⟩, ⟨by first | exact Kd.R_nil _ _ _ _ _ | exact Kd.N_nil _ _ _ _ _ | exact Kd.V_nil _ _ _ _ _ | exact Kd.Q_nil _ _ _ _ _ | exact Kd.S_nil _ _ _ _ _⟩, ⟨by repeat (first | (with_reducible first | exact HB.out | apply below_alloc | apply pw_below_drewN | apply below_drew1) | exact HB.out)⟩⟩
  case round =>
    clear H'
    obtain ⟨x1_1, x2_1, rfl, HA, HK1, HO_1, HB⟩ := hrel
    cases gk with
    | zero => exact absurd HA.out (by simp [slotmeshlaw34_example.l0])
    | succ k1 =>
      have H := HA.out
      clear HA
      simp only [slotmeshlaw34_example.l0] at H
      by_cases c1 : x2_1 < 256
      · rw [if_pos c1] at H
        have c1b0 : decide (x2_1 < 256) = true := decide_eq_true c1
        clear c1
        by_cases c2 : x1_1.length < 140737488355328
        · rw [if_pos c2] at H
          have LMc2 := Aside0.mk c2
          clear c2
          obtain ⟨y193, hy193⟩ : ∃ y_ : List Int, y_ = (x1_1 ++ [(wrap64 (Int.tdiv x2_1 16)) % 256]) := ⟨_, rfl⟩
          replace H : (slotmeshlaw34_example.l0 k1 y193 (wrap64 (x2_1 + 1))) = some r := by first | (rw [hy193]; with_reducible exact H) | (have H2_ := (Option.bind_some _ _).symm.trans H; rw [hy193]; with_reducible exact H2_) | (have H2_ := (Option.bind_some _ _).symm.trans H; with_reducible exact H2_) | with_reducible exact H | (rw [hy193]; exact H) | exact H
          have Ny193 := Aside0.mk hy193
          clear hy193
          have H' := Aside0.mk H
          clear H
          go_wp2_with (first | ((with_reducible refine gate_builtin (b := .append) (xs := #[.tmp 7, .tmp 11]) rfl ?_); at_builtin; refine Kd.R_append (Kd.int .u8) (w0 := w) w.heap.size rfl (.tmp 7) (.tmp 11) 22 5 (.int .u8 0) 1 rfl Tryd.underlying22 info5 rfl (by decide) (by omega) u1 x1_1 ((wrap64 (Int.tdiv x2_1 16)) % 256) [.int .u8 ((wrap64 (Int.tdiv x2_1 16)) % 256)] (fun _ => True) (fun _ => False) rfl rfl ?aP (fun _ hk => hk.elim) ?aF ?aO ?aB ?aS ?aL ?_; (case aP => exact rfl); (case aB => exact (by repeat (first | (with_reducible first | exact HB.out | apply below_alloc | apply pw_below_drewN | apply below_drew1) | exact HB.out))); (case aF => exact (fun _ _ => trivial)); (case aO => exact (by (with_reducible repeat (first | apply Kd.R_alloc | apply Kd.R_drewN | apply Kd.R_drew)); exact HO_1.out)); (case aS => exact (below_size (by repeat (first | (with_reducible first | exact HB.out | apply below_alloc | apply pw_below_drewN | apply below_drew1) | exact HB.out)))); (case aL => have := LMc2.out; omega); intro v194 w3 ho hb hg hat; rw [← Ny193.out] at ho; have n0_ := Aside0.mk (hb); have n1_ := Aside0.mk (ho); clear HB; clear HO_1; have HB := n0_; have HO195 := n1_; clear n0_ n1_; clear ho hb hg hat))
          go_roundg k1
          case measure => have := HK1.out; omega
          case rel => exact ⟨(y193), (wrap64 (x2_1 + 1)), (by first | rfl | (simp; done) | (simp [*]; done)), H', ⟨by have := HK1.out; omega⟩, ⟨by (with_reducible repeat (first | apply Kd.R_alloc | apply Kd.R_drewN | apply Kd.R_drew)); exact HO195.out⟩, ⟨by repeat (first | (with_reducible first | exact HB.out | apply below_alloc | apply pw_below_drewN | apply below_drew1) | exact HB.out)⟩⟩
        · rw [if_neg c2] at H
          exact absurd H (by simp)
      · rw [if_neg c1] at H
        have c1b0 : decide (x2_1 < 256) = false := decide_eq_false c1
        clear c1
        obtain rfl := Option.some.inj H
        go_wp2
        go_ret
        exact ⟨_, by first | rfl | (simp [errW_none, errW_some] <;> rfl) | (simp [*, errW_none, errW_some] <;> rfl), by (with_reducible repeat (first | apply Kd.R_alloc | apply Kd.R_drewN | apply Kd.R_drew)); exact HO_1.out, by repeat (first | (with_reducible first | exact HB.out | apply below_alloc | apply pw_below_drewN | apply below_drew1) | exact HB.out)⟩
def slotmeshref34_Seed.f (a0 : Int) : Option (Bool) := if a0 ≥ 0 then (some (decide (a0 ≤ 1000000000))) else (some false)
set_option maxHeartbeats 8000000 in
set_option maxRecDepth 100000 in
theorem slotmeshref34_Seed.calls (a0 : Int) (r : Bool) (w : World) (h : slotmeshref34_Seed.f a0 = some r) :
    Calls Tryd.prog 25 #[.int .i64 a0] w fun e w' => e = .returned (.bool r) ∧ Drawn0 w w' := by
  have H : (if a0 ≥ 0 then (some (decide (a0 ≤ 1000000000))) else (some false)) = some r := h
  clear h
  by_cases c2 : a0 ≥ 0
  · rw [if_pos c2] at H
    have c2b0 : decide (0 ≤ a0) = true := decide_eq_true c2
    clear c2
    obtain rfl := Option.some.inj H
    go_enter Tryd.func25, Tryd.ntmps25
    go_wp2
    go_ret
    exact ⟨by first | rfl | (simp; done) | (simp [*]; done), by repeat (first | exact Drawn0.refl _ | apply Drawn0.step)⟩
  · rw [if_neg c2] at H
    have c2b0 : decide (0 ≤ a0) = false := decide_eq_false c2
    clear c2
    obtain rfl := Option.some.inj H
    go_enter Tryd.func25, Tryd.ntmps25
    go_wp2
    go_ret
    exact ⟨by first | rfl | (simp; done) | (simp [*]; done), by repeat (first | exact Drawn0.refl _ | apply Drawn0.step)⟩
end Go.Proofs.YtknlbeojdmeljaaDoor.P
namespace Go.Proofs.YtknlbeojdmeljaaDoor.H
open Go.RowKit Go.Proofs.YtknlbeojdmeljaaDoorW.PrintWords Go.Proofs.YtknlbeojdmeljaaDoorW.PrintLast Go.Proofs.YtknlbeojdmeljaaDoorW.PrintMore Go.Proofs.YtknlbeojdmeljaaDoor.P
set_option linter.unusedVariables false
set_option linter.unusedSimpArgs false
def shS : Nat → Int
  | 0 => 30
  | 1 => 27
  | _ => 31
def faS : Nat → Int
  | 0 => 13787848793156543929
  | 1 => 10723151780598845931
  | _ => 1
def stepsV : List Value := [.int .i64 (shS 0), .int .u64 (faS 0), .int .i64 (shS 1), .int .u64 (faS 1), .int .i64 (shS 2), .int .u64 (faS 2)]
structure Tabs (w : World) : Prop where
  steps : w.rangeAt 2 0 stepsV
  tz : TabAt 1 Lib.deBruijn64tab w
theorem Tabs.lt {w : World} (h : Tabs w) : 2 < w.heap.size := World.block_lt_of_cell? (a := ⟨2, 0, none⟩) _ (h.steps 0 _ rfl)
theorem Tabs.below {w w1 : World} {B : Nat} (h : Tabs w) (hB : 3 ≤ B) (hb : Below B w w1) : Tabs w1 :=
  ⟨fun j v hv => (hb.cell (p := ⟨2, 0 + j, none⟩) (show 2 < B by omega)).trans (h.steps j v hv), fun j hj => (hb.cell (p := ⟨1, j, none⟩) (show 1 < B by omega)).trans (h.tz j hj)⟩
theorem Tabs.keep {w w1 : World} (h : Tabs w) (hb : Below w.heap.size w w1) : Tabs w1 := h.below h.lt hb
theorem und99 : Tryd.prog.underlying 99 = some (.array 3 98) := by kernel_rfl
theorem size99 : (Tryd.prog.info? 99).map (·.size) = some 6 := by kernel_rfl
theorem size98 : (Tryd.prog.info? 98).map (·.size) = some 2 := by kernel_rfl
theorem run_index99 (a0 a1 a2 a3 a4 a5 : Int) (w : World) : (Instr.index 99 (.agg #[.int .i64 a0, .int .u64 a1, .int .i64 a2, .int .u64 a3, .int .i64 a4, .int .u64 a5]) (.int .i64 0)).run Tryd.prog w = .ok (.agg #[.int .i64 a0, .int .u64 a1]) w ∧
    (Instr.index 99 (.agg #[.int .i64 a0, .int .u64 a1, .int .i64 a2, .int .u64 a3, .int .i64 a4, .int .u64 a5]) (.int .i64 1)).run Tryd.prog w = .ok (.agg #[.int .i64 a2, .int .u64 a3]) w ∧
    (Instr.index 99 (.agg #[.int .i64 a0, .int .u64 a1, .int .i64 a2, .int .u64 a3, .int .i64 a4, .int .u64 a5]) (.int .i64 2)).run Tryd.prog w = .ok (.agg #[.int .i64 a4, .int .u64 a5]) w := ⟨by kernel_rfl, by kernel_rfl, by kernel_rfl⟩
theorem run_ix99 (k : Nat) (hk : k < 3) (w : World) : (Instr.index 99 (.agg stepsV.toArray) (.int .i64 (k : Int))).run Tryd.prog w = .ok (.agg #[.int .i64 (shS k), .int .u64 (faS k)]) w := by
  have h := run_index99 (shS 0) (faS 0) (shS 1) (faS 1) (shS 2) (faS 2) w
  match k, hk with
  | 0, _ => exact h.1
  | 1, _ => exact h.2.1
  | 2, _ => exact h.2.2
def mixS (x sh fa : Int) : Int := IntKind.u64.wrap (Go.bits .xor .u64 x (x / 2 ^ min sh.toNat 64) * fa)
def nextTo (s : Int) : Nat → Int
  | 0 => IntKind.u64.wrap (s + 11400714819323198485)
  | k + 1 => mixS (nextTo s k) (shS k) (faS k)
def nextS (s : Int) : Int := nextTo s 3
set_option maxRecDepth 100000 in
set_option maxHeartbeats 1000000 in
theorem next_calls (s : Int) (w : World) (ht : Tabs w) : Calls Tryd.prog 67 #[.int .u64 s] w fun e w' => e = .returned (.int .u64 (nextS s)) ∧ Below w.heap.size w w' := by
  have HT := Lib.hid ht
  clear ht
  obtain ⟨V, hV⟩ : ∃ V, V = stepsV := ⟨_, rfl⟩
  have HV := Lib.hid hV
  have hl : (Tryd.prog.info? 99).map (·.size) = some V.length := by rw [hV]; exact size99
  have hr : w.rangeAt 2 0 V := by rw [hV]; exact HT.out.steps
  have HL := Lib.hid hl
  have HRG := Lib.hid hr
  clear hV hl hr
  go_enter Tryd.func67, Tryd.ntmps67
  go_wp2_with (first | (refine wpList_load_mid rfl 99 _ rfl 2 0 rfl V _ HRG.out und99 rfl HL.out ?_))
  go_loopw [3, 9] (fun x i wr => ∃ k : Nat, k ≤ 3 ∧ i = .int .i64 (k : Int) ∧ x = .int .u64 (nextTo s k) ∧ Below w.heap.size w wr) (fun _ i _ => 3 - (intOf i).toNat)
  case atStart => exact ⟨0, by omega, rfl, rfl, Below.refl _ _⟩
  case round =>
    obtain ⟨k, hk, rfl, rfl, hB⟩ := hrel
    by_cases hlt : k < 3
    · have hix := run_ix99 k hlt
      have hnx : nextTo s (k + 1) = mixS (nextTo s k) (shS k) (faS k) := rfl
      have hs0 : 0 ≤ shS k := by match k, hlt with | 0, _ => decide | 1, _ => decide | 2, _ => decide
      rw [← HV.out] at hix
      obtain ⟨x, hx⟩ : ∃ x, x = nextTo s k := ⟨_, rfl⟩
      obtain ⟨sh, hsh⟩ : ∃ sh, sh = shS k := ⟨_, rfl⟩
      obtain ⟨fa, hfa⟩ : ∃ fa, fa = faS k := ⟨_, rfl⟩
      rw [← hx, ← hsh, ← hfa] at hnx
      rw [← hsh, ← hfa] at hix
      rw [← hsh] at hs0
      rw [← hx]
      have HN := Lib.hid hnx
      clear hnx hx hsh hfa
      go_wp2_with (first | (refine wpList_store_row rfl 98 _ _ rfl wr.heap.size [.int .i64 sh, .int .u64 fa] _ 98 rfl rfl (blk_new rfl) rfl size98 (by intro v hv; simp at hv; rcases hv with rfl | rfl <;> rfl) ?_; intro w1 g1 g2 g3 g4; have c0 : w1.cell? ⟨wr.heap.size, 0, none⟩ = some (.int .i64 sh) := (cell_of_row w1 _ 0 _ 98 (0, 0) g1).trans rfl; have c1 : w1.cell? ⟨wr.heap.size, 1, none⟩ = some (.int .u64 fa) := (cell_of_row w1 _ 1 _ 98 (0, 0) g1).trans rfl; have G4 := Lib.hid (g4 _ _ hB.size (hB.alloc hB.size _)); clear g1 g2 g3 g4))
      go_region
      all_goals go_wp2
      all_goals go_roundw
      all_goals first
        | exact ⟨k + 1, by omega, by go_num, by rw [HN.out]; rfl, G4.out.drew⟩
        | (simp [intOf]; omega)
    · obtain rfl : k = 3 := by omega
      go_wp2
      go_ret
      exact ⟨rfl, hB⟩
theorem nextS_range (s : Int) : 0 ≤ nextS s ∧ nextS s < 18446744073709551616 := by
  unfold nextS
  show 0 ≤ IntKind.u64.wrap _ ∧ IntKind.u64.wrap _ < _
  rw [IntKind.wrap_u64]
  omega
/-- the upper half of the next state -/
def firstS (s : Int) : Int := nextS s / 4294967296
theorem firstS_range (s : Int) : 0 ≤ firstS s ∧ firstS s < 4294967296 := by
  have := nextS_range s
  unfold firstS
  omega
end Go.Proofs.YtknlbeojdmeljaaDoor.H
namespace Go.Proofs.YtknlbeojdmeljaaDoor.R
open Go.ChangeShapes Go.WideShapes Go.ChangeAt Go.RowKit Go.Proofs.YtknlbeojdmeljaaDoor.H
set_option linter.unusedVariables false
def laid3 : List (String × DataW Unit) := [("math/bits.deBruijn32tab", Rows.laid_math_bits_deBruijn32tab), ("math/bits.deBruijn64tab", Rows.laid_math_bits_deBruijn64tab), ("slotmesh/random.steps", Rows.laid_slotmesh_random_steps)]
theorem g64 : Tryd.prog.globalNamed "math/bits.deBruijn64tab" = some 1 := by kernel_rfl
theorem gSt : Tryd.prog.globalNamed "slotmesh/random.steps" = some 2 := by kernel_rfl
theorem t64 : (Tryd.prog.globals[1]?).map (·.type) = some 93 := by kernel_rfl
theorem und93 : Tryd.prog.underlying 93 = some (.array 64 5) := by kernel_rfl
theorem cell93 : Tryd.prog.cellsOf 93 = 64 := by kernel_rfl
theorem cell3' : Tryd.prog.cellsOf 3 = 1 := by kernel_rfl
theorem cell69 : Tryd.prog.cellsOf 69 = 1 := by kernel_rfl
theorem tSt : (Tryd.prog.globals[2]?).map (·.type) = some 99 := by kernel_rfl
theorem cell5' : Tryd.prog.cellsOf 5 = 1 := by kernel_rfl
theorem cell98 : Tryd.prog.cellsOf 98 = 2 := by kernel_rfl
theorem cell99 : Tryd.prog.cellsOf 99 = 6 := by kernel_rfl
theorem tab64 {H : Type} : (Rows.laid_math_bits_deBruijn64tab : DataW H) = Lib.tabData .u8 (Lib.deBruijn64tab.map Int.ofNat) := rfl
/-- A world that meets the condition: the heap that the door's own run leaves. -/
theorem door_met (os : Os) (args : Array Value) : laidMetH Tryd.prog laid3 ((World.doorLaid Tryd.prog 27 os).forCall (fun _ _ => 0) ⟨#[], args, []⟩).memory :=
  laidMetH_of_parts3 (fuel := 8) (laidMet_of_run' 8 (by kernel_rfl) (by kernel_rfl)) (by kernel_rfl) (by kernel_rfl)
theorem step_cells {W : World} {m : Nat} {cs : List Value} {a b : Int} {p : List MemPlace} (h : DataW.trod (fun _ => ()) Tryd.prog W 0 (fun _ => true) false m 98 cs = some (.agg [.lit (.int .i64 a), .lit (.int .u64 b)], p)) : cs = [.int .i64 a, .int .u64 b] := by
  obtain ⟨y0, y1, n, hx, hl, h0, h1⟩ := trod_struct2 Tryd.underlying98 h
  simp only [cell3', cell69] at h0 h1
  rw [cell98] at hl
  obtain ⟨a', e0, d0, _⟩ := DataW.trod_int Tryd.underlying3 h0
  obtain ⟨b', e1, d1, _⟩ := DataW.trod_int Tryd.underlying69 h1
  simp only [Prod.mk.injEq, DataW.agg.injEq, List.cons.injEq, and_true] at hx
  rw [d0, d1] at hx
  match cs, hl with
  | [x0, x1], _ =>
    simp at e0 e1
    obtain ⟨⟨hx0, hx1⟩, _⟩ := hx
    simp at hx0 hx1
    rw [e0, e1, hx0, hx1]
theorem tabs_of_laid {W : World} (h : laidMetH Tryd.prog laid3 W) : Tabs W := by
  rw [MakeChecks.laidMetH_plain _ _ _ (by kernel_rfl)] at h
  obtain ⟨ps, ⟨g0, t0, cs0, f0, p0, q0, hg0, ht0, hv0, hd0, ⟨g1, t1, cs1, f1, p1, q1, hg1, ht1, hv1, hd1, ⟨g2, t2, cs2, f2, p2, q2, hg2, ht2, hv2, hd2, _, _⟩, _⟩, _⟩, _, _⟩ := h
  obtain rfl := Option.some.inj (g64.symm.trans hg1)
  obtain rfl := Option.some.inj (gSt.symm.trans hg2)
  obtain rfl := Option.some.inj (t64.symm.trans ht1)
  obtain rfl := Option.some.inj (tSt.symm.trans ht2)
  refine ⟨?_, ?_⟩
  · obtain ⟨xs, m1, rfl, hx1, hlen, hn3, hel⟩ := DataW.trod_array und99 hd2
    rw [cell98] at hel
    rw [cell99] at hlen
    have h0 := hel 0 (by decide)
    have h1 := hel 1 (by decide)
    have h2 := hel 2 (by decide)
    have hcells : cs2.toList = stepsV := by
      match xs, hn3, hx1, h0, h1, h2 with
      | [x0, x1, x2], _, hx1, h0, h1, h2 =>
        simp only [Prod.mk.injEq, Rows.laid_slotmesh_random_steps, DataW.agg.injEq, List.map_cons, List.map_nil, List.cons.injEq, and_true] at hx1
        obtain ⟨⟨a0, a1, a2⟩, _⟩ := hx1
        obtain ⟨x00, x01⟩ := x0
        obtain ⟨x10, x11⟩ := x1
        obtain ⟨x20, x21⟩ := x2
        simp only at a0 a1 a2
        subst a0 a1 a2
        have k0 := step_cells h0
        have k1 := step_cells h1
        have k2 := step_cells h2
        match hc : cs2.toList, hlen with
        | [c0, c1, c2, c3, c4, c5], _ =>
          rw [hc] at k0 k1 k2
          simp at k0 k1 k2
          obtain ⟨rfl, rfl⟩ := k0
          obtain ⟨rfl, rfl⟩ := k1
          obtain ⟨rfl, rfl⟩ := k2
          rfl
    intro j v hj
    have := World.var?_cell hg2 hv2 (0 + j)
    rw [this, ← hj, Nat.zero_add]
    rw [← hcells]
    simp
  · rw [tab64] at hd1
    have hc := Lib.cells_of_tab und93 Tryd.underlying5 cell5' cell93 hd1
    intro j hj
    have := World.var?_cell hg1 hv1 j
    rw [this]
    obtain ⟨l⟩ := cs1
    simp only at hc
    subst hc
    simp [List.getD, hj]
end Go.Proofs.YtknlbeojdmeljaaDoor.R
namespace Go.Proofs.YtknlbeojdmeljaaDoor.L
open Go.RowKit Go.Proofs.YtknlbeojdmeljaaDoorW.PrintWords Go.Proofs.YtknlbeojdmeljaaDoorW.PrintLast Go.Proofs.YtknlbeojdmeljaaDoorW.PrintMore Go.Proofs.YtknlbeojdmeljaaDoor.P Go.Proofs.YtknlbeojdmeljaaDoor.H
set_option linter.unusedVariables false
set_option linter.unusedSimpArgs false
/-- with fuel enough -/
def Ev {α : Type} (f : Nat → Option α) (r : α) : Prop := ∃ K, ∀ k, K ≤ k → f k = some r
theorem Ev.succ {α β : Type} {f : Nat → Option α} {g : Nat → Option β} {r : α} {s : β} (h : Ev f r) (e : ∀ k, f k = some r → g (k + 1) = some s) : Ev g s := by
  obtain ⟨K, h⟩ := h
  refine ⟨K + 1, fun k hk => ?_⟩
  obtain ⟨j, rfl⟩ : ∃ j, k = j + 1 := ⟨k - 1, by omega⟩
  exact e j (h j (by omega))
theorem Ev.map {α β : Type} {f : Nat → Option α} {g : Nat → Option β} {r : α} {s : β} (h : Ev f r) (e : ∀ k, f k = some r → g k = some s) : Ev g s := by
  obtain ⟨K, h⟩ := h
  exact ⟨K, fun k hk => e k (h k hk)⟩
theorem Ev.one {α : Type} {f : Nat → Option α} {r : α} (e : ∀ k, f (k + 1) = some r) : Ev f r := ⟨1, fun k hk => by
  obtain ⟨j, rfl⟩ : ∃ j, k = j + 1 := ⟨k - 1, by omega⟩
  exact e j⟩
theorem Ev.and {α β : Type} {f : Nat → Option α} {g : Nat → Option β} {r : α} {s : β} (h1 : Ev f r) (h2 : Ev g s) : ∃ K, ∀ k, K ≤ k → f k = some r ∧ g k = some s := by
  obtain ⟨K1, h1⟩ := h1
  obtain ⟨K2, h2⟩ := h2
  exact ⟨K1 + K2, fun k hk => ⟨h1 k (by omega), h2 k (by omega)⟩⟩
theorem wrap_succ (i : Nat) (h : i < 9223372036854775807) : wrap64 ((i : Int) + 1) = ((i + 1 : Nat) : Int) := by unfold wrap64; omega
theorem lead_spec (m : Nat) (h1 : 1 ≤ m) (h : m < 65536) : ∃ j, j < 16 ∧ lead m = 2 ^ j ∧ 2 ^ j ≤ m ∧ m < 2 ^ (j + 1) := by
  obtain ⟨h2, h3, h4⟩ := Lib.bitLenAux_bounds 64 m (by omega) (by omega)
  have h5 := bitLen16 m h
  have e : Lib.bitLen m = Lib.bitLenAux 64 m := rfl
  rw [← e] at h2 h3 h4
  refine ⟨Lib.bitLen m - 1, by omega, ?_, h3, ?_⟩
  · unfold lead
    have : 2 ^ Lib.bitLen m = 2 * 2 ^ (Lib.bitLen m - 1) := by rw [← Nat.pow_succ']; congr 1; omega
    omega
  · rwa [show Lib.bitLen m - 1 + 1 = Lib.bitLen m by omega]
def at_ (l : List S25) (i : Nat) : S25 := l.getD i z25
def mk (l : List S25) (i : Nat) : Nat := (at_ l i).f0.toNat
theorem fine_spec {m : Int} {d : List Int} (h : fineB m d = true) : 1 ≤ m ∧ m < 65536 ∧ d.length = 16 := FRow.spec ⟨⟨m, d⟩, h⟩
theorem and_two_pow (m j : Nat) : m &&& 2 ^ j = if m.testBit j then 2 ^ j else 0 := by
  apply Nat.eq_of_testBit_eq
  intro i
  rw [Nat.testBit_and, Nat.testBit_two_pow]
  by_cases h : m.testBit j = true
  · rw [if_pos h, Nat.testBit_two_pow]
    by_cases e : j = i
    · subst e; simp [h]
    · simp [e]
  · rw [if_neg h]
    by_cases e : j = i
    · subst e; simpa using h
    · simp [e]
theorem top_bit {m j : Nat} (h1 : 2 ^ j ≤ m) (h2 : m < 2 ^ (j + 1)) : m.testBit j = true := by
  obtain ⟨i, hi, hb⟩ := Nat.exists_ge_and_testBit_of_ge_two_pow h1
  by_cases e : i = j
  · rw [← e]; exact hb
  · have := Nat.testBit_lt_two_pow (x := m) (i := i) (Nat.lt_of_lt_of_le h2 (Nat.pow_le_pow_right (by omega) (by omega)))
    rw [this] at hb
    cases hb
/-- the leads of a list, together -/
def orL (l : List S25) : Nat := l.foldl (fun a x => a ||| lead x.f0.toNat) 0
theorem val1_val (l : List S25) : ∀ st, (∀ x ∈ l, fineB x.f0 x.f1 = true) → ((st.2 :: l.map (fun x => lead x.f0.toNat)).Pairwise (· > ·)) → val1 l st = some (l.foldl (fun a x => a ||| lead x.f0.toNat) st.1, (l.map (fun x => lead x.f0.toNat)).getLast?.getD st.2) := by
  induction l with
  | nil => intro st _ _; rfl
  | cons x l ih =>
    intro st hf hp
    simp only [List.map_cons, List.pairwise_cons] at hp
    have h1 : fineB x.f0 x.f1 = true ∧ lead x.f0.toNat < st.2 := ⟨hf x (by simp), hp.1 _ (by simp)⟩
    rw [val1, if_pos h1, ih _ (fun y hy => hf y (by simp [hy]))]
    · simp only [List.foldl_cons, List.map_cons, List.getLast?_cons]
      simp
    · simp only [List.pairwise_cons]
      exact ⟨hp.2.1, hp.2.2⟩
theorem val1_conv (l : List S25) : ∀ st st', val1 l st = some st' → (∀ x ∈ l, fineB x.f0 x.f1 = true) ∧ ((st.2 :: l.map (fun x => lead x.f0.toNat)).Pairwise (· > ·)) := by
  induction l with
  | nil => intro st st' _; simp
  | cons x l ih =>
    intro st st' h
    rw [val1] at h
    split at h
    · rename_i hc
      obtain ⟨h1, h2⟩ := ih _ _ h
      refine ⟨fun y hy => ?_, ?_⟩
      · rcases List.mem_cons.1 hy with rfl | hy
        · exact hc.1
        · exact h1 y hy
      · simp only [List.map_cons, List.pairwise_cons] at h2 ⊢
        refine ⟨fun b hb => ?_, h2⟩
        rcases List.mem_cons.1 hb with rfl | hb
        · exact hc.2
        · exact Nat.lt_trans (h2.1 b hb) hc.2
    · cases h
/-- what valid rows are, in plain words -/
structure VP (l : List S25) : Prop where
  fine : ∀ x ∈ l, fineB x.f0 x.f1 = true
  desc : (l.map (fun x => lead x.f0.toNat)).Pairwise (· > ·)
  red : ∀ i k, i < l.length → k < l.length → i ≠ k → mk l k &&& lead (mk l i) = 0
theorem lead_lt16 (x : S25) (h : fineB x.f0 x.f1 = true) : lead x.f0.toNat < 65536 := lead_lt _ (by have := fine_spec h; omega)
theorem testBit_foldl_or (l : List S25) (i : Nat) : ∀ a : Nat, (l.foldl (fun a x => a ||| lead x.f0.toNat) a).testBit i = (a.testBit i || l.any (fun x => (lead x.f0.toNat).testBit i)) := by
  induction l with
  | nil => intro a; simp
  | cons x l ih => intro a; rw [List.foldl_cons, ih, Nat.testBit_or]; simp [Bool.or_assoc]
theorem mem_at {l : List S25} {i : Nat} (h : i < l.length) : at_ l i ∈ l := by
  unfold at_
  rw [List.getD_eq_getElem?_getD, List.getElem?_eq_getElem h]
  exact List.getElem_mem h
theorem at_mem {l : List S25} {x : S25} (h : x ∈ l) : ∃ i, i < l.length ∧ at_ l i = x := by
  obtain ⟨i, hi, e⟩ := List.getElem_of_mem h
  exact ⟨i, hi, by unfold at_; rw [List.getD_eq_getElem?_getD, List.getElem?_eq_getElem hi]; exact e⟩
theorem lead_inj_at {l : List S25} (hd : (l.map (fun x => lead x.f0.toNat)).Pairwise (· > ·)) {i k : Nat} (hi : i < l.length) (hk : k < l.length) (hne : i ≠ k) : lead (mk l i) ≠ lead (mk l k) := by
  have key : ∀ a b, a < b → b < l.length → lead (mk l b) < lead (mk l a) := by
    intro a b hab hb
    have := List.pairwise_iff_getElem.1 hd a b (by simp; omega) (by simpa using hb) hab
    simp only [List.getElem_map] at this
    unfold mk at_
    rw [List.getD_eq_getElem?_getD, List.getD_eq_getElem?_getD, List.getElem?_eq_getElem hb, List.getElem?_eq_getElem (show a < l.length by omega)]
    exact this
  rcases Nat.lt_or_gt_of_ne hne with h | h
  · have := key i k h hk; omega
  · have := key k i h hi; omega
theorem validS_iff (l : List S25) : validS l = true ↔ VP l := by
  have lead2 : ∀ x ∈ l, fineB x.f0 x.f1 = true → ∃ j, j < 16 ∧ lead x.f0.toNat = 2 ^ j ∧ x.f0.toNat.testBit j = true := by
    intro x hx hf
    have := fine_spec hf
    obtain ⟨j, h1, h2, h3, h4⟩ := lead_spec x.f0.toNat (by omega) (by omega)
    exact ⟨j, h1, h2, top_bit h3 h4⟩
  -- the test of the second loop, bit by bit
  have second : ∀ (hf : ∀ x ∈ l, fineB x.f0 x.f1 = true) (hd : (l.map (fun x => lead x.f0.toNat)).Pairwise (· > ·)), ((l.all fun x => x.f0.toNat &&& orL l == lead x.f0.toNat) = true ↔ ∀ i k, i < l.length → k < l.length → i ≠ k → mk l k &&& lead (mk l i) = 0) := by
    intro hf hd
    rw [List.all_eq_true]
    constructor
    · intro h i k hi hk hne
      have hx := h (at_ l k) (mem_at hk)
      simp only [beq_iff_eq] at hx
      obtain ⟨j, hj, e, _⟩ := lead2 _ (mem_at hi) (hf _ (mem_at hi))
      show (at_ l k).f0.toNat &&& lead (at_ l i).f0.toNat = 0
      rw [e, and_two_pow]
      by_cases hb : (at_ l k).f0.toNat.testBit j = true
      · exfalso
        have ht : ((at_ l k).f0.toNat &&& orL l).testBit j = true := by
          rw [Nat.testBit_and, hb, orL, testBit_foldl_or]
          simp only [Bool.true_and, Nat.zero_testBit, Bool.false_or, List.any_eq_true]
          exact ⟨at_ l i, mem_at hi, by rw [e, Nat.testBit_two_pow_self]⟩
        rw [hx] at ht
        obtain ⟨j2, _, e2, _⟩ := lead2 _ (mem_at hk) (hf _ (mem_at hk))
        rw [e2, Nat.testBit_two_pow] at ht
        have : j2 = j := by simpa using ht
        exact lead_inj_at hd hi hk hne (by show lead (at_ l i).f0.toNat = lead (at_ l k).f0.toNat; rw [e, e2, this])
      · rw [if_neg hb]
    · intro h x hx
      obtain ⟨k, hk, rfl⟩ := at_mem hx
      obtain ⟨j, hj, e, hb⟩ := lead2 _ hx (hf _ hx)
      simp only [beq_iff_eq]
      apply Nat.eq_of_testBit_eq
      intro i
      rw [Nat.testBit_and, orL, testBit_foldl_or, e, Nat.testBit_two_pow]
      simp only [Nat.zero_testBit, Bool.false_or]
      by_cases hij : j = i
      · subst hij
        rw [hb]
        simp only [Bool.true_and, decide_true, List.any_eq_true]
        exact ⟨_, hx, by rw [e, Nat.testBit_two_pow_self]⟩
      · simp only [hij, decide_false, Bool.and_eq_false_iff]
        by_cases hbi : (at_ l k).f0.toNat.testBit i = true
        · right
          rw [List.any_eq_false]
          intro y hy ht
          obtain ⟨k2, hk2, rfl⟩ := at_mem hy
          obtain ⟨j2, _, e2, _⟩ := lead2 _ hy (hf _ hy)
          rw [e2, Nat.testBit_two_pow] at ht
          have hji : j2 = i := by simpa using ht
          by_cases hkk : k2 = k
          · subst hkk
            rw [e] at e2
            have := (Nat.pow_right_inj (show 1 < 2 by omega)).1 e2
            omega
          · have := h k2 k hk2 hk hkk
            have h3 : (at_ l k).f0.toNat &&& lead (at_ l k2).f0.toNat = 0 := this
            rw [e2, and_two_pow, hji, if_pos hbi] at h3
            have := Nat.two_pow_pos i
            omega
        · left
          simpa using hbi
  constructor
  · intro h
    unfold validS at h
    split at h
    · cases h
    · rename_i st hv
      obtain ⟨h1, h2⟩ := val1_conv _ _ _ hv
      have h3 := val1_val l (0, 65536) h1 h2
      rw [hv] at h3
      injection h3 with h3
      simp only [List.pairwise_cons] at h2
      rw [h3] at h
      exact ⟨h1, h2.2, (second h1 h2.2).1 h⟩
  · rintro ⟨h1, h2, h3⟩
    have hp : (((0, 65536) : Nat × Nat).2 :: l.map (fun x => lead x.f0.toNat)).Pairwise (· > ·) := by
      rw [List.pairwise_cons]
      refine ⟨fun b hb => ?_, h2⟩
      obtain ⟨x, hx, rfl⟩ := List.mem_map.1 hb
      exact lead_lt16 x (h1 x hx)
    unfold validS
    rw [val1_val l (0, 65536) h1 hp]
    exact (second h1 h2).2 h3
end Go.Proofs.YtknlbeojdmeljaaDoor.L
namespace Go.Proofs.YtknlbeojdmeljaaDoor.L
open Go.RowKit Go.Proofs.YtknlbeojdmeljaaDoorW.PrintWords Go.Proofs.YtknlbeojdmeljaaDoorW.PrintLast Go.Proofs.YtknlbeojdmeljaaDoorW.PrintMore Go.Proofs.YtknlbeojdmeljaaDoor.P Go.Proofs.YtknlbeojdmeljaaDoor.H
set_option linter.unusedVariables false
set_option linter.unusedSimpArgs false
theorem rd_nat (l : List Int) (i : Nat) : rd l (i : Int) = l.getD i 0 := by simp [rd]
theorem xorD_snoc (a b : List Int) (i : Nat) (ha : i < a.length) (hb : i < b.length) : xorD (a.take i) (b.take i) ++ [xorB (a.getD i 0) (b.getD i 0)] = xorD (a.take (i + 1)) (b.take (i + 1)) := by
  rw [List.take_succ_eq_append_getElem ha, List.take_succ_eq_append_getElem hb]
  unfold xorD
  rw [List.zipWith_append (by simp; omega)]
  simp [List.getD, List.getElem?_eq_getElem ha, List.getElem?_eq_getElem hb]
theorem xor_l0 (a b : List Int) (ha : 16 ≤ a.length) (hb : 16 ≤ b.length) : ∀ n i, i + n = 16 → Ev (fun k => slotmeshref33_Xor.l0 k a b (xorD (a.take i) (b.take i)) (i : Int)) (xorD (a.take 16) (b.take 16)) := by
  intro n
  induction n with
  | zero =>
    intro i hi
    refine Ev.one (fun k => ?_)
    rw [slotmeshref33_Xor.l0, if_neg (by omega), show i = 16 by omega]
  | succ n ih =>
    intro i hi
    refine (ih (i + 1) (by omega)).succ (fun k hk => ?_)
    rw [slotmeshref33_Xor.l0, if_pos (by omega), if_pos (by omega), if_pos (by omega), if_pos (by omega), if_pos (by
      unfold xorD; rw [List.length_zipWith, List.length_take, List.length_take]; omega), rd_nat, rd_nat, wrap_succ i (by omega)]
    rw [show (xorD (a.take i) (b.take i) ++ [Go.bits .xor .u8 (a.getD i 0) (b.getD i 0)]) = xorD (a.take (i + 1)) (b.take (i + 1)) from xorD_snoc a b i (by omega) (by omega)]
    exact hk
theorem refXor (a b : List Int) (ha : a.length = 16) (hb : b.length = 16) : Ev (fun k => slotmeshref33_Xor.f k a b) (xorD a b) := by
  have := xor_l0 a b (by omega) (by omega) 16 0 (by omega)
  rw [List.take_of_length_le (show a.length ≤ 16 by omega), List.take_of_length_le (show b.length ≤ 16 by omega)] at this
  exact this
theorem bytes_l0 (a b : List Int) (he : a.length = b.length) (hl : a.length < 9223372036854775808) : ∀ n i, i + n = a.length → Ev (fun k => slotmeshref33_Bytes.l0 k a b (i : Int)) (a.drop i == b.drop i) := by
  intro n
  induction n with
  | zero =>
    intro i hi
    refine Ev.one (fun k => ?_)
    rw [slotmeshref33_Bytes.l0, if_neg (by omega), List.drop_of_length_le (by omega), List.drop_of_length_le (by omega)]
    rfl
  | succ n ih =>
    intro i hi
    have hd : ∀ c : List Int, i < c.length → c.drop i = c.getD i 0 :: c.drop (i + 1) := fun c hc => by
      rw [List.drop_eq_getElem_cons hc, List.getD_eq_getElem?_getD, List.getElem?_eq_getElem hc]
      rfl
    rw [hd a (by omega), hd b (by omega)]
    by_cases hz : a.getD i 0 = b.getD i 0
    · refine (ih (i + 1) (by omega)).succ (fun k hk => ?_)
      rw [slotmeshref33_Bytes.l0, if_pos (by omega), if_pos (by omega), if_pos (by omega), rd_nat, rd_nat, if_pos hz, wrap_succ i (by omega), hz]
      simpa using hk
    · refine Ev.one (fun k => ?_)
      rw [slotmeshref33_Bytes.l0, if_pos (by omega), if_pos (by omega), if_pos (by omega), rd_nat, rd_nat, if_neg hz]
      simp only [Option.some.injEq]
      symm
      rw [beq_eq_false_iff_ne]
      intro h
      injection h with h1
      exact hz h1
theorem refBytes (a b : List Int) (hl : a.length < 9223372036854775808) : Ev (fun k => slotmeshref33_Bytes.f k a b) (a == b) := by
  by_cases he : a.length = b.length
  · refine (bytes_l0 a b he hl a.length 0 (by omega)).map (fun k hk => ?_)
    rw [slotmeshref33_Bytes.f, if_pos (by omega)]
    exact hk
  · refine ⟨0, fun k _ => ?_⟩
    show slotmeshref33_Bytes.f k a b = _
    rw [slotmeshref33_Bytes.f, if_neg (by omega)]
    congr 1
    symm
    rw [beq_eq_false_iff_ne]
    rintro rfl
    exact he rfl
end Go.Proofs.YtknlbeojdmeljaaDoor.L
namespace Go.Proofs.YtknlbeojdmeljaaDoor.L
open Go.RowKit Go.Proofs.YtknlbeojdmeljaaDoorW.PrintWords Go.Proofs.YtknlbeojdmeljaaDoorW.PrintLast Go.Proofs.YtknlbeojdmeljaaDoorW.PrintMore Go.Proofs.YtknlbeojdmeljaaDoor.P Go.Proofs.YtknlbeojdmeljaaDoor.H
set_option linter.unusedVariables false
set_option linter.unusedSimpArgs false
theorem Ev.bind {α β : Type} {f : Nat → Option α} {g : Nat → α → Option β} {r : α} {s : β} (h1 : Ev f r) (h2 : Ev (fun k => g k r) s) : Ev (fun k => (f k).bind (g k)) s := by
  obtain ⟨K1, h1⟩ := h1
  obtain ⟨K2, h2⟩ := h2
  exact ⟨K1 + K2, fun k hk => by show (f k).bind (g k) = some s; rw [h1 k (by omega)]; exact h2 k (by omega)⟩
theorem Ev.const {α : Type} (r : α) : Ev (fun _ => some r) r := ⟨0, fun _ _ => rfl⟩
theorem Ev.up {α : Type} {f g : Nat → Option α} {r : α} (h : Ev f r) (e : ∀ k, g (k + 1) = f k) : Ev g r := h.succ (fun k hk => (e k).trans hk)
def isB (a : Int) : Prop := 0 ≤ a ∧ a < 256
theorem xorB_nat (a b : Nat) (ha : a < 256) (hb : b < 256) : xorB (a : Int) (b : Int) = ((a ^^^ b : Nat) : Int) := by
  have hx : a ^^^ b < 2 ^ 8 := Nat.xor_lt_two_pow (by omega) (by omega)
  have h1 : (BitVec.ofInt 8 (a : Int)).toNat = a := by
    rw [BitVec.ofInt_natCast, BitVec.toNat_ofNat]; exact Nat.mod_eq_of_lt (by omega)
  have h2 : (BitVec.ofInt 8 (b : Int)).toNat = b := by
    rw [BitVec.ofInt_natCast, BitVec.toNat_ofNat]; exact Nat.mod_eq_of_lt (by omega)
  show IntKind.u8.wrap ((BitVec.ofInt 8 (a : Int) ^^^ BitVec.ofInt 8 (b : Int)).toNat : Int) = _
  rw [BitVec.toNat_xor, h1, h2]
  show (((a ^^^ b : Nat) : Int) % 256) = _
  omega
theorem isB_nat {a : Int} (h : isB a) : ∃ n : Nat, a = (n : Int) ∧ n < 256 := by
  obtain ⟨n, rfl⟩ := Int.eq_ofNat_of_zero_le h.1
  exact ⟨n, rfl, by have := h.2; omega⟩
theorem xorB_isB {a b : Int} (ha : isB a) (hb : isB b) : isB (xorB a b) := by
  obtain ⟨m, rfl, hm⟩ := isB_nat ha
  obtain ⟨n, rfl, hn⟩ := isB_nat hb
  rw [xorB_nat m n hm hn]
  have hx : m ^^^ n < 2 ^ 8 := Nat.xor_lt_two_pow (by omega) (by omega)
  exact ⟨by omega, by omega⟩
theorem xorB_comm {a b : Int} (ha : isB a) (hb : isB b) : xorB a b = xorB b a := by
  obtain ⟨m, rfl, hm⟩ := isB_nat ha
  obtain ⟨n, rfl, hn⟩ := isB_nat hb
  rw [xorB_nat m n hm hn, xorB_nat n m hn hm, Nat.xor_comm]
theorem xorB_assoc {a b c : Int} (ha : isB a) (hb : isB b) (hc : isB c) : xorB (xorB a b) c = xorB a (xorB b c) := by
  obtain ⟨m, rfl, hm⟩ := isB_nat ha
  obtain ⟨n, rfl, hn⟩ := isB_nat hb
  obtain ⟨k, rfl, hk⟩ := isB_nat hc
  have h1 : m ^^^ n < 2 ^ 8 := Nat.xor_lt_two_pow (by omega) (by omega)
  have h2 : n ^^^ k < 2 ^ 8 := Nat.xor_lt_two_pow (by omega) (by omega)
  rw [xorB_nat m n hm hn, xorB_nat n k hn hk, xorB_nat _ k (by omega) hk, xorB_nat m _ hm (by omega), Nat.xor_assoc]
theorem xorB_self {a : Int} (ha : isB a) : xorB a a = 0 := by
  obtain ⟨m, rfl, hm⟩ := isB_nat ha
  rw [xorB_nat m m hm hm, Nat.xor_self]
  rfl
theorem xorB_zero {a : Int} (ha : isB a) : xorB a 0 = a := by
  obtain ⟨m, rfl, hm⟩ := isB_nat ha
  have := xorB_nat m 0 hm (by omega)
  rw [Nat.xor_zero] at this
  exact this
structure GE (x : Nat × List Int) : Prop where
  m : x.1 < 65536
  len : x.2.length = 16
  rng : ∀ b ∈ x.2, isB b
def addE (x y : Nat × List Int) : Nat × List Int := (x.1 ^^^ y.1, xorD x.2 y.2)
def zeroE : Nat × List Int := (0, z16)
theorem zeroE_ge : GE zeroE := ⟨by decide, rfl, by intro b hb; have : b = 0 := List.eq_of_mem_replicate hb; subst this; exact ⟨by omega, by omega⟩⟩
theorem xorD_len {a b : List Int} (ha : a.length = 16) (hb : b.length = 16) : (xorD a b).length = 16 := by simp [xorD, List.length_zipWith, ha, hb]
theorem GE.at_ {x : Nat × List Int} (h : GE x) (i : Nat) (hi : i < x.2.length) : isB x.2[i] := h.rng _ (List.getElem_mem hi)
theorem GE.add {x y : Nat × List Int} (hx : GE x) (hy : GE y) : GE (addE x y) := by
  refine ⟨?_, xorD_len hx.len hy.len, ?_⟩
  · have := Nat.xor_lt_two_pow (n := 16) (x := x.1) (y := y.1) (by have := hx.m; omega) (by have := hy.m; omega)
    simpa [addE] using this
  · intro b hb
    obtain ⟨i, hi, rfl⟩ := List.getElem_of_mem hb
    simp only [addE, xorD, List.getElem_zipWith]
    have h1 := hx.len
    have h2 := hy.len
    have h3 : i < 16 := by simp only [addE] at hi; rw [xorD_len h1 h2] at hi; exact hi
    exact xorB_isB (hx.at_ i (by omega)) (hy.at_ i (by omega))
theorem pair_ext {x y : Nat × List Int} (h1 : x.1 = y.1) (h2 : x.2 = y.2) : x = y := Prod.ext h1 h2
theorem addE_comm {x y : Nat × List Int} (hx : GE x) (hy : GE y) : addE x y = addE y x := by
  refine pair_ext (Nat.xor_comm _ _) ?_
  have h1 := hx.len
  have h2 := hy.len
  refine List.ext_getElem (by simp [addE, xorD, List.length_zipWith, h1, h2]) (fun i hi hj => ?_)
  simp only [addE] at hi
  rw [xorD_len h1 h2] at hi
  simp only [addE, xorD, List.getElem_zipWith]
  exact xorB_comm (hx.at_ i (by omega)) (hy.at_ i (by omega))
theorem addE_assoc {x y z : Nat × List Int} (hx : GE x) (hy : GE y) (hz : GE z) : addE (addE x y) z = addE x (addE y z) := by
  refine pair_ext (Nat.xor_assoc _ _ _) ?_
  have h1 := hx.len
  have h2 := hy.len
  have h3 := hz.len
  refine List.ext_getElem (by simp [addE, xorD, List.length_zipWith, h1, h2, h3]) (fun i hi hj => ?_)
  simp only [addE] at hi
  rw [xorD_len (xorD_len h1 h2) h3] at hi
  simp only [addE, xorD, List.getElem_zipWith]
  exact xorB_assoc (hx.at_ i (by omega)) (hy.at_ i (by omega)) (hz.at_ i (by omega))
theorem addE_self {x : Nat × List Int} (hx : GE x) : addE x x = zeroE := by
  refine pair_ext (Nat.xor_self _) ?_
  have h1 := hx.len
  refine List.ext_getElem (by simp [addE, xorD, List.length_zipWith, h1, zeroE, z16]) (fun i hi hj => ?_)
  simp only [addE] at hi
  rw [xorD_len h1 h1] at hi
  simp only [addE, xorD, List.getElem_zipWith, zeroE, z16, List.getElem_replicate]
  exact xorB_self (hx.at_ i (by omega))
theorem addE_zero {x : Nat × List Int} (hx : GE x) : addE x zeroE = x := by
  refine pair_ext (Nat.xor_zero _) ?_
  have h1 := hx.len
  refine List.ext_getElem (by simp [addE, xorD, List.length_zipWith, h1, zeroE, z16]) (fun i hi hj => ?_)
  simp only [addE] at hi
  rw [xorD_len h1 rfl] at hi
  simp only [addE, xorD, List.getElem_zipWith, zeroE, z16, List.getElem_replicate]
  exact xorB_zero (hx.at_ i (by omega))
theorem zero_addE {x : Nat × List Int} (hx : GE x) : addE zeroE x = x := (addE_comm zeroE_ge hx).trans (addE_zero hx)
/-- (a+b)+(c+d) = (a+c)+(b+d) -/
theorem addE_four {a b c d : Nat × List Int} (ha : GE a) (hb : GE b) (hc : GE c) (hd : GE d) : addE (addE a b) (addE c d) = addE (addE a c) (addE b d) := by
  rw [addE_assoc ha hb (hc.add hd), ← addE_assoc hb hc hd, addE_comm hb hc, addE_assoc hc hb hd, ← addE_assoc ha hc (hb.add hd)]
theorem addE_cancel {x y : Nat × List Int} (hx : GE x) (hy : GE y) : addE (addE x y) y = x := by
  rw [addE_assoc hx hy hy, addE_self hy, addE_zero hx]
def rowv (r : S25) : Nat × List Int := (r.f0.toNat, r.f1)
/-- rows whose bytes are bytes -/
structure GR (l : List S25) : Prop where
  fine : ∀ x ∈ l, fineB x.f0 x.f1 = true
  rng : ∀ x ∈ l, ∀ b ∈ x.f1, isB b
theorem GR.row {l : List S25} (h : GR l) {r : S25} (hr : r ∈ l) : GE (rowv r) := by
  have := fine_spec (h.fine r hr)
  exact ⟨by show r.f0.toNat < 65536; omega, this.2.2, h.rng r hr⟩
theorem GR.lead {l : List S25} (h : GR l) {r : S25} (hr : r ∈ l) : ∃ j, j < 16 ∧ H.lead r.f0.toNat = 2 ^ j ∧ r.f0.toNat.testBit j = true := by
  have := fine_spec (h.fine r hr)
  obtain ⟨j, h1, h2, h3, h4⟩ := lead_spec r.f0.toNat (by omega) (by omega)
  exact ⟨j, h1, h2, top_bit h3 h4⟩
theorem GR.tail {l : List S25} {r : S25} (h : GR (r :: l)) : GR l := ⟨fun x hx => h.fine x (by simp [hx]), fun x hx => h.rng x (by simp [hx])⟩
theorem stepS_eq (x : Nat × List Int) (r : S25) {j : Nat} (hj : H.lead r.f0.toNat = 2 ^ j) : stepS x r = if x.1.testBit j = true then addE x (rowv r) else x := by
  unfold stepS
  rw [hj, and_two_pow]
  by_cases h : x.1.testBit j = true
  · rw [if_pos h, if_pos h, if_pos (by have := Nat.two_pow_pos j; omega)]
    rfl
  · rw [if_neg h, if_neg h, if_neg (by simp)]
theorem stepS_ge {x : Nat × List Int} {r : S25} (hx : GE x) (hr : GE (rowv r)) {j : Nat} (hj : H.lead r.f0.toNat = 2 ^ j) : GE (stepS x r) := by
  rw [stepS_eq x r hj]
  split
  · exact hx.add hr
  · exact hx
theorem stepS_lin {x y : Nat × List Int} {r : S25} (hx : GE x) (hy : GE y) (hr : GE (rowv r)) {j : Nat} (hj : H.lead r.f0.toNat = 2 ^ j) : stepS (addE x y) r = addE (stepS x r) (stepS y r) := by
  rw [stepS_eq _ r hj, stepS_eq x r hj, stepS_eq y r hj]
  have hb : (addE x y).1.testBit j = (x.1.testBit j ^^ y.1.testBit j) := Nat.testBit_xor _ _ _
  cases h1 : x.1.testBit j <;> cases h2 : y.1.testBit j
  · rw [if_neg (by rw [hb, h1, h2]; simp), if_neg (by simp), if_neg (by simp)]
  · rw [if_pos (by rw [hb, h1, h2]; simp), if_neg (by simp), if_pos (by simp)]
    exact addE_assoc hx hy hr
  · rw [if_pos (by rw [hb, h1, h2]; simp), if_pos (by simp), if_neg (by simp)]
    rw [addE_assoc hx hy hr, addE_comm hy hr, ← addE_assoc hx hr hy]
  · rw [if_neg (by rw [hb, h1, h2]; simp), if_pos (by simp), if_pos (by simp)]
    rw [addE_four hx hr hy hr, addE_self hr, addE_zero (hx.add hy)]
theorem redS_ge {l : List S25} (hl : GR l) : ∀ {x : Nat × List Int}, GE x → GE (redS l x) := by
  induction l with
  | nil => intro x hx; exact hx
  | cons r l ih =>
    intro x hx
    obtain ⟨j, _, hj, _⟩ := hl.lead (List.mem_cons_self)
    exact ih hl.tail (stepS_ge hx (hl.row List.mem_cons_self) hj)
theorem redS_lin {l : List S25} (hl : GR l) : ∀ {x y : Nat × List Int}, GE x → GE y → redS l (addE x y) = addE (redS l x) (redS l y) := by
  induction l with
  | nil => intro x y hx hy; rfl
  | cons r l ih =>
    intro x y hx hy
    obtain ⟨j, _, hj, _⟩ := hl.lead (List.mem_cons_self)
    have hr := hl.row (r := r) List.mem_cons_self
    show redS l (stepS (addE x y) r) = addE (redS l (stepS x r)) (redS l (stepS y r))
    rw [stepS_lin hx hy hr hj]
    exact ih hl.tail (stepS_ge hx hr hj) (stepS_ge hy hr hj)
theorem sumS_eq {l : List S25} (hv : validS l = true) (m : Nat) (hm : m < 65536) : sumS l (m : Int) = if (redS l (m, z16)).1 ≠ 0 then ([], false) else ((redS l (m, z16)).2, true) := by
  unfold sumS; rw [if_neg (by rw [hv]; simp; omega)]; rfl
theorem mask_ge (m : Nat) (hm : m < 65536) : GE (m, z16) := ⟨hm, zeroE_ge.len, zeroE_ge.rng⟩
/-- rows by pairs -/
theorem VP.pair {l : List S25} (h : VP l) : l.Pairwise (fun a b => b.f0.toNat &&& H.lead a.f0.toNat = 0 ∧ a.f0.toNat &&& H.lead b.f0.toNat = 0 ∧ H.lead a.f0.toNat > H.lead b.f0.toNat) := by
  rw [List.pairwise_iff_getElem]
  intro i j hi hj hij
  have hg : ∀ k (hk : k < l.length), at_ l k = l[k] := fun k hk => by
    unfold at_; rw [List.getD_eq_getElem?_getD, List.getElem?_eq_getElem hk]; rfl
  have h1 := h.red i j hi hj (by omega)
  have h2 := h.red j i hj hi (by omega)
  have h3 := List.pairwise_iff_getElem.1 h.desc i j (by simpa using hi) (by simpa using hj) hij
  simp only [L.mk, hg i hi, hg j hj] at h1 h2
  simp only [List.getElem_map] at h3
  exact ⟨h1, h2, h3⟩
theorem redS_id {l : List S25} (hl : GR l) : ∀ {x : Nat × List Int}, (∀ r ∈ l, x.1 &&& H.lead r.f0.toNat = 0) → redS l x = x := by
  induction l with
  | nil => intro x _; rfl
  | cons r l ih =>
    intro x h
    have h0 := h r List.mem_cons_self
    show redS l (stepS x r) = x
    have : stepS x r = x := by unfold stepS; rw [if_neg (by simpa using h0)]
    rw [this]
    exact ih hl.tail (fun s hs => h s (List.mem_cons_of_mem _ hs))
theorem and_xor_zero {a b c : Nat} (h1 : a &&& c = 0) (h2 : b &&& c = 0) : (a ^^^ b) &&& c = 0 := by
  rw [Nat.and_xor_distrib_right, h1, h2]
  rfl
theorem desc_len : ∀ (L : List Nat) (n : Nat), L.Pairwise (· > ·) → (∀ x ∈ L, x < n) → L.length ≤ n
  | [], _, _, _ => by simp
  | a :: L, n, hp, h => by
    rw [List.pairwise_cons] at hp
    have h1 := desc_len L a hp.2 (fun x hx => hp.1 x hx)
    have h2 := h a List.mem_cons_self
    simp only [List.length_cons]
    omega
def expo (r : S25) : Nat := Nat.log2 (H.lead r.f0.toNat)
theorem expo_spec {l : List S25} (hl : GR l) {r : S25} (hr : r ∈ l) : expo r < 16 ∧ H.lead r.f0.toNat = 2 ^ expo r := by
  obtain ⟨j, hj, e, _⟩ := hl.lead hr
  unfold expo
  rw [e, Nat.log2_two_pow]
  exact ⟨hj, rfl⟩
theorem expo_desc {l : List S25} (hl : GR l) (hv : VP l) : (l.map expo).Pairwise (· > ·) := by
  have h := hv.pair
  rw [List.pairwise_map]
  refine List.Pairwise.imp_of_mem ?_ h
  intro a b ha hb hab
  have h1 := (expo_spec hl ha).2
  have h2 := (expo_spec hl hb).2
  have h3 := hab.2.2
  rw [h1, h2] at h3
  exact (Nat.pow_lt_pow_iff_right (by omega)).1 h3
theorem len16 {l : List S25} (hl : GR l) (hv : VP l) : l.length ≤ 16 := by
  have := desc_len (l.map expo) 16 (expo_desc hl hv) (fun x hx => by
    obtain ⟨r, hr, rfl⟩ := List.mem_map.1 hx
    exact (expo_spec hl hr).1)
  simpa using this
/-- what is reduced has no lead bit of the rows -/
theorem redS_clear {l : List S25} (hl : GR l) (hv : VP l) : ∀ {x : Nat × List Int}, GE x → ∀ r ∈ l, (redS l x).1 &&& H.lead r.f0.toNat = 0 := by
  have key : ∀ (p q : List S25), l = p ++ q → ∀ {x : Nat × List Int}, GE x → (∀ r ∈ p, x.1 &&& H.lead r.f0.toNat = 0) → ∀ r ∈ l, (redS q x).1 &&& H.lead r.f0.toNat = 0 := by
    intro p q
    induction q generalizing p with
    | nil =>
      intro e x hx hp r hr
      rw [e, List.append_nil] at hr
      exact hp r hr
    | cons s q ih =>
      intro e x hx hp
      have hs : s ∈ l := by rw [e]; simp
      obtain ⟨j, _, hj, hb⟩ := hl.lead hs
      have hpair := hv.pair
      rw [e, List.pairwise_append, List.pairwise_cons] at hpair
      obtain ⟨_, _, hpq⟩ := hpair
      refine ih (p ++ [s]) (by rw [e]; simp) (stepS_ge hx (hl.row hs) hj) (fun r hr => ?_)
      rw [stepS_eq x s hj]
      rcases List.mem_append.1 hr with hr | hr
      · have h1 := hp r hr
        have h2 := (hpq r hr s List.mem_cons_self).1
        split
        · exact and_xor_zero h1 h2
        · exact h1
      · rw [List.mem_singleton.1 hr, hj]
        split
        · rename_i hbit
          show (x.1 ^^^ s.f0.toNat) &&& 2 ^ j = 0
          rw [and_two_pow, if_neg]
          rw [Nat.testBit_xor, hbit, hb]
          simp
        · rename_i hbit
          rw [and_two_pow, if_neg hbit]
  intro x hx r hr
  exact key [] l rfl hx (by simp) r hr
/-- sums of rows -/
inductive Sp (l : List S25) : Nat × List Int → Prop
  | zero : Sp l zeroE
  | add {y : Nat × List Int} {r : S25} : Sp l y → r ∈ l → Sp l (addE y (rowv r))
theorem Sp.ge {l : List S25} (hl : GR l) {y : Nat × List Int} (h : Sp l y) : GE y := by
  induction h with
  | zero => exact zeroE_ge
  | add _ hr ih => exact ih.add (hl.row hr)
theorem Sp.sum {l : List S25} (hl : GR l) {y z : Nat × List Int} (hy : Sp l y) (hz : Sp l z) : Sp l (addE y z) := by
  induction hz with
  | zero => rw [addE_zero (hy.ge hl)]; exact hy
  | add hz hr ih => rw [← addE_assoc (hy.ge hl) (hz.ge hl) (hl.row hr)]; exact Sp.add ih hr
theorem Sp.row {l : List S25} (hl : GR l) {r : S25} (hr : r ∈ l) : Sp l (rowv r) := by
  have := Sp.add (Sp.zero (l := l)) hr
  rwa [zero_addE (hl.row hr)] at this
theorem Sp.of {l l' : List S25} (hl : GR l) (hl' : GR l') (h : ∀ r ∈ l, Sp l' (rowv r)) {y : Nat × List Int} (hy : Sp l y) : Sp l' y := by
  induction hy with
  | zero => exact Sp.zero
  | add _ hr ih => exact ih.sum hl' (h _ hr)
theorem ins_true (e : Nat × List Int) : ∀ (l acc : List S25), l.foldl (insStep e) (acc, true) = (acc ++ l.map (mixE e), true)
  | [], acc => by simp
  | r :: l, acc => by
    have : insStep e (acc, true) r = (acc ++ [mixE e r], true) := by unfold insStep; rw [if_neg (fun h => by cases h.1)]
    rw [List.foldl_cons, this, ins_true e l]
    simp
theorem ins_split (e : Nat × List Int) : ∀ (l acc : List S25), (l.map (fun x => H.lead x.f0.toNat)).Pairwise (· > ·) →
    ∃ p q, l = p ++ q ∧ (∀ r ∈ p, ¬ H.lead r.f0.toNat < H.lead e.1) ∧ (∀ r ∈ q, H.lead r.f0.toNat < H.lead e.1) ∧
      (if (l.foldl (insStep e) (acc, false)).2 = true then (l.foldl (insStep e) (acc, false)).1 else (l.foldl (insStep e) (acc, false)).1 ++ [rowE e]) = acc ++ (p.map (mixE e) ++ rowE e :: q.map (mixE e))
  | [], acc, _ => ⟨[], [], rfl, by simp, by simp, by simp⟩
  | r :: l, acc, hd => by
    simp only [List.map_cons, List.pairwise_cons] at hd
    by_cases hlt : H.lead r.f0.toNat < H.lead e.1
    · refine ⟨[], r :: l, rfl, by simp, fun s hs => ?_, ?_⟩
      · rcases List.mem_cons.1 hs with rfl | hs
        · exact hlt
        · exact Nat.lt_trans (hd.1 _ (List.mem_map.2 ⟨s, hs, rfl⟩)) hlt
      · have : insStep e (acc, false) r = (acc ++ [rowE e, mixE e r], true) := by unfold insStep; rw [if_pos ⟨rfl, hlt⟩]
        rw [List.foldl_cons, this, ins_true]
        simp
    · obtain ⟨p, q, h1, h2, h3, h4⟩ := ins_split e l (acc ++ [mixE e r]) hd.2
      have : insStep e (acc, false) r = (acc ++ [mixE e r], false) := by unfold insStep; rw [if_neg (fun h => hlt h.2)]
      refine ⟨r :: p, q, by rw [h1]; rfl, fun s hs => ?_, h3, ?_⟩
      · rcases List.mem_cons.1 hs with rfl | hs
        · exact hlt
        · exact h2 s hs
      · rw [List.foldl_cons, this, h4]
        simp
theorem insS_split (e : Nat × List Int) {l : List S25} (hv : VP l) : ∃ p q, l = p ++ q ∧ (∀ r ∈ p, ¬ H.lead r.f0.toNat < H.lead e.1) ∧ (∀ r ∈ q, H.lead r.f0.toNat < H.lead e.1) ∧ insS e l = p.map (mixE e) ++ rowE e :: q.map (mixE e) := by
  obtain ⟨p, q, h1, h2, h3, h4⟩ := ins_split e l [] hv.desc
  rw [List.nil_append] at h4
  exact ⟨p, q, h1, h2, h3, h4⟩
def Pr (a b : S25) : Prop := b.f0.toNat &&& H.lead a.f0.toNat = 0 ∧ a.f0.toNat &&& H.lead b.f0.toNat = 0 ∧ H.lead a.f0.toNat > H.lead b.f0.toNat
theorem VP.of_pair {l : List S25} (hf : ∀ x ∈ l, fineB x.f0 x.f1 = true) (hp : l.Pairwise Pr) : VP l := by
  have hg : ∀ k (hk : k < l.length), at_ l k = l[k] := fun k hk => by
    unfold at_; rw [List.getD_eq_getElem?_getD, List.getElem?_eq_getElem hk]; rfl
  refine ⟨hf, ?_, fun i k hi hk hne => ?_⟩
  · rw [List.pairwise_map]
    exact hp.imp (fun h => h.2.2)
  · simp only [L.mk, hg i hi, hg k hk]
    rcases Nat.lt_or_gt_of_ne hne with h | h
    · exact (List.pairwise_iff_getElem.1 hp i k hi hk h).1
    · exact (List.pairwise_iff_getElem.1 hp k i hk hi h).2.1
theorem lead_unique {m j : Nat} (h1 : 2 ^ j ≤ m) (h2 : m < 2 ^ (j + 1)) (hm : m < 65536) : H.lead m = 2 ^ j := by
  obtain ⟨i, _, e, h3, h4⟩ := lead_spec m (by have := Nat.two_pow_pos j; omega) hm
  have a1 : i < j + 1 := (Nat.pow_lt_pow_iff_right (show 1 < 2 by omega)).1 (Nat.lt_of_le_of_lt h3 h2)
  have a2 : j < i + 1 := (Nat.pow_lt_pow_iff_right (show 1 < 2 by omega)).1 (Nat.lt_of_le_of_lt h1 h4)
  rw [e, show i = j by omega]
/-- what a new equation must be -/
structure NE (l : List S25) (e : Nat × List Int) : Prop where
  ge : GE e
  ne : e.1 ≠ 0
  clear : ∀ r ∈ l, e.1 &&& H.lead r.f0.toNat = 0
theorem mixE_v (e : Nat × List Int) (r : S25) {j : Nat} (hj : H.lead e.1 = 2 ^ j) (hr : 0 ≤ r.f0) : rowv (mixE e r) = if r.f0.toNat.testBit j = true then (r.f0.toNat ^^^ e.1, xorD r.f1 e.2) else rowv r := by
  unfold mixE
  rw [hj, and_two_pow]
  by_cases h : r.f0.toNat.testBit j = true
  · rw [if_pos h, if_pos h, if_pos (by have := Nat.two_pow_pos j; omega)]
    rfl
  · rw [if_neg h, if_neg h, if_neg (by simp)]
theorem mix_lead {l : List S25} (hl : GR l) {e : Nat × List Int} (he : NE l e) {r : S25} (hr : r ∈ l) : H.lead (mixE e r).f0.toNat = H.lead r.f0.toNat ∧ GE (rowv (mixE e r)) ∧ 1 ≤ (mixE e r).f0 ∧ (mixE e r).f0 < 65536 := by
  have hf := fine_spec (hl.fine r hr)
  obtain ⟨j, hj16, hj, h2, h3⟩ := lead_spec e.1 (by have := he.ne; omega) he.ge.m
  obtain ⟨i, hi16, hi, h4, h5⟩ := lead_spec r.f0.toNat (by omega) (by omega)
  have hv := mixE_v e r hj (by omega)
  by_cases hb : r.f0.toNat.testBit j = true
  · rw [if_pos hb] at hv
    have hm : (mixE e r).f0 = ((r.f0.toNat ^^^ e.1 : Nat) : Int) := by
      unfold mixE
      rw [hj, and_two_pow, if_pos hb, if_pos (by have := Nat.two_pow_pos j; omega)]
    have hji : j ≠ i := by
      rintro rfl
      have hc := he.clear r hr
      rw [hi, and_two_pow, if_pos (top_bit h2 h3)] at hc
      have := Nat.two_pow_pos j
      omega
    have hlt : j < i := by
      rcases Nat.lt_or_gt_of_ne hji with h | h
      · exact h
      · have := Nat.testBit_lt_two_pow (x := r.f0.toNat) (i := j) (Nat.lt_of_lt_of_le h5 (Nat.pow_le_pow_right (by omega) (by omega)))
        rw [this] at hb
        cases hb
    have hei : e.1 < 2 ^ i := Nat.lt_of_lt_of_le h3 (Nat.pow_le_pow_right (by omega) (by omega))
    have hx1 : (r.f0.toNat ^^^ e.1) < 2 ^ (i + 1) := Nat.xor_lt_two_pow h5 (Nat.lt_of_lt_of_le hei (Nat.pow_le_pow_right (by omega) (by omega)))
    have hx2 : 2 ^ i ≤ (r.f0.toNat ^^^ e.1) := by
      refine Nat.ge_two_pow_of_testBit ?_
      rw [Nat.testBit_xor, top_bit h4 h5, Nat.testBit_lt_two_pow hei]
      rfl
    have hx3 : (r.f0.toNat ^^^ e.1) < 65536 := by
      have := Nat.xor_lt_two_pow (n := 16) (x := r.f0.toNat) (y := e.1) (by omega) (by have := he.ge.m; omega)
      omega
    have hp := Nat.two_pow_pos i
    refine ⟨?_, ?_, by omega, by omega⟩
    · rw [hm, Int.toNat_natCast, hi]
      exact lead_unique hx2 hx1 hx3
    · rw [hv]
      exact (hl.row hr).add he.ge
  · rw [if_neg hb] at hv
    have hm : mixE e r = r := by
      unfold mixE
      rw [hj, and_two_pow, if_neg hb, if_neg (by simp)]
    rw [hm]
    exact ⟨rfl, hl.row hr, hf.1, hf.2.1⟩
theorem NE.lead {l : List S25} {e : Nat × List Int} (he : NE l e) : ∃ j, j < 16 ∧ H.lead e.1 = 2 ^ j ∧ e.1.testBit j = true := by
  obtain ⟨j, hj16, hj, h2, h3⟩ := lead_spec e.1 (by have := he.ne; omega) he.ge.m
  exact ⟨j, hj16, hj, top_bit h2 h3⟩
theorem mix_mask {l : List S25} (hl : GR l) {e : Nat × List Int} (he : NE l e) {r : S25} (hr : r ∈ l) : (mixE e r).f0.toNat = if r.f0.toNat &&& H.lead e.1 ≠ 0 then r.f0.toNat ^^^ e.1 else r.f0.toNat := by
  unfold mixE
  split
  · rw [Int.toNat_natCast]
  · rfl
theorem mix_and {l : List S25} (hl : GR l) {e : Nat × List Int} (he : NE l e) {r : S25} (hr : r ∈ l) {c : Nat} (h1 : r.f0.toNat &&& c = 0) (h2 : e.1 &&& c = 0) : (mixE e r).f0.toNat &&& c = 0 := by
  rw [mix_mask hl he hr]
  split
  · exact and_xor_zero h1 h2
  · exact h1
theorem mix_clear {l : List S25} (hl : GR l) {e : Nat × List Int} (he : NE l e) {r : S25} (hr : r ∈ l) : (mixE e r).f0.toNat &&& H.lead e.1 = 0 := by
  obtain ⟨j, _, hj, hb⟩ := he.lead
  rw [mix_mask hl he hr]
  by_cases h : r.f0.toNat &&& H.lead e.1 = 0
  · rw [if_neg (fun h2 => h2 h)]; exact h
  · rw [if_pos h]
    rw [hj, and_two_pow] at h ⊢
    have hrb : r.f0.toNat.testBit j = true := by
      by_cases h3 : r.f0.toNat.testBit j = true
      · exact h3
      · rw [if_neg h3] at h; exact absurd rfl h
    rw [if_neg]
    rw [Nat.testBit_xor, hrb, hb]
    simp
theorem ne_lead {l : List S25} {e : Nat × List Int} (he : NE l e) {r : S25} (hr : r ∈ l) : H.lead r.f0.toNat ≠ H.lead e.1 := by
  intro h
  obtain ⟨j, _, hj, hb⟩ := he.lead
  have hc := he.clear r hr
  rw [h, hj, and_two_pow, if_pos hb] at hc
  have := Nat.two_pow_pos j
  omega
theorem fineB_of {x : S25} (h1 : 1 ≤ x.f0) (h2 : x.f0 < 65536) (h3 : x.f1.length = 16) : fineB x.f0 x.f1 = true := by
  unfold fineB
  simp [h1, h2, h3]
theorem insS_ok {l : List S25} (hl : GR l) (hv : VP l) {e : Nat × List Int} (he : NE l e) : VP (insS e l) ∧ GR (insS e l) ∧ (insS e l).length = l.length + 1 := by
  obtain ⟨p, q, hpq, hp, hq, hins⟩ := insS_split e hv
  have hsubp : ∀ r ∈ p, r ∈ l := fun r hr => by rw [hpq]; simp [hr]
  have hsubq : ∀ r ∈ q, r ∈ l := fun r hr => by rw [hpq]; simp [hr]
  have hmem : ∀ x ∈ insS e l, x = rowE e ∨ ∃ r ∈ l, x = mixE e r := by
    intro x hx
    rw [hins] at hx
    rcases List.mem_append.1 hx with h | h
    · obtain ⟨r, hr, rfl⟩ := List.mem_map.1 h
      exact .inr ⟨r, hsubp r hr, rfl⟩
    · rcases List.mem_cons.1 h with h | h
      · exact .inl h
      · obtain ⟨r, hr, rfl⟩ := List.mem_map.1 h
        exact .inr ⟨r, hsubq r hr, rfl⟩
  have hfine : ∀ x ∈ insS e l, fineB x.f0 x.f1 = true := by
    intro x hx
    rcases hmem x hx with rfl | ⟨r, hr, rfl⟩
    · have := he.ne
      have := he.ge.m
      exact fineB_of (by show (1 : Int) ≤ (e.1 : Int); omega) (by show (e.1 : Int) < 65536; omega) he.ge.len
    · obtain ⟨_, hg, h1, h2⟩ := mix_lead hl he hr
      exact fineB_of h1 h2 hg.len
  have hpair := hv.pair
  rw [hpq, List.pairwise_append] at hpair
  obtain ⟨hpp, hqq, hcross⟩ := hpair
  have hmm : ∀ a ∈ l, ∀ b ∈ l, (b.f0.toNat &&& H.lead a.f0.toNat = 0 ∧ a.f0.toNat &&& H.lead b.f0.toNat = 0 ∧ H.lead a.f0.toNat > H.lead b.f0.toNat) → Pr (mixE e a) (mixE e b) := by
    intro a ha b hb ⟨h1, h2, h3⟩
    have la := (mix_lead hl he ha).1
    have lb := (mix_lead hl he hb).1
    refine ⟨?_, ?_, by rw [la, lb]; exact h3⟩
    · rw [la]; exact mix_and hl he hb h1 (he.clear a ha)
    · rw [lb]; exact mix_and hl he ha h2 (he.clear b hb)
  have hrow : (rowE e).f0.toNat = e.1 := Int.toNat_natCast _
  have hP : (insS e l).Pairwise Pr := by
    rw [hins, List.pairwise_append, List.pairwise_cons, List.pairwise_map, List.pairwise_map]
    refine ⟨?_, ⟨fun b hb => ?_, ?_⟩, fun a ha b hb => ?_⟩
    · exact hpp.imp_of_mem (fun ha hb h => hmm _ (hsubp _ ha) _ (hsubp _ hb) h)
    · obtain ⟨r, hr, rfl⟩ := List.mem_map.1 hb
      have lr := (mix_lead hl he (hsubq r hr)).1
      refine ⟨?_, ?_, ?_⟩
      · rw [hrow]; exact mix_clear hl he (hsubq r hr)
      · rw [hrow, lr]; exact he.clear r (hsubq r hr)
      · rw [hrow, lr]; exact hq r hr
    · exact hqq.imp_of_mem (fun ha hb h => hmm _ (hsubq _ ha) _ (hsubq _ hb) h)
    · obtain ⟨r, hr, rfl⟩ := List.mem_map.1 ha
      have lr := (mix_lead hl he (hsubp r hr)).1
      rcases List.mem_cons.1 hb with rfl | hb
      · refine ⟨?_, ?_, ?_⟩
        · rw [hrow, lr]; exact he.clear r (hsubp r hr)
        · rw [hrow]; exact mix_clear hl he (hsubp r hr)
        · rw [hrow, lr]
          have h1 := hp r hr
          have h2 := ne_lead he (hsubp r hr)
          omega
      · obtain ⟨s, hs, rfl⟩ := List.mem_map.1 hb
        exact hmm _ (hsubp r hr) _ (hsubq s hs) (hcross r hr s hs)
  refine ⟨VP.of_pair hfine hP, ⟨hfine, fun x hx => ?_⟩, ?_⟩
  · rcases hmem x hx with rfl | ⟨r, hr, rfl⟩
    · exact he.ge.rng
    · exact (mix_lead hl he hr).2.1.rng
  · rw [hins, hpq]
    simp
    omega
/-- the rows behind an insertion: which they are -/
theorem insS_mem {l : List S25} (hv : VP l) (e : Nat × List Int) : rowE e ∈ insS e l ∧ (∀ r ∈ l, mixE e r ∈ insS e l) ∧ (∀ x ∈ insS e l, x = rowE e ∨ ∃ r ∈ l, x = mixE e r) := by
  obtain ⟨p, q, hpq, _, _, hins⟩ := insS_split e hv
  rw [hins]
  refine ⟨by simp, fun r hr => ?_, fun x hx => ?_⟩
  · rw [hpq] at hr
    rcases List.mem_append.1 hr with h | h
    · exact List.mem_append.2 (.inl (List.mem_map.2 ⟨r, h, rfl⟩))
    · exact List.mem_append.2 (.inr (List.mem_cons_of_mem _ (List.mem_map.2 ⟨r, h, rfl⟩)))
  · rcases List.mem_append.1 hx with h | h
    · obtain ⟨r, hr, rfl⟩ := List.mem_map.1 h
      exact .inr ⟨r, by rw [hpq]; simp [hr], rfl⟩
    · rcases List.mem_cons.1 h with h | h
      · exact .inl h
      · obtain ⟨r, hr, rfl⟩ := List.mem_map.1 h
        exact .inr ⟨r, by rw [hpq]; simp [hr], rfl⟩
theorem rowE_v (e : Nat × List Int) : rowv (rowE e) = e := pair_ext (Int.toNat_natCast _) rfl
theorem mixE_or {l : List S25} (hl : GR l) {e : Nat × List Int} (he : NE l e) {r : S25} (hr : r ∈ l) : rowv (mixE e r) = addE (rowv r) e ∨ rowv (mixE e r) = rowv r := by
  obtain ⟨j, _, hj, _⟩ := he.lead
  have hf := fine_spec (hl.fine r hr)
  rw [mixE_v e r hj (by omega)]
  split
  · exact .inl rfl
  · exact .inr rfl
theorem data_ge {d : List Int} (h1 : d.length = 16) (h2 : ∀ b ∈ d, isB b) : GE (0, d) := ⟨by show (0 : Nat) < 65536; omega, h1, h2⟩
theorem redS_data {l : List S25} (hl : GR l) (d : List Int) : redS l (0, d) = (0, d) := redS_id hl (fun r _ => Nat.zero_and _)
theorem split_eq (m : Nat) (hm : m < 65536) {d : List Int} (h1 : d.length = 16) (h2 : ∀ b ∈ d, isB b) : (m, d) = addE (m, z16) (0, d) := by
  refine pair_ext (Nat.xor_zero _).symm ?_
  exact (congrArg Prod.snd (zero_addE (data_ge h1 h2))).symm
theorem redS_split {l : List S25} (hl : GR l) (m : Nat) (hm : m < 65536) {d : List Int} (h1 : d.length = 16) (h2 : ∀ b ∈ d, isB b) : redS l (m, d) = addE (redS l (m, z16)) (0, d) := by
  have := redS_lin hl (x := (m, z16)) (y := (0, d)) ⟨hm, zeroE_ge.len, zeroE_ge.rng⟩ (data_ge h1 h2)
  rw [← split_eq m hm h1 h2, redS_data hl] at this
  exact this
theorem addE_eq_zero {x y : Nat × List Int} (hx : GE x) (hy : GE y) (h : addE x y = zeroE) : x = y := by
  have := addE_cancel hx hy
  rw [h, zero_addE hy] at this
  exact this.symm
end Go.Proofs.YtknlbeojdmeljaaDoor.L
namespace Go.Proofs.YtknlbeojdmeljaaDoor.H
open Go.RowKit Go.Proofs.YtknlbeojdmeljaaDoorW.PrintWords Go.Proofs.YtknlbeojdmeljaaDoorW.PrintLast Go.Proofs.YtknlbeojdmeljaaDoorW.PrintMore Go.Proofs.YtknlbeojdmeljaaDoor.P
set_option linter.unusedVariables false
set_option linter.unusedSimpArgs false
theorem below_put {B l : Nat} {A : World} {o : Obj} (o' : Obj) (hB : B ≤ l) (h : A.heap[l]? = some o) : Below B A (A.putObj l o') :=
  (Below.refl B A).grown (grownBy_putObj' A l o') (by have := (Array.getElem?_eq_some_iff.1 h).1; omega) (fun k e => by cases e; omega)
def onceP (B : Nat) (Ix : World → Prop) (W : World) : Exit → Act → World → Prop
  | .ret, _, W' => KeepsFrom B W W' ∧ Ix W'
  | _, _, _ => False
section
variable {F : Fence} {n : Nat} {P : Program}
/-- A range over a function whose body returns in its first round: the iterator's contract speaks of that round alone. -/
theorem range_once {g : Operand} {ps : Array Tmp} {assign body : Code} {Q : Exit → Act → World → Prop} {a : Act} {w : World}
    (hro : F.round = none) (h1 : 1 ≤ n) {gf : Nat} {lb : Array Value} (hg : a.eval g = .func (.func gf) #[] lb) (hFg : F.fn gf) (eg : ∀ args w, (callFunc gf args).run P w = .ok (.enter gf args) w)
    {args : Array Value} (hps : args.size = ps.size) (Bs : Nat) (hBs : Bs < w.heap.size) (I Ix : World → Prop)
    (hI : ∀ A B : World, I A → Below Bs A B → I B) (hIx : ∀ A B : World, Ix A → Below Bs A B → Ix B) (h0 : I w)
    (hseq : ∀ (l : Nat) (J Jx : World → Prop) (W : World), Below w.heap.size w W → (∀ A B : World, J A → Below Bs A B → (∀ (k : Nat) (o : Obj), A.heap[k]? = some o → o.isCells = false → B.heap[k]? = some o) → J B) →
      (∀ W', J W' → YieldAt F (n - 1 - 1) P l args W' fun e W'' => e = .returned (.bool false) ∧ Jx W'') → J W → CallsIn F (n - 1) P gf (#[.func (.yield l) #[] #[]] ++ lb) W fun e W' => (∃ v, e = .returned v) ∧ Jx W')
    (a₁ : Act) (hassign : ∀ (l : Nat) (W : World) (K : Act → World → Prop), K a₁ W → assign.wpIn (F.inRound l) (n - 1 - 1) P (Exit.then K (fun _ _ _ => False)) { tmps := (ps.zip args).foldl (fun t (p, v) => t.setIfInBounds p v) a.tmps, defers := [] } W)
    (hbody : ∀ (l : Nat) (W : World), w.heap.size ≤ l → I W → body.wpIn (F.inRound l) (n - 1 - 1) P (onceP w.heap.size Ix W) a₁ W)
    (hstop : ∀ (D : Nat) (W : World), w.heap.size ≤ D → Ix W → W.heap[D]? = some (.deferred (some [])) → Code.ret.wpIn F n P Q { a with defers := { target := .collected D, args := #[] } :: a.defers } W) :
    (Code.rangeFunc g ps assign body).wpIn F n P Q a w := by
  refine wpIn_rangeFunc ?_
  intro fn hfn
  rw [hro]
  obtain ⟨rec, hrec⟩ : ∃ rec : LoopState → Option Code → Loop, rec = fun st pe => { state := st, pending := pe, fn, tmps := a.tmps, params := ps, assign, body, defers := w.heap.size } := ⟨_, rfl⟩
  obtain ⟨W1, hW1⟩ : ∃ W1, (w.alloc (.deferred (some []))).alloc (.loop (rec .ready none)) = W1 := ⟨_, rfl⟩
  have hL1 : W1.heap[w.heap.size + 1]? = some (.loop (rec .ready none)) := by
    rw [← hW1]; exact blk_new (by simp)
  have hK1 : W1.heap[w.heap.size]? = some (.deferred (some [])) := by
    rw [← hW1, Below.heap_alloc _ _ _ (by simp)]; exact blk_new rfl
  have hb1 : Below w.heap.size w W1 := by
    rw [← hW1]; exact ((Below.refl _ w).alloc (Nat.le_refl _) _).alloc (by simp) _
  refine ⟨w.heap.size + 1, [{ target := .collected w.heap.size, args := #[] }], W1, { target := .fn (.func gf) lb, args := #[.func (.yield (w.heap.size + 1)) #[] #[]] }, W1, gf,
    #[.func (.yield (w.heap.size + 1)) #[] #[]] ++ lb, W1, ?_, ?_, ?_, ?_, fun _ => h1, ?_⟩
  · rw [← hW1, hrec]; exact run_enterLoop_outer _ _ _ _ _
  · simp only [resolve, hg]
    simp [go_sem]
  · intro f' hf'; simp [Target.leads] at hf'; subst hf'; exact hFg
  · simp [invoke, go_sem, eg]
  refine (hseq (w.heap.size + 1) (fun W => I W ∧ W.heap[w.heap.size + 1]? = some (.loop (rec .ready none)) ∧ W.heap[w.heap.size]? = some (.deferred (some [])))
    (fun W => Ix W ∧ W.heap[w.heap.size + 1]? = some (.loop (rec .done (some .ret))) ∧ W.heap[w.heap.size]? = some (.deferred (some []))) W1 hb1
    (fun A B hA hb hk => ⟨hI A B hA.1 hb, hk _ _ hA.2.1 rfl, hk _ _ hA.2.2 rfl⟩) ?_ ⟨hI _ _ h0 (hb1.mono (by omega)), hL1, hK1⟩).mono ?_
  · rintro W ⟨hi, hl, hk⟩
    have hy := run_yield (P := P) (args := args) hl (by rw [hrec]; exact hps)
    rw [hrec] at hy
    refine ⟨fn, _, assign, body, hy, roundIn_of_wpIn hfn (hassign _ W _ ?_)⟩
    clear hy
    refine ⟨_, run_beginRound hl (by rw [hrec]), ?_⟩
    have hlt := (Array.getElem?_eq_some_iff.1 hl).1
    have hl2 : (W.putObj (w.heap.size + 1) (.loop { rec .ready none with state := .busy })).heap[w.heap.size + 1]? = some (.loop { rec .ready none with state := .busy }) := World.putObj_heap_same hlt
    have hk2 : (W.putObj (w.heap.size + 1) (.loop { rec .ready none with state := .busy })).heap[w.heap.size]? = some (.deferred (some [])) := (World.putObj_heap_other (by omega)).trans hk
    refine wpIn_mono (hbody _ _ (by omega) (hI _ _ hi (below_put _ (by omega) hl))) ?_
    rintro e a3 W3 hp
    cases e <;> first | exact hp.elim | skip
    obtain ⟨hk3, hi3⟩ := hp
    have hl3 := hk3.same _ _ (by omega) hl2 rfl
    have hd3 := hk3.same _ _ (Nat.le_refl _) hk2 rfl
    have hr := run_endRound (P := P) (some Code.ret) hl3
    have hlt3 := (Array.getElem?_eq_some_iff.1 hl3).1
    exact ⟨_, _, hr, rfl, hIx _ _ hi3 (below_put _ (by omega) hl3), by rw [World.putObj_heap_same hlt3, hrec]; rfl, (World.putObj_heap_other (by omega)).trans hd3⟩
  · rintro e W2 ⟨⟨v, rfl⟩, hi, hl, hk⟩
    exact ⟨some .ret, _, by have := run_endLoop (P := P) hl (by rw [hrec]; simp); rw [hrec] at this; exact this, hstop _ _ (Nat.le_refl _) (hIx _ _ hi (below_put _ (by omega) hl)) ((World.putObj_heap_other (by omega)).trans hk)⟩
end
end Go.Proofs.YtknlbeojdmeljaaDoor.H
namespace Go.Proofs.YtknlbeojdmeljaaDoor.H
open Go.RowKit Go.Proofs.YtknlbeojdmeljaaDoorW.PrintWords Go.Proofs.YtknlbeojdmeljaaDoorW.PrintLast Go.Proofs.YtknlbeojdmeljaaDoorW.PrintMore Go.Proofs.YtknlbeojdmeljaaDoor.P
set_option linter.unusedVariables false
set_option linter.unusedSimpArgs false
def KeepsJ (Bs : Nat) (J : World → Prop) : Prop := ∀ A B : World, J A → Below Bs A B → (∀ (k : Nat) (o : Obj), A.heap[k]? = some o → o.isCells = false → B.heap[k]? = some o) → J B
theorem KeepsJ.below {Bs : Nat} {J : World → Prop} (h : KeepsJ Bs J) {A B : World} (hA : J A) (hBs : Bs ≤ A.heap.size) (hb : Below A.heap.size A B) : J B :=
  h A B hA (hb.mono hBs) (fun k o hk _ => (hb.block k (Array.getElem?_eq_some_iff.1 hk).1).trans hk)
theorem KeepsJ.set {Bs : Nat} {J : World → Prop} (h : KeepsJ Bs J) {A : World} (hA : J A) {t : TypeId} {u : Value} (hb : Boxed A Bs t u) (z : Value) : J (A.setCell ⟨Bs, 0, none⟩ z) := by
  refine h A _ hA ((Below.refl Bs A).setCell (Nat.le_refl _) z) (fun k o hk ho => ?_)
  rw [Below.heap_setCell A ⟨Bs, 0, none⟩ z k ?_]
  · exact hk
  · rintro rfl
    have := hb
    unfold Boxed at this
    rw [hk] at this
    cases this
    cases ho
set_option maxRecDepth 100000 in
set_option maxHeartbeats 1000000 in
theorem halves_in (n l Bs : Nat) (s : Int) (J Jx : World → Prop) (W : World) (hb : Boxed W Bs 69 (.int .u64 s)) (ht : Tabs W) (h3 : 3 ≤ Bs) (hJ : KeepsJ Bs J)
    (hY : ∀ W', J W' → YieldAt Fence.wide (n - 1) Tryd.prog l #[.int .i64 (firstS s)] W' fun e W'' => e = .returned (.bool false) ∧ Jx W'') (h0 : J W) :
    CallsIn Fence.wide n Tryd.prog 66 #[.func (.yield l) #[] #[], .pointer (some ⟨Bs, 0, none⟩)] W fun e W' => (∃ v, e = .returned v) ∧ Jx W' := by
  have hro : Fence.wide.round = none := rfl
  have hcell := hb.cell
  have hfro := hb.frozen
  have hlt : Bs < W.heap.size := World.block_lt_of_cell? (a := ⟨Bs, 0, none⟩) _ hcell
  have HY := Lib.hid hY
  have HJ := Lib.hid hJ
  have HT := Lib.hid ht
  have HB := Lib.hid hb
  have H0 := Lib.hid h0
  have HX := Lib.hid (nextS_range s)
  clear hY hJ ht hb h0
  refine callsIn_of_wp Tryd.func66 rfl trivial ?_ hro
  simp only [Tryd.ntmps66, List.size_toArray, List.length_cons, List.length_nil, Nat.reduceAdd, Nat.reduceSub, Array.replicate_succ, Array.replicate_zero, List.push_toArray, List.append_toArray, List.nil_append, List.cons_append]
  gi_wp2_with (refine ⟨trivial, wide_depth, ?_⟩; refine (callsIn_wide.2 (next_calls s _ HT.out)).mono ?_; rintro e w2 ⟨rfl, hb2⟩; have HB2 := Lib.hid (boxed_block HB.out hb2); have HJ2 := Lib.hid (HJ.out.below H0.out (by omega) hb2); have c2 := HB2.out.cell; have f2 := HB2.out.frozen; clear hb2 hcell hfro)
  have HB3 := Lib.hid (HB2.out.set (.int .u64 (nextS s)))
  have HJ3 := Lib.hid (HJ.out.set HJ2.out HB2.out (.int .u64 (nextS s)))
  have c3 := HB3.out.cell
  have f3 := HB3.out.frozen
  obtain ⟨x, hx⟩ : ∃ x, x = nextS s := ⟨_, rfl⟩
  rw [← hx] at c3 f3 HB3 HJ3 HX
  have hf : firstS s = x / 4294967296 := by rw [hx]; rfl
  rw [hf] at HY
  have hx0 : 0 ≤ x / 4294967296 := by have := HX.out; omega
  have hx1 : x / 4294967296 < 4294967296 := by have := HX.out; omega
  rw [← hx]
  obtain ⟨W3, hW3⟩ : ∃ W3, W3 = w2.setCell ⟨Bs, 0, none⟩ (.int .u64 x) := ⟨_, rfl⟩
  rw [← hW3] at c3 f3 HB3 HJ3
  rw [← hW3]
  obtain ⟨fn, tmps, assign, body, hy, hR⟩ := HY.out W3 HJ3.out
  have HRR := Lib.hid hR
  clear hx hf hR hW3 c2 f2
  gi_loopw [6] (fun _ wr => wr = W3) (fun _ _ => 0)
  case atStart => rfl
  case round =>
    subst hrel
    gi_wp2
    refine ⟨wide_depth, HRR.out.mono ?_⟩
    rintro e W4 ⟨rfl, hJx⟩
    gi_wp2
    go_end0
    exact ⟨⟨_, rfl⟩, hJx⟩
theorem halves_calls (s : Int) (w : World) : Calls Tryd.prog 63 #[.int .u64 s] w fun e w' => e = .returned (.func (.func 66) #[] #[.pointer (some ⟨w.heap.size, 0, none⟩)]) ∧ w' = w.alloc (.cells #[.int .u64 s] 69) := by
  go_enter Tryd.func63, Tryd.ntmps63
  go_wp2
  go_ret
  exact ⟨rfl, rfl⟩
set_option maxRecDepth 100000 in
set_option maxHeartbeats 1000000 in
theorem first_calls (s : Int) (w : World) (ht : Tabs w) : Calls Tryd.prog 58 #[.int .u64 s] w fun e w' => e = .returned (.int .i64 (firstS s)) ∧ Below w.heap.size w w' := by
  have h3 := ht.lt
  have ht2 : Tabs ((w.alloc (.cells #[.int .i64 0] 3)).alloc (.cells #[.int .u64 s] 69)) := ht.keep (((Below.refl _ _).alloc (Nat.le_refl _) _).alloc (by simp) _)
  have HT := Lib.hid ht2
  clear ht ht2
  refine (callsIn_wide (n := 3)).1 (callsIn_of_wp_marks Tryd.func58 rfl trivial (wpIn_wide.2 ?_) rfl)
  simp only [Tryd.ntmps58, List.size_toArray, List.length_cons, List.length_nil, Nat.reduceAdd, Nat.reduceSub, Array.replicate_succ, Array.replicate_zero, List.push_toArray, List.append_toArray, List.nil_append, List.cons_append]
  go_wp2_with (go_at_call 63; refine (halves_calls _ _).mono ?_; rintro e w' ⟨rfl, rfl⟩)
  generalize hW0 : (w.alloc (.cells #[.int .i64 0] 3)).alloc (.cells #[.int .u64 s] 69) = W0
  have b2 : Boxed W0 w.heap.size 3 (.int .i64 0) := by rw [← hW0]; exact (Boxed.new w 3 (.int .i64 0)).alloc _
  have bs : Boxed W0 (w.heap.size + 1) 69 (.int .u64 s) := by rw [← hW0]; have h_ := Boxed.new (w.alloc (.cells #[.int .i64 0] 3)) 69 (.int .u64 s); rw [World.size_alloc] at h_; exact h_
  have hB0 : Below w.heap.size w W0 := by rw [← hW0]; exact ((Below.refl _ _).alloc (Nat.le_refl _) _).alloc (by simp) _
  have hsz : W0.heap.size = w.heap.size + 1 + 1 := by rw [← hW0]; simp
  rw [hW0] at HT
  clear hW0
  obtain ⟨fs, hfs⟩ : ∃ fs, fs = firstS s := ⟨_, rfl⟩
  have HFS := Lib.hid hfs
  clear hfs
  refine (wpIn_wide (n := 3)).1 (range_once (F := Fence.wide) (n := 3) rfl (by omega) (gf := 66) (lb := #[.pointer (some ⟨w.heap.size + 1, 0, none⟩)]) rfl trivial (enters_of Tryd.func66 (by kernel_rfl) rfl) (args := #[.int .i64 fs]) rfl (w.heap.size + 1) (by omega)
    (fun W => Below w.heap.size w W ∧ Boxed W w.heap.size 3 (.int .i64 0)) (fun W => Below w.heap.size w W ∧ Boxed W w.heap.size 3 (.int .i64 fs))
    (fun A B hA hb => ⟨hA.1.trans (hb.mono (by omega)), (hb.block _ (by omega)).trans hA.2⟩) (fun A B hA hb => ⟨hA.1.trans (hb.mono (by omega)), (hb.block _ (by omega)).trans hA.2⟩) ⟨hB0, b2⟩
    (fun l J Jx W hW hJ hY hJW => halves_in 2 l (w.heap.size + 1) s J Jx W ((hW.block _ (by omega)).trans bs) (HT.out.keep hW) (by omega) hJ (by rw [← HFS.out]; exact hY) hJW)
    { tmps := #[.int .u64 s, undef, .pointer (some ⟨w.heap.size, 0, none⟩), .int .i64 fs, .int .u64 s, .func (.func 66) #[] #[.pointer (some ⟨w.heap.size + 1, 0, none⟩)], .int .i64 fs, undef], defers := [] } ?assign ?body ?stop)
  case assign =>
    intro l W K hK
    have hout : ¬ LetsOut (Exit.then K (fun _ _ _ => False)) := fun ⟨_, _, h⟩ => h
    refine plain_in (by rfl) hout ?_
    simp only [List.zip_toArray, List.zip_cons_cons, List.zip_nil_right, List.foldl_toArray, List.foldl_cons, List.foldl_nil, List.setIfInBounds_toArray, List.set_cons_zero, List.set_cons_succ]
    go_wp2
    exact hK
  case body =>
    intro l W hl hI
    obtain ⟨hB, hb⟩ := hI
    have hc := hb.cell
    have hf := hb.frozen
    have HB := Lib.hid hb
    clear hb
    refine wpIn_block ?_
    refine wpIn_seq_k (fun K1 hK1 => ?_)
    refine plain_in (by rfl) (fun ⟨_, _, h⟩ => h) ?_
    go_wp2
    refine wpIn_ret ?_
    exact ⟨keeps_set HB.out _ _, hB.setCell (p := ⟨w.heap.size, 0, none⟩) (Nat.le_refl _) _, HB.out.set _⟩
  case stop =>
    rintro D W hD ⟨hB, hb⟩ hK
    refine wpIn_ret ?_
    refine ⟨by simp, .inl ⟨_, _, rfl, run_takeDeferred hK, ?_⟩⟩
    have b1 : Boxed (W.putObj D (.deferred none)) w.heap.size 3 (.int .i64 fs) := (World.putObj_heap_other (by omega)).trans hb
    have c1 := b1.cell
    refine ⟨.int .i64 fs, by simp [results, Tryd.results58, go_sem, c1], by rw [HFS.out], ?_⟩
    exact hB.trans (below_put _ (by omega) hK)
end Go.Proofs.YtknlbeojdmeljaaDoor.H
namespace Go.Proofs.YtknlbeojdmeljaaDoor.H
open Go.RowKit Go.Proofs.YtknlbeojdmeljaaDoorW.PrintWords Go.Proofs.YtknlbeojdmeljaaDoorW.PrintLast Go.Proofs.YtknlbeojdmeljaaDoorW.PrintMore Go.Proofs.YtknlbeojdmeljaaDoor.P
set_option linter.unusedVariables false
set_option linter.unusedSimpArgs false
def maskS (s : Int) : Int := 1 + firstS s % 65535
theorem maskS_range (s : Int) : 1 ≤ maskS s ∧ maskS s < 65536 := by unfold maskS; omega
set_option maxRecDepth 100000 in
set_option maxHeartbeats 1000000 in
theorem mask_calls (s : Int) (w : World) (ht : Tabs w) : Calls Tryd.prog 40 #[.int .u64 s, .int .i64 16] w fun e w' => e = .returned (.int .i64 (maskS s)) ∧ Below w.heap.size w w' := by
  have hms : maskS s = 1 + firstS s % 65535 := rfl
  obtain ⟨fs, hfs⟩ : ∃ fs, fs = firstS s := ⟨_, rfl⟩
  have hr := firstS_range s
  rw [← hfs] at hms hr
  have h0 := hr.1
  have HFS := Lib.hid hfs
  have HMS := Lib.hid hms
  have HT := Lib.hid ht
  have h1 : 0 ≤ fs % 65535 := by omega
  have h2 : fs % 65535 < 65535 := by omega
  have HW := Lib.hid (show wrap64 (1 + fs % 65535) = 1 + fs % 65535 by unfold wrap64; omega)
  clear hfs hms ht hr
  go_enter Tryd.func40, Tryd.ntmps40
  go_wp2_with fail
  refine start_ (n := 8) (S := (fun V => Below w.heap.size w V)) (ds := []) #[false, false, false, false, false, false, false, false] (by kernel_rfl) rfl rfl (Below.refl _ _).drew (fun hHeld => ?_)
  refine pure_ (i := 0) (N := some 11) (v := ?_) (a' := ?_) #[true, false, false, false, false, false, false, false] rfl rfl (by kernel_rfl) (fun _ _ _ h => h) (Or.inl ⟨by rfl, ?_⟩) ?_ ?_
  rotate_left
  · intro w'
    go_simp
    with_reducible rfl
  rotate_left
  · simp only [Act.put, List.setIfInBounds_toArray, List.set_cons_zero, List.set_cons_succ, i64_w, i32_w]
    rfl
  refine pure_ (i := 2) (N := some 13) (v := ?_) (a' := ?_) #[true, false, true, false, false, false, false, false] rfl rfl (by kernel_rfl) (fun _ _ _ h => h) (Or.inl ⟨by rfl, ?_⟩) ?_ ?_
  rotate_left
  · intro w'
    go_simp
    with_reducible rfl
  rotate_left
  · simp only [Act.put, List.setIfInBounds_toArray, List.set_cons_zero, List.set_cons_succ, i64_w, i32_w]
    rfl
  refine pure_ (i := 3) (N := some 14) (v := ?_) (a' := ?_) #[true, false, true, true, false, false, false, false] rfl rfl (by kernel_rfl) (fun _ _ _ h => h) (Or.inl ⟨by rfl, ?_⟩) ?_ ?_
  rotate_left
  · intro w'
    go_simp
    with_reducible rfl
  rotate_left
  · simp only [Act.put, List.setIfInBounds_toArray, List.set_cons_zero, List.set_cons_succ, i64_w, i32_w]
    rfl
  refine pure_ (i := 4) (N := some 15) (v := ?_) (a' := ?_) #[true, false, true, true, true, false, false, false] rfl rfl (by kernel_rfl) (fun _ _ _ h => h) (Or.inl ⟨by rfl, ?_⟩) ?_ ?_
  rotate_left
  · intro w'
    go_simp
    with_reducible rfl
  rotate_left
  · simp only [Act.put, List.setIfInBounds_toArray, List.set_cons_zero, List.set_cons_succ, i64_w, i32_w]
    rfl
  refine one_ (i := 1) (N := some 12) #[true, true, true, true, true, false, false, false] rfl rfl (by kernel_rfl) (by decide) (fun K hK => ?_)
  refine goes_ Tryd.func58 (by kernel_rfl) rfl #[.int .u64 s] (by rfl) rfl rfl (by simp only [List.map_toArray, List.map_cons, List.map_nil]; rfl) ?_
  refine (first_calls s _ (HT.out.keep hHeld)).mono ?_
  rintro e u ⟨rfl, hb⟩
  rw [← HFS.out]
  refine ⟨_, rfl, ?_⟩
  refine hK.out _ _ (hHeld.trans (hb.mono hHeld.size)) (fun hHeld => ?_)
  clear hK K hb
  refine norm_ (a' := ?_) ?_ ?_
  rotate_left
  · show Act.put _ (some 12) _ = _
    simp only [Act.put, List.setIfInBounds_toArray, List.set_cons_zero, List.set_cons_succ, i64_w, i32_w]
    rfl
  refine pure_ (i := 5) (N := some 16) (v := .int .i64 (fs % 65535)) (a' := ?_) #[true, true, true, true, true, true, false, false] rfl rfl (by kernel_rfl) (fun _ _ _ h => h) (Or.inl ⟨by rfl, ?_⟩) ?_ ?_
  · intro w'
    go_simp
    have e1 : wrap64 (wrap64 65536 - 1) = 65535 := by unfold wrap64; omega
    rw [e1, if_neg (by decide), Int.tmod_eq_emod_of_nonneg h0]
  rotate_left
  · simp only [Act.put, List.setIfInBounds_toArray, List.set_cons_zero, List.set_cons_succ, i64_w, i32_w]
    rfl
  refine pure_ (i := 6) (N := some 17) (v := .int .i64 (1 + fs % 65535)) (a' := ?_) #[true, true, true, true, true, true, true, false] rfl rfl (by kernel_rfl) (fun _ _ _ h => h) (Or.inl ⟨by rfl, ?_⟩) ?_ ?_
  · intro w'
    go_simp
    rw [i64_w]
    exact HW.out
  rotate_left
  · simp only [Act.put, List.setIfInBounds_toArray, List.set_cons_zero, List.set_cons_succ, i64_w, i32_w]
    rfl
  refine pure_ (i := 7) (N := some 4) (v := ?_) (a' := ?_) #[true, true, true, true, true, true, true, true] rfl rfl (by kernel_rfl) (fun _ _ _ h => h) (Or.inl ⟨by rfl, ?_⟩) ?_ ?_
  rotate_left
  · intro w'
    go_simp
    with_reducible rfl
  rotate_left
  · simp only [Act.put, List.setIfInBounds_toArray, List.set_cons_zero, List.set_cons_succ, i64_w, i32_w]
    rfl
  refine done_ (by kernel_rfl) ?_
  go_wp2
  go_ret
  exact ⟨by rw [HMS.out]; rfl, hHeld⟩
/-- the set of a seed -/
def setS (n : Int) : Int := if n < 0 ∨ 1000000000 < n then 0 else if n < 16 then ((2 ^ n.toNat : Nat) : Int) else maskS n
theorem setS_range (n : Int) (h0 : 0 ≤ n) (h1 : n ≤ 1000000000) : 1 ≤ setS n ∧ setS n < 65536 := by
  unfold setS
  rw [if_neg (by omega)]
  split
  · rename_i h
    have h2 : 2 ^ n.toNat < 2 ^ 16 := Nat.pow_lt_pow_right (by omega) (by omega)
    have := Nat.two_pow_pos n.toNat
    omega
  · exact maskS_range n
theorem isseed_calls (n : Int) (w : World) : Calls Tryd.prog 29 #[.int .i64 n] w fun e w' => e = .returned (.bool (decide (0 ≤ n ∧ n ≤ 1000000000))) ∧ Below w.heap.size w w' := by
  refine (fountain_isSeed.calls n (decide (0 ≤ n ∧ n ≤ 1000000000)) w ?_).mono ?_
  · unfold fountain_isSeed.f
    by_cases h : n ≥ 0
    · rw [if_pos h]; simp [show 0 ≤ n from h]
    · rw [if_neg h]; simp [h]
  · rintro e w' ⟨rfl, ⟨nd, rfl⟩⟩
    exact ⟨rfl, pw_below_drewN (Below.refl _ _) nd⟩
theorem ispage_calls (n : Int) (w : World) : Calls Tryd.prog 28 #[.int .i64 n] w fun e w' => e = .returned (.bool (decide (0 ≤ n ∧ n < 16))) ∧ Below w.heap.size w w' := by
  refine (fountain_isPage.calls n (decide (0 ≤ n ∧ n < 16)) w ?_).mono ?_
  · unfold fountain_isPage.f
    by_cases h : n ≥ 0
    · rw [if_pos h]; simp [show 0 ≤ n from h]
    · rw [if_neg h]; simp [h]
  · rintro e w' ⟨rfl, ⟨nd, rfl⟩⟩
    exact ⟨rfl, pw_below_drewN (Below.refl _ _) nd⟩
set_option maxRecDepth 100000 in
set_option maxHeartbeats 1000000 in
theorem set_calls (n : Int) (w : World) (ht : Tabs w) : Calls Tryd.prog 18 #[.int .i64 n] w fun e w' => e = .returned (.int .i64 (setS n)) ∧ Below w.heap.size w w' := by
  have HT := Lib.hid ht
  clear ht
  by_cases h : 0 ≤ n ∧ n ≤ 1000000000
  · have hd : decide (0 ≤ n ∧ n ≤ 1000000000) = true := by simpa using h
    have HD := Lib.hid hd
    have hn : setS n = if n < 16 then ((2 ^ n.toNat : Nat) : Int) else maskS n := by unfold setS; rw [if_neg (by omega)]
    have HN := Lib.hid hn
    obtain ⟨h1, h2⟩ := h
    obtain ⟨k, rfl⟩ := Int.eq_ofNat_of_zero_le h1
    clear hd hn h1
    by_cases h16 : k < 16
    · have HP := Lib.hid (show wrap64 (2 ^ k) = ((2 ^ k : Nat) : Int) by
        have h_ : (2 : Nat) ^ k < 2 ^ 16 := Nat.pow_lt_pow_right (by omega) h16
        have e_ : ((2 : Int) ^ k) = ((2 ^ k : Nat) : Int) := by simp
        rw [e_]
        generalize (2 : Nat) ^ k = x at *
        unfold wrap64
        omega)
      go_enter Tryd.func18, Tryd.ntmps18
      go_wp2_with (first | (go_at_call 29; refine (isseed_calls _ _).mono ?_; rw [HD.out]; rintro e w1 ⟨rfl, hb1⟩; have HB1 := Lib.hid hb1; clear hb1))
      go_ret
      refine ⟨?_, HB1.out⟩
      rw [HN.out, if_pos (by omega), Int.toNat_natCast]
      show Ending.returned (.int .i64 (wrap64 (2 ^ k))) = _
      rw [HP.out]
    · go_enter Tryd.func18, Tryd.ntmps18
      go_wp2_with (first
        | (go_at_call 29; refine (isseed_calls _ _).mono ?_; rw [HD.out]; rintro e w1 ⟨rfl, hb1⟩; have HB1 := Lib.hid hb1; clear hb1)
        | (go_at_call 40; refine (mask_calls (k : Int) _ (HT.out.keep HB1.out)).mono ?_; rintro e w2 ⟨rfl, hb2⟩; have HB2 := Lib.hid (HB1.out.trans (hb2.mono HB1.out.size)); clear hb2))
      go_ret
      refine ⟨?_, HB2.out⟩
      rw [HN.out, if_neg (by omega)]
      rfl
  · have hd : decide (0 ≤ n ∧ n ≤ 1000000000) = false := by simpa using h
    have HD := Lib.hid hd
    have hn : setS n = 0 := by unfold setS; rw [if_pos (by omega)]
    have HN := Lib.hid hn
    clear hd hn h
    go_enter Tryd.func18, Tryd.ntmps18
    go_wp2_with (first | (go_at_call 29; refine (isseed_calls _ _).mono ?_; rw [HD.out]; rintro e w1 ⟨rfl, hb1⟩; have HB1 := Lib.hid hb1; clear hb1))
    go_ret
    exact ⟨by rw [HN.out]; rfl, HB1.out⟩
end Go.Proofs.YtknlbeojdmeljaaDoor.H
namespace Go.Proofs.YtknlbeojdmeljaaDoor.H
open Go.RowKit Go.Proofs.YtknlbeojdmeljaaDoorW.PrintWords Go.Proofs.YtknlbeojdmeljaaDoorW.PrintLast Go.Proofs.YtknlbeojdmeljaaDoorW.PrintMore Go.Proofs.YtknlbeojdmeljaaDoor.P
set_option linter.unusedVariables false
set_option linter.unusedSimpArgs false
theorem und93 : Tryd.prog.underlying 93 = some (.array 64 5) := by kernel_rfl
set_option maxHeartbeats 1000000 in
theorem tz64_core (x k idx : Nat) (w : World) (hx0 : ((x : Int) == 0) = false)
    (key : IntKind.u64.wrap (bits BinOp.and IntKind.u64 (x : Int) (IntKind.u64.wrap (-(x : Int))) * 285870213051353865) / 288230376151711744 = (idx : Int))
    (hi : idx < 64) (hk : k < 64) (hcell : w.cell? ⟨1, idx, none⟩ = some (.int .u8 k)) :
    Calls Tryd.prog 44 #[.int .u64 x] w fun e w' => e = .returned (.int .i64 k) ∧ w' = w := by
  go_enter Tryd.func44, Tryd.ntmps44
  go_wp2_with (simp only [key])
  go_ret
  exact ⟨rfl, rfl⟩
theorem tz_calls (x : Nat) (hx : x < 18446744073709551616) (w : World) (ht : Tabs w) :
    Calls Tryd.prog 44 #[.int .u64 (x : Int)] w fun e w' => e = .returned (.int .i64 ((Lib.ctz 64 x : Nat) : Int)) ∧ w' = w := by
  by_cases hx0 : x = 0
  · subst hx0
    go_enter Tryd.func44, Tryd.ntmps44
    go_wp2
    go_ret
    exact ⟨rfl, rfl⟩
  · obtain ⟨hlow, hk⟩ := Lib.lowest_bit 64 x hx0 hx
    obtain ⟨hi, htab⟩ := Lib.deBruijn64_at _ hk
    have hcell := ht.tz _ hi
    rw [htab] at hcell
    exact tz64_core x _ _ w (by simp; omega) (tz64_key x _ hx hx0 hlow) hi hk hcell
theorem tzu_calls (x : Nat) (hx : x < 18446744073709551616) (w : World) (ht : Tabs w) :
    Calls Tryd.prog 32 #[.int .u64 (x : Int)] w fun e w' => e = .returned (.int .i64 ((Lib.ctz 64 x : Nat) : Int)) ∧ w' = w := by
  have HT := Lib.hid ht
  have HX := Lib.hid hx
  clear ht hx
  go_enter Tryd.func32, Tryd.ntmps32
  go_wp2_with (first | (go_at_call 44; refine (tz_calls x HX.out _ HT.out).mono ?_; rintro e w' ⟨rfl, rfl⟩))
  go_ret
  exact ⟨rfl, rfl⟩
def hiS (m i : Nat) : Nat := m / 2 ^ i * 2 ^ i
theorem hiS_zero (m : Nat) : hiS m 0 = m := by simp [hiS]
theorem hiS_lt (m i : Nat) (h : m < 65536) : hiS m i < 65536 := Nat.lt_of_le_of_lt (Nat.div_mul_le_self _ _) h
theorem hiS_bit (m i j : Nat) : (hiS m i).testBit j = (decide (i ≤ j) && m.testBit j) := by
  unfold hiS
  rw [Nat.testBit_mul_two_pow, Nat.testBit_div_two_pow]
  by_cases h : i ≤ j
  · simp [h, Nat.sub_add_cancel h]
  · simp [h]
theorem ctz_bit {x : Nat} (h0 : x ≠ 0) (hx : x < 2 ^ 64) : x.testBit (Lib.ctz 64 x) = true ∧ ∀ j, j < Lib.ctz 64 x → x.testBit j = false := by
  unfold Lib.ctz
  rw [if_neg h0]
  obtain ⟨m, hm, _⟩ := Lib.ctzFrom_spec 64 x (by omega) hx
  generalize Lib.ctzFrom 64 x = k at hm
  rw [hm, Nat.mul_comm]
  refine ⟨?_, fun j hj => ?_⟩
  · rw [Nat.testBit_mul_two_pow]; simp
  · rw [Nat.testBit_mul_two_pow]; simp; omega
theorem ctz_eq {m i : Nat} (hm : m < 65536) (hi : i < 16) : (Lib.ctz 64 (hiS m i) = i) ↔ m.testBit i = true := by
  have hlt := hiS_lt m i hm
  by_cases h0 : hiS m i = 0
  · have h1 : m.testBit i = false := by
      have := hiS_bit m i i
      rw [h0] at this
      simpa using this.symm
    rw [h0, h1]
    simp [Lib.ctz]
    omega
  · obtain ⟨a, b⟩ := ctz_bit h0 (by omega)
    constructor
    · intro h
      rw [h, hiS_bit] at a
      simpa using a
    · intro h
      have h1 : (hiS m i).testBit i = true := by rw [hiS_bit]; simpa using h
      rw [hiS_bit] at a
      rcases Nat.lt_trichotomy (Lib.ctz 64 (hiS m i)) i with c | c | c
      · have : decide (i ≤ Lib.ctz 64 (hiS m i)) = false := by simpa using c
        rw [this] at a
        cases a
      · exact c
      · rw [b i c] at h1
        cases h1
theorem hiS_step {m i : Nat} (h : m.testBit i = true) : hiS m i &&& (hiS m i - 1) = hiS m (i + 1) := by
  have hodd : m / 2 ^ i = 2 * (m / 2 ^ (i + 1)) + 1 := by
    rw [Nat.testBit_eq_decide_div_mod_eq] at h
    simp at h
    rw [Nat.pow_succ, ← Nat.div_div_eq_div_mul]
    omega
  have hp := Nat.two_pow_pos i
  have e1 : hiS m i = 2 ^ i * (2 * (m / 2 ^ (i + 1)) + 1) := by unfold hiS; rw [hodd, Nat.mul_comm]
  have e2 : hiS m (i + 1) = 2 ^ i * (2 * (m / 2 ^ (i + 1))) := by
    unfold hiS
    rw [Nat.pow_succ, Nat.mul_comm, Nat.mul_assoc]
  generalize m / 2 ^ (i + 1) = q at e1 e2
  rw [e1, e2]
  apply Nat.eq_of_testBit_eq
  intro j
  have e3 : 2 ^ i * (2 * q + 1) - 1 = 2 ^ i * (2 * q) + (2 ^ i - 1) := by
    rw [Nat.mul_add, Nat.mul_one]
    omega
  rw [Nat.testBit_and, e3]
  by_cases hj : j < i
  · rw [Nat.mul_comm (2 ^ i) (2 * q), Nat.mul_comm (2 ^ i) (2 * q + 1), Nat.testBit_mul_two_pow, Nat.testBit_mul_two_pow, show decide (i ≤ j) = false by simpa using hj]
    simp
  · have h4 : (2 ^ i * (2 * q) + (2 ^ i - 1)).testBit j = (2 * q).testBit (j - i) := by
      rw [Nat.testBit_two_pow_mul_add _ (by omega), if_neg hj]
    rw [h4, Nat.mul_comm (2 ^ i), Nat.mul_comm (2 ^ i), Nat.testBit_mul_two_pow, Nat.testBit_mul_two_pow]
    simp only [show i ≤ j by omega, decide_true, Bool.true_and]
    cases hd : j - i with
    | zero => simp [Nat.testBit_zero]
    | succ d =>
      rw [Nat.testBit_succ, Nat.testBit_succ]
      have d1 : (2 * q + 1) / 2 = q := by omega
      have d2 : 2 * q / 2 = q := by omega
      rw [d1, d2, Bool.and_self]
theorem hiS_same {m i : Nat} (h : m.testBit i = false) : hiS m (i + 1) = hiS m i := by
  apply Nat.eq_of_testBit_eq
  intro j
  rw [hiS_bit, hiS_bit]
  by_cases e : j = i
  · subst e
    simp [h]
  · have : decide (i + 1 ≤ j) = decide (i ≤ j) := by
      rw [decide_eq_decide]
      omega
    rw [this]
end Go.Proofs.YtknlbeojdmeljaaDoor.H
namespace Go.Proofs.YtknlbeojdmeljaaDoor.H
open Go.RowKit Go.Proofs.YtknlbeojdmeljaaDoorW.PrintWords Go.Proofs.YtknlbeojdmeljaaDoorW.PrintLast Go.Proofs.YtknlbeojdmeljaaDoorW.PrintMore Go.Proofs.YtknlbeojdmeljaaDoor.P
set_option linter.unusedVariables false
set_option linter.unusedSimpArgs false
theorem C_cells {w : World} {g : Nat} {d : List Int} {t : TypeId} (h : w.heap[g]? = some (.cells (bys d).toArray t (0, 0))) (hl : d.length ≤ 9223372036854775807) : Kd.C (Kd.int .u8) w (some ⟨g, 0, none⟩) d.length d := by
  refine ⟨rfl, hl, fun _ => ⟨_, rfl, fun j p hj => ⟨[.int .u8 p], rfl, rfl, fun i u hu => ?_⟩⟩⟩
  match i, hu with
  | 0, hu =>
    simp at hu
    subst hu
    have e : (Kd.int .u8).sz = 1 := rfl
    rw [e]
    have h2 : w.cell? ⟨g, j, none⟩ = some (.int .u8 p) := by
      rw [cell_of_row w g j _ t (0, 0) h]
      simp [bys, hj]
    have e2 : (⟨g, 0, none⟩ : Addr).add (j * 1 + 0) = ⟨g, j, none⟩ := by
      rw [Nat.mul_one, Nat.add_zero]
      unfold Addr.add
      split
      · rename_i h0; subst h0; rfl
      · simp
    rw [e2]
    exact h2
theorem eql_nil1 (g : Nat) (w : World) : (Go.binOp .eql 22 (.slice (some ⟨g, 0, none⟩) 16 16) (.slice none 0 0)).run Tryd.prog w = .ok (.bool false) w := by kernel_rfl
theorem row0_R {w : World} {g : Nat} (base : Nat) (hb : base ≤ g) (h : w.heap[g]? = some (.cells #[] 5 (0, 0))) : Kd.R (Kd.int .u8) 5 w base (fun _ => True) (.slice (some ⟨g, 0, none⟩) 0 0) [] :=
  Kd.R_of_own ⟨by simp [encs], .inr ⟨g, 0, #[], rfl, hb, h, Nat.zero_le _, by decide, by rfl, by simp [encs]⟩⟩ (fun k hk' => trivial)
set_option maxRecDepth 100000 in
set_option maxHeartbeats 1000000 in
theorem clone_calls (g : Nat) (d : List Int) (hd : d.length = 16) (t : TypeId) (w : World) (h : w.heap[g]? = some (.cells (bys d).toArray t (0, 0))) :
    Calls Tryd.prog 33 #[.slice (some ⟨g, 0, none⟩) 16 16] w fun e w' => ∃ v, e = .returned v ∧ Kd.R (Kd.int .u8) 5 w' w.heap.size (fun _ => True) v d ∧ Below w.heap.size w w' := by
  have HD := Lib.hid hd
  have HC := Lib.hid (C_cells h (by omega))
  clear h hd
  go_enter Tryd.func33, Tryd.ntmps33
  have hnil := eql_nil1 g
  go_wp2_with (first
    | ((with_reducible refine gate_builtin (b := .append) (xs := #[.tmp 5, .tmp 6]) rfl ?_); at_builtin; refine Kd.R_append_rows (Kd.int .u8) (w0 := w) w.heap.size rfl (.tmp 5) (.tmp 6) 22 5 (.int .u8 0) 1 rfl Tryd.underlying22 info5 rfl (by decide) (by omega) (.slice (some ⟨w.heap.size, 0, none⟩) 0 0) ([] : List Int) d _ _ _ (fun _ => True) (fun _ => False) rfl rfl ?aO ?aR (fun _ _ h => h) (fun _ h => h.elim) (fun _ _ => trivial) ?aB ?aS ?aL ?_; (case aO => exact row0_R _ (Nat.le_refl _) (blk_new rfl)); (case aR => have h_ := Kd.C_below HC.out ((Below.refl w.heap.size w).alloc (Nat.le_refl _) (.cells #[] 5)); rw [HD.out] at h_; exact h_); (case aB => exact (Below.refl _ _).alloc (Nat.le_refl _) _); (case aS => simp); (case aL => simp); intro v1 w1 ho hb hg hat; rw [List.nil_append] at ho; have HO := Lib.hid ho; have HB := Lib.hid hb; clear ho hb hg hat))
  go_ret
  exact ⟨_, rfl, HO.out, HB.out⟩
end Go.Proofs.YtknlbeojdmeljaaDoor.H
namespace Go.Proofs.YtknlbeojdmeljaaDoor.H
open Go.RowKit Go.Proofs.YtknlbeojdmeljaaDoorW.PrintWords Go.Proofs.YtknlbeojdmeljaaDoorW.PrintLast Go.Proofs.YtknlbeojdmeljaaDoorW.PrintMore Go.Proofs.YtknlbeojdmeljaaDoor.P
set_option linter.unusedVariables false
set_option linter.unusedSimpArgs false
theorem und54 : Tryd.prog.underlying 54 = some (.array 16 5) := by kernel_rfl
theorem size54 : (Tryd.prog.info? 54).map (·.size) = some 16 := by kernel_rfl
/-- one block was written; new blocks -/
def But (S : Nat) (w w' : World) : Prop := (∀ k, k < w.heap.size → k ≠ S → w'.heap[k]? = w.heap[k]?) ∧ Below S w w'
theorem But.size {S : Nat} {w w' : World} (h : But S w w') : w.heap.size ≤ w'.heap.size := h.2.size
theorem But.below {S : Nat} {w w' : World} (hb : Below w.heap.size w w') (hS : S ≤ w.heap.size) : But S w w' := ⟨fun k hk _ => hb.block k hk, hb.mono hS⟩
theorem But.trans {S : Nat} {a b c : World} (h : But S a b) (k : But S b c) : But S a c :=
  ⟨fun j hj hne => (k.1 j (Nat.lt_of_lt_of_le hj h.2.size) hne).trans (h.1 j hj hne), h.2.trans k.2⟩
theorem But.set {S : Nat} {a b : World} (h : But S a b) (o : Nat) (v : Value) : But S a (b.setCell ⟨S, o, none⟩ v) :=
  ⟨fun j hj hne => (Below.heap_setCell b ⟨S, o, none⟩ v j hne).trans (h.1 j hj hne), h.2.setCell (p := ⟨S, o, none⟩) (Nat.le_refl _) v⟩
theorem But.drew {S : Nat} {a b : World} (h : But S a b) : But S a b.drew := ⟨h.1, h.2.drew⟩
set_option maxRecDepth 100000 in
set_option maxHeartbeats 1000000 in
/-- the closure: sum ^= x -/
theorem addc_calls (a b : List Int) (ha : a.length = 16) (hb : b.length = 16) (S : Nat) (w : World) (hS : w.heap[S]? = some (.cells (bys a).toArray 54 (0, 0))) :
    Calls Tryd.prog 30 #[.agg (bys b).toArray, .pointer (some ⟨S, 0, none⟩)] w fun e w' => (∃ v, e = .returned v) ∧ w'.heap[S]? = some (.cells (bys (xorD a b)).toArray 54 (0, 0)) ∧ But S w w' := by
  have hlt := (Array.getElem?_eq_some_iff.1 hS).1
  have hA : (w.alloc (.cells (bys b).toArray 54)).heap[S]? = some (.cells (bys a).toArray 54 (0, 0)) := (Below.heap_alloc _ _ _ hlt).trans hS
  have HA := Lib.hid hA
  have HBW := Lib.hid (But.below ((Below.refl w.heap.size w).alloc (Nat.le_refl _) (.cells (bys b).toArray 54)) (show S ≤ w.heap.size by omega))
  have HN := Lib.hid (blk_new (w := w) (o := .cells (bys b).toArray 54) rfl)
  clear hS hA
  go_enter Tryd.func30, Tryd.ntmps30
  go_wp2
  go_loopw [3, 4] (fun _ i wr => ∃ k : Nat, k ≤ 16 ∧ i = .int .i64 k ∧ wr.heap[S]? = some (.cells (bys (mixd a b k)).toArray 54 (0, 0)) ∧ wr.heap[w.heap.size]? = some (.cells (bys b).toArray 54 (0, 0)) ∧ But S w wr)
    (fun _ i _ => 16 - (intOf i).toNat)
  case atStart => exact ⟨0, by omega, rfl, by rw [mixd_zero]; exact HA.out, HN.out, HBW.out⟩
  case round =>
    obtain ⟨k, hk, rfl, h1, h2, hB⟩ := hrel
    by_cases hkt : k < 16
    · have c1 : wr.cell? ⟨S, k, none⟩ = some (.int .u8 (a.getD k 0)) := by
        rw [cell_of_row wr _ k _ 54 (0, 0) h1, bys_at _ _ (by rw [mixd_len a b k ha hb]; exact hkt), mixd_at a b k ha hb hkt]
      have c2 : wr.cell? ⟨w.heap.size, k, none⟩ = some (.int .u8 (b.getD k 0)) := by
        rw [cell_of_row wr _ k _ 54 (0, 0) h2, bys_at _ _ (by omega)]
      have f1 : wr.frozen? ⟨S, k, none⟩ = false := frozen_of_row wr _ k _ 54 h1
      have h4 : (wr.setCell ⟨S, k, none⟩ (.int .u8 (xorB (a.getD k 0) (b.getD k 0)))).heap[S]? = some (.cells (bys (mixd a b (k + 1))).toArray 54 (0, 0)) := by
        rw [heap_setCell_same wr _ k _ 54 _ h1, ← mixd_set a b k ha hb hkt]
        simp [bys]
      have h5 : (wr.setCell ⟨S, k, none⟩ (.int .u8 (xorB (a.getD k 0) (b.getD k 0)))).heap[w.heap.size]? = some (.cells (bys b).toArray 54 (0, 0)) := by
        rw [Below.heap_setCell wr _ _ _ (by simp; omega)]; exact h2
      have h7 := hB.set k (.int .u8 (xorB (a.getD k 0) (b.getD k 0)))
      obtain ⟨x, hx⟩ : ∃ x, x = a.getD k 0 := ⟨_, rfl⟩
      obtain ⟨y, hy⟩ : ∃ y, y = b.getD k 0 := ⟨_, rfl⟩
      rw [← hx] at c1 h4 h5 h7
      rw [← hy] at c2 h4 h5 h7
      clear h1 h2 hx hy hB
      have H4 := Lib.hid h4; clear h4
      have H5 := Lib.hid h5; clear h5
      have H7 := Lib.hid h7; clear h7
      go_wp2
      go_region
      all_goals go_wp2
      all_goals go_roundw
      case rel => exact ⟨k + 1, by omega, by go_num, H4.out, H5.out, H7.out.drew⟩
      case measure => simp [intOf]; omega
    · obtain rfl : k = 16 := by omega
      rw [mixd_all a b ha hb] at h1
      have H1 := Lib.hid h1
      clear h1 h2
      go_wp2
      go_end0
      exact ⟨⟨_, rfl⟩, H1.out, hB⟩
def blk (B : List Int) (i : Nat) : List Int := (B.drop (16 * i)).take 16
theorem blk_len {B : List Int} (hB : B.length = 256) {i : Nat} (hi : i < 16) : (blk B i).length = 16 := by simp [blk, hB]; omega
theorem blocks_calls (A : Option Addr) (c : Nat) (w : World) : Calls Tryd.prog 31 #[.slice A 256 c] w fun e w' => e = .returned (.func (.func 42) #[] #[.pointer (some ⟨w.heap.size, 0, none⟩)]) ∧ w' = w.alloc (.cells #[.slice A 256 c] 22) := by
  go_enter Tryd.func31, Tryd.ntmps31
  go_wp2
  go_ret
  exact ⟨rfl, rfl⟩
end Go.Proofs.YtknlbeojdmeljaaDoor.H
namespace Go.Proofs.YtknlbeojdmeljaaDoor.H
open Go.RowKit Go.Proofs.YtknlbeojdmeljaaDoorW.PrintWords Go.Proofs.YtknlbeojdmeljaaDoorW.PrintLast Go.Proofs.YtknlbeojdmeljaaDoorW.PrintMore Go.Proofs.YtknlbeojdmeljaaDoor.P
set_option linter.unusedVariables false
set_option linter.unusedSimpArgs false
theorem run_loadVar_any {P : Program} (w : World) (q : Addr) (ty : TypeId) (cs : List Value) (d : TypeDesc) (hc : ∀ j v, cs[j]? = some v → w.cell? (q.add j) = some v)
    (hu : P.underlying ty = some d) (hd : d.isRow = true) (hi : (P.info? ty).map (·.size) = some cs.length) : (loadVar ty q).run P w = .ok (.agg cs.toArray) w := by
  have hl : (loadCells q cs.length).run P w = .ok cs.toArray w := run_loadCells_list (P := P) w q cs hc
  cases hq : P.info? ty with
  | none => simp [hq] at hi
  | some i =>
    have hs : i.size = cs.length := by simpa [hq] using hi
    have hagg : (isAgg ty).run P w = .ok true w := by
      unfold isAgg
      rw [Sem.run_bind, run_underlying hu w]
      cases d <;> simp_all
    simp [loadVar, Sem.run_bind, hagg, sizeOf, typeInfo, hq, hs, hl]
theorem wpListIn_load_any {F : Fence} {n : Nat} {P : Program} {ops : Array Oper} {rest : List Oper} {op : Oper} {a : Act} {w : World} {Q : Exit → Act → World → Prop} (hgd : op.guard = none) (ty : TypeId) (x : Operand) (ho : op.op = .load ty x)
    (q : Addr) (hx : a.eval x = .pointer (some q)) (cs : List Value) (d : TypeDesc) (hc : ∀ j v, cs[j]? = some v → w.cell? (q.add j) = some v)
    (hu : P.underlying ty = some d) (hd : d.isRow = true) (hi : (P.info? ty).map (·.size) = some cs.length)
    (h : wpListIn F n P ops Q rest (a.put op.dst (.agg cs.toArray)) w) : wpListIn F n P ops Q (op :: rest) a w := by
  refine wpListIn_plain hgd fun K' hK' => ?_
  unfold Oper.wpIn
  refine ⟨by simp [Oper.about, ho], ?_⟩
  rw [Oper.semAt_plain F _ _ (by rw [ho]; intro c hc'; cases hc')]
  unfold execOp
  simp only [ho, hx, Instr.loadAt, Instr.sureAddr, Sem.run_bind, Sem.run_pure, Result.andThen_ok, run_loadVar_any w q ty cs d hc hu hd hi]
  exact hK' _ _ h
theorem add_add (a : Addr) (n m : Nat) : (a.add n).add m = a.add (n + m) := by
  unfold Addr.add
  by_cases h1 : n = 0 <;> by_cases h2 : m = 0 <;> simp [h1, h2] <;> omega
theorem blk_get {B : List Int} (hB : B.length = 256) {k j : Nat} {v : Value} (hk : k < 16) (h : (bys (blk B k))[j]? = some v) : v = .int .u8 (B.getD (k * 16 + j) 0) ∧ k * 16 + j < 256 := by
  have hj : j < 16 := by
    have := (List.getElem?_eq_some_iff.1 h).1
    rwa [bys_len, blk_len hB hk] at this
  have hlt : k * 16 + j < B.length := by omega
  have e : (blk B k)[j]? = some (B.getD (k * 16 + j) 0) := by
    unfold blk
    rw [List.getElem?_take_of_lt hj, List.getElem?_drop, show 16 * k + j = k * 16 + j by omega, List.getElem?_eq_getElem hlt, List.getD_eq_getElem?_getD, List.getElem?_eq_getElem hlt]
    rfl
  unfold bys at h
  rw [List.getElem?_map, e] at h
  exact ⟨(Option.some.inj h).symm, by omega⟩
structure Pg (Bs : Nat) (A : Option Addr) (c : Nat) (B : List Int) (W : World) : Prop where
  cell : W.cell? ⟨Bs, 0, none⟩ = some (.slice A 256 c)
  page : Kd.C (Kd.int .u8) W A 256 B
def encB (B : List Int) (i : Fin 16) : Array Value := #[.int .i64 (i.val : Int), .agg (bys (blk B i.val)).toArray]
def fr (k : Nat) : List (Fin 16) := (List.finRange 16).take k
theorem fr_len {k : Nat} (h : k ≤ 16) : (fr k).length = k := by simp [fr]; omega
theorem fr_succ {k : Nat} (h : k < 16) : fr (k + 1) = fr k ++ [⟨k, h⟩] := by
  unfold fr
  rw [List.take_succ_eq_append_getElem (by simpa using h)]
  simp
set_option maxRecDepth 100000 in
set_option maxHeartbeats 1000000 in
theorem page_in (n l Bs : Nat) (A : Option Addr) (c : Nat) (hc : 256 ≤ c) (B : List Int) (J Jx : List (Fin 16) → World → Prop) (Kp : World → World → Prop) (G : World → Prop) (W : World) (hG : ∀ X, G X → Pg Bs A c B X) (hK : ∀ X Y, Kp X Y → G X → G Y) (hp : G W)
    (hY : ∀ pre x W, J pre W → pre.length < 16 → YieldAt Fence.wide (n - 1) Tryd.prog l (encB B x) W fun e W' =>
      (e = .returned (.bool true) ∧ J (pre ++ [x]) W' ∧ Kp W W') ∨ (e = .returned (.bool false) ∧ Jx (pre ++ [x]) W')) (h0 : J [] W) :
    CallsIn Fence.wide n Tryd.prog 42 #[.func (.yield l) #[] #[], .pointer (some ⟨Bs, 0, none⟩)] W fun e W' => (∃ v, e = .returned v) ∧
      ((∃ ys, ys = fr 16 ∧ J ys W') ∨ (∃ pre, True ∧ Jx pre W')) := by
  have hro : Fence.wide.round = none := rfl
  have HY := Lib.hid hY
  have HK := Lib.hid hK
  have HP := Lib.hid hp
  have HG := Lib.hid hG
  clear hY hK hp hG
  refine callsIn_of_wp Tryd.func42 rfl trivial ?_ hro
  simp only [Tryd.ntmps42, List.size_toArray, List.length_cons, List.length_nil, Nat.reduceAdd, Nat.reduceSub, Array.replicate_succ, Array.replicate_zero, List.push_toArray, List.append_toArray, List.nil_append, List.cons_append]
  gi_wp2
  gi_loopw [3, 4] (fun _ i wr => ∃ k : Nat, k ≤ 16 ∧ i = .int .i64 k ∧ J (fr k) wr ∧ G wr) (fun _ i _ => 16 - (intOf i).toNat)
  case atStart => exact ⟨0, Nat.zero_le _, rfl, h0, HP.out⟩
  case round =>
    obtain ⟨k, hk, rfl, hJ, hg⟩ := hrel
    by_cases hlt : k < 16
    · have hP := HG.out _ hg
      have hcell := hP.cell
      have hB : B.length = 256 := hP.page.1
      obtain ⟨ad, hA, _⟩ := Kd.at_int hP.page 0 (by omega) (by omega)
      subst hA
      obtain ⟨q, hq⟩ : ∃ q : Addr, q = ad.add (k * 16) := ⟨_, rfl⟩
      have hrange : ∀ j v, (bys (blk B k))[j]? = some v → wr.cell? (q.add j) = some v := by
        intro j v hv
        obtain ⟨rfl, hj⟩ := blk_get hB hlt hv
        obtain ⟨ad', e', hc'⟩ := Kd.at_int hP.page ((k * 16 + j : Nat) : Int) (by omega) (by omega)
        cases e'
        rw [Int.toNat_natCast] at hc'
        rw [hq, add_add, hc']
        rfl
      have hsap : ∀ w, (Instr.arrayAt 54 (.slice (some (ad.add (k * 16))) (256 - k * 16) (c - k * 16))).run Tryd.prog w = .ok (.pointer (some q)) w := by
        intro w
        rw [hq]
        simp only [Instr.arrayAt, Sem.run_bind, run_underlying und54, Result.andThen_ok]
        rw [if_neg (by omega)]
        rfl
      have HQ := Lib.hid hq
      have hlen := blk_len hB hlt
      have HLN := Lib.hid (show (Tryd.prog.info? 54).map (·.size) = some (bys (blk B k)).length by rw [size54, bys_len, hlen])
      obtain ⟨E, hE⟩ : ∃ E, E = bys (blk B k) := ⟨_, rfl⟩
      rw [← hE] at hrange HLN
      have HE := Lib.hid hE
      clear hq hlen hE
      have HR := Lib.hid hrange
      have HJ := Lib.hid hJ
      have HPG := Lib.hid hg
      have hb1 : (k : Int) * 16 ≤ 256 := by omega
      have hb0 : 0 ≤ (k : Int) * 16 := by omega
      have HFS := Lib.hid (fr_succ hlt)
      clear hrange hJ hP hg
      obtain ⟨fn, tmps, assign, body, hy, hR⟩ := HY.out _ ⟨k, hlt⟩ wr HJ.out (by rw [fr_len hk]; exact hlt)
      simp only [encB, ← HE.out] at hy
      have HRR := Lib.hid hR
      clear hR
      gi_wp2_with (refine wpListIn_load_any rfl 54 _ rfl q rfl E _ HR.out und54 rfl HLN.out ?_)
      refine ⟨wide_depth, HRR.out.mono ?_⟩
      rintro e W3 (⟨rfl, hJ3, hk3⟩ | ⟨rfl, hJx3⟩)
      · gi_wp2
        go_roundw
        case rel => exact ⟨k + 1, by omega, by go_num, by rw [HFS.out]; exact hJ3, HK.out _ _ hk3 HPG.out⟩
        case measure => simp [intOf]; omega
      · gi_wp2
        refine bodyPost_ret (results_none rfl _ _ _) rfl ?_
        exact ⟨⟨_, rfl⟩, .inr ⟨_, trivial, hJx3⟩⟩
    · obtain rfl : k = 16 := by omega
      gi_wp2
      go_end0
      exact ⟨⟨_, rfl⟩, .inl ⟨_, rfl, hJ⟩⟩
theorem page_stops (n Bs : Nat) (A : Option Addr) (c : Nat) (hc : 256 ≤ c) (B : List Int) (Kp : World → World → Prop) (G : World → Prop) (w : World) (hG : ∀ X, G X → Pg Bs A c B X) (hK : ∀ X Y, Kp X Y → G X → G Y) (hp : ∀ X, Below w.heap.size w X → G X) :
    SeqStopsK Fence.wide n Tryd.prog 42 #[.pointer (some ⟨Bs, 0, none⟩)] (encB B) Kp (fun ys => ys = fr 16) (fun _ => True) 16 w := fun l J Jx W hW hJ _ hY h0 =>
  page_in n l Bs A c hc B J Jx Kp G W hG hK (hp W hW) hY h0
end Go.Proofs.YtknlbeojdmeljaaDoor.H
namespace Go.Proofs.YtknlbeojdmeljaaDoor.H
open Go.RowKit Go.Proofs.YtknlbeojdmeljaaDoorW.PrintWords Go.Proofs.YtknlbeojdmeljaaDoorW.PrintLast Go.Proofs.YtknlbeojdmeljaaDoorW.PrintMore Go.Proofs.YtknlbeojdmeljaaDoor.P
set_option linter.unusedVariables false
set_option linter.unusedSimpArgs false
/-- one round of the encoding: the sum and what is left of the set -/
def stepE (B : List Int) (x : List Int × Nat) (i : Nat) : List Int × Nat := if Lib.ctz 64 x.2 = i then (xorD x.1 (blk B i), x.2 &&& (x.2 - 1)) else x
def foldE (B : List Int) (m : Nat) (l : List (Fin 16)) : List Int × Nat := l.foldl (fun x i => stepE B x i.val) (List.replicate 16 0, m)
def goodE (n p s : Int) : Prop := n = 256 ∧ (0 ≤ p ∧ p < 16) ∧ 0 ≤ s ∧ s ≤ 1000000000
instance (n p s : Int) : Decidable (goodE n p s) := by unfold goodE; infer_instance
theorem foldE_snoc (B : List Int) (m : Nat) (l : List (Fin 16)) (i : Fin 16) : foldE B m (l ++ [i]) = stepE B (foldE B m l) i.val := by simp [foldE]
theorem stepE_ok {B : List Int} (hB : B.length = 256) {x : List Int × Nat} {i : Nat} (hi : i < 16) (h : x.1.length = 16 ∧ x.2 < 65536) : (stepE B x i).1.length = 16 ∧ (stepE B x i).2 < 65536 := by
  unfold stepE
  split
  · refine ⟨?_, Nat.lt_of_le_of_lt Nat.and_le_left h.2⟩
    simp [xorD, h.1, blk_len hB hi]
  · exact h
theorem foldE_ok {B : List Int} (hB : B.length = 256) {m : Nat} (hm : m < 65536) (l : List (Fin 16)) : (foldE B m l).1.length = 16 ∧ (foldE B m l).2 < 65536 := by
  unfold foldE
  have : ∀ (l : List (Fin 16)) (x : List Int × Nat), x.1.length = 16 ∧ x.2 < 65536 → (l.foldl (fun x i => stepE B x i.val) x).1.length = 16 ∧ (l.foldl (fun x i => stepE B x i.val) x).2 < 65536 := by
    intro l
    induction l with
    | nil => exact fun x h => h
    | cons a l ih => exact fun x h => ih _ (stepE_ok hB a.2 h)
  exact this l _ ⟨by simp, hm⟩
theorem size26 : (Tryd.prog.info? 26).map (·.size) = some 4 := by kernel_rfl
set_option maxRecDepth 100000 in
set_option maxHeartbeats 1000000 in
theorem encode_bad (A : Option Addr) (n c : Nat) (p s : Int) (w : World) (hg : ¬ goodE n p s) :
    Calls Tryd.prog 12 #[.slice A n c, .int .i64 p, .int .i64 s] w fun e w' => Below w.heap.size w w' ∧ e = .returned (.tuple #[.agg #[.int .i64 0, .int .i64 0, .slice none 0 0, .slice none 0 0], .int .i64 1]) := by
  refine (callsIn_wide (n := 3)).1 (callsIn_of_wp_marks Tryd.func12 rfl trivial (wpIn_wide.2 ?_) rfl)
  simp only [Tryd.ntmps12, List.size_toArray, List.length_cons, List.length_nil, Nat.reduceAdd, Nat.reduceSub, Array.replicate_succ, Array.replicate_zero, List.push_toArray, List.append_toArray, List.nil_append, List.cons_append]
  have hu26 := Tryd.underlying26
  have hb0 : Below w.heap.size w (w.alloc (.cells #[.int .i64 0, .int .i64 0, .slice none 0 0, .slice none 0 0] 26)) := (Below.refl _ _).alloc (Nat.le_refl _) _
  have hn0 : (w.alloc (.cells #[.int .i64 0, .int .i64 0, .slice none 0 0, .slice none 0 0] 26)).heap[w.heap.size]? = some (.cells #[.int .i64 0, .int .i64 0, .slice none 0 0, .slice none 0 0] 26 (0, 0)) := blk_new rfl
  have HB0 := Lib.hid hb0
  have HN0 := Lib.hid hn0
  clear hb0 hn0
  have hone : ∀ v ∈ [Value.int .i64 0, .int .i64 0, .slice none 0 0, .slice none 0 0], v.oneCell' = true := by decide
  by_cases hn : n = 256
  · subst hn
    by_cases hp : 0 ≤ p ∧ p < 16
    · have hs : decide (0 ≤ s ∧ s ≤ 1000000000) = false := decide_eq_false (fun h => hg ⟨rfl, hp, h⟩)
      have hp' : decide (0 ≤ p ∧ p < 16) = true := by simpa using hp
      have HP := Lib.hid hp'
      have HS := Lib.hid hs
      clear hg hp hp' hs
      go_wp2_with (first
        | (go_at_call 28; refine (ispage_calls _ _).mono ?_; rw [HP.out]; rintro e w1 ⟨rfl, hb1⟩; have HB1 := Lib.hid (HB0.out.trans (hb1.mono HB0.out.size)); have HN1 := Lib.hid ((hb1.block _ (by simp)).trans HN0.out); clear hb1)
        | (go_at_call 29; refine (isseed_calls _ _).mono ?_; rw [HS.out]; rintro e w2 ⟨rfl, hb2⟩; have HB2 := Lib.hid (HB1.out.trans (hb2.mono HB1.out.size)); have HN2 := Lib.hid ((hb2.block _ (Array.getElem?_eq_some_iff.1 HN1.out).1).trans HN1.out); clear hb2)
        | (refine wpList_store_row rfl 26 _ _ rfl _ [.int .i64 0, .int .i64 0, .slice none 0 0, .slice none 0 0] _ 26 rfl rfl HN2.out rfl size26 hone ?_; intro w3 g1 g2 g3 g4; have HB3 := Lib.hid (g4 _ _ (Nat.le_refl _) HB2.out); have HN3 := Lib.hid g1; clear g1 g2 g3 g4))
      exact ⟨_, results_ct rfl _ _ w.heap.size 26 _ (0, 0) _ rfl HN3.out hu26 rfl size26, HB3.out, rfl⟩
    · have hp' : decide (0 ≤ p ∧ p < 16) = false := decide_eq_false hp
      have HP := Lib.hid hp'
      clear hg hp hp'
      go_wp2_with (first
        | (go_at_call 28; refine (ispage_calls _ _).mono ?_; rw [HP.out]; rintro e w1 ⟨rfl, hb1⟩; have HB1 := Lib.hid (HB0.out.trans (hb1.mono HB0.out.size)); have HN1 := Lib.hid ((hb1.block _ (by simp)).trans HN0.out); clear hb1)
        | (refine wpList_store_row rfl 26 _ _ rfl _ [.int .i64 0, .int .i64 0, .slice none 0 0, .slice none 0 0] _ 26 rfl rfl HN1.out rfl size26 hone ?_; intro w3 g1 g2 g3 g4; have HB3 := Lib.hid (g4 _ _ (Nat.le_refl _) HB1.out); have HN3 := Lib.hid g1; clear g1 g2 g3 g4))
      exact ⟨_, results_ct rfl _ _ w.heap.size 26 _ (0, 0) _ rfl HN3.out hu26 rfl size26, HB3.out, rfl⟩
  · have e1 : ((n : Int) == 256) = false := by simp; omega
    clear hg
    go_wp2_with (first
        | (refine wpList_store_row rfl 26 _ _ rfl _ [.int .i64 0, .int .i64 0, .slice none 0 0, .slice none 0 0] _ 26 rfl rfl HN0.out rfl size26 hone ?_; intro w3 g1 g2 g3 g4; have HB3 := Lib.hid (g4 _ _ (Nat.le_refl _) HB0.out); have HN3 := Lib.hid g1; clear g1 g2 g3 g4))
    exact ⟨_, results_ct rfl _ _ w.heap.size 26 _ (0, 0) _ rfl HN3.out hu26 rfl size26, HB3.out, rfl⟩
end Go.Proofs.YtknlbeojdmeljaaDoor.H
namespace Go.Proofs.YtknlbeojdmeljaaDoor.H
open Go.RowKit Go.Proofs.YtknlbeojdmeljaaDoorW.PrintWords Go.Proofs.YtknlbeojdmeljaaDoorW.PrintLast Go.Proofs.YtknlbeojdmeljaaDoorW.PrintMore Go.Proofs.YtknlbeojdmeljaaDoor.P
set_option linter.unusedVariables false
set_option linter.unusedSimpArgs false
def KE (base k : Nat) (X Y : World) : Prop := Below base X Y ∧ Y.heap[k]? = X.heap[k]?
theorem KE.trans {base k : Nat} {A B C : World} (h : KE base k A B) (g : KE base k B C) : KE base k A C := ⟨h.1.trans g.1, g.2.trans h.2⟩
theorem u64_low (y : Nat) (h1 : 1 ≤ y) (h2 : y < 65536) : Go.bits .and .u64 (y : Int) (IntKind.u64.wrap ((y : Int) - 1)) = ((y &&& (y - 1) : Nat) : Int) := by
  have hw : IntKind.u64.wrap ((y : Int) - 1) = ((y - 1 : Nat) : Int) := by rw [IntKind.wrap_u64]; omega
  rw [hw]
  have e1 : (BitVec.ofInt 64 (y : Int)).toNat = y := by rw [BitVec.ofInt_natCast, BitVec.toNat_ofNat]; exact Nat.mod_eq_of_lt (by omega)
  have e2 : (BitVec.ofInt 64 ((y - 1 : Nat) : Int)).toNat = y - 1 := by rw [BitVec.ofInt_natCast, BitVec.toNat_ofNat]; exact Nat.mod_eq_of_lt (by omega)
  have hx : y &&& (y - 1) ≤ y := Nat.and_le_left
  show IntKind.u64.wrap ((BitVec.ofInt 64 (y : Int) &&& BitVec.ofInt 64 ((y - 1 : Nat) : Int)).toNat : Int) = _
  rw [BitVec.toNat_and, e1, e2, IntKind.wrap_u64]
  omega
theorem run_store_func' {P : Program} {w : World} {a : Addr} {m : Mode} (f : Fn) (x y : Array Value) : (store a (.func f x y) m).run P w = stored P w a (.func f x y) m := run_store P w a _ m rfl
attribute [local go_sem] run_store_func'
set_option maxRecDepth 100000 in
set_option maxHeartbeats 1000000 in
theorem encode_good (A : Option Addr) (c : Nat) (B : List Int) (p s : Int) (w : World) (hc : 256 ≤ c) (hr : Kd.C (Kd.int .u8) w A 256 B) (ht : Tabs w) (hp : 0 ≤ p ∧ p < 16) (hs : 0 ≤ s ∧ s ≤ 1000000000) :
    Calls Tryd.prog 12 #[.slice A 256 c, .int .i64 p, .int .i64 s] w fun e w' => ∃ v, e = .returned (.tuple #[.agg #[.int .i64 p, .int .i64 s, v, .slice none 0 0], .int .i64 0]) ∧ Kd.R (Kd.int .u8) 5 w' w.heap.size (fun _ => True) v (foldE B (setS s).toNat (fr 16)).1 ∧ Below w.heap.size w w' := by
  refine (callsIn_wide (n := 3)).1 (callsIn_of_wp_marks Tryd.func12 rfl trivial (wpIn_wide.2 ?_) rfl)
  simp only [Tryd.ntmps12, List.size_toArray, List.length_cons, List.length_nil, Nat.reduceAdd, Nat.reduceSub, Array.replicate_succ, Array.replicate_zero, List.push_toArray, List.append_toArray, List.nil_append, List.cons_append]
  have HR := Lib.hid hr
  have HT := Lib.hid ht
  have hsr := setS_range s hs.1 hs.2
  obtain ⟨m, hm⟩ : ∃ m : Nat, setS s = (m : Int) := ⟨(setS s).toNat, by omega⟩
  have hm1 : 1 ≤ m ∧ m < 65536 := by omega
  have HM := Lib.hid hm
  have HM1 := Lib.hid hm1
  have hp' : decide (0 ≤ p ∧ p < 16) = true := by simpa using hp
  have HP := Lib.hid hp'
  have hs' : decide (0 ≤ s ∧ s ≤ 1000000000) = true := by simpa using hs
  have HS := Lib.hid hs'
  have hu26 := Tryd.underlying26
  have hu54 := und54
  have hBl : B.length = 256 := hr.1
  have HBL := Lib.hid hBl
  have hcv : IntKind.u64.wrap (m : Int) = (m : Int) := by rw [IntKind.wrap_u64]; omega
  have HCV := Lib.hid hcv
  have hb0 : Below w.heap.size w (w.alloc (.cells #[.int .i64 0, .int .i64 0, .slice none 0 0, .slice none 0 0] 26)) := (Below.refl _ _).alloc (Nat.le_refl _) _
  have hn0 : (w.alloc (.cells #[.int .i64 0, .int .i64 0, .slice none 0 0, .slice none 0 0] 26)).heap[w.heap.size]? = some (.cells #[.int .i64 0, .int .i64 0, .slice none 0 0, .slice none 0 0] 26 (0, 0)) := blk_new rfl
  have HB0 := Lib.hid hb0
  have HN0 := Lib.hid hn0
  clear hb0 hn0 hr ht hsr hm hm1 hp' hs' hp hs hcv hBl
  have hmf : ∀ (fn : Fn) (first cap : Array Value) (w : World), (Instr.makeFunc fn first cap).run Tryd.prog w = .ok (.func fn first cap) w := fun _ _ _ _ => rfl
  go_wp2_with (first
    | (go_at_call 28; refine (ispage_calls _ _).mono ?_; rw [HP.out]; rintro e w1 ⟨rfl, hb1⟩; have HB1 := Lib.hid (HB0.out.trans (hb1.mono HB0.out.size)); have HN1 := Lib.hid ((hb1.block _ (by simp)).trans HN0.out); clear hb1)
    | (go_at_call 29; refine (isseed_calls _ _).mono ?_; rw [HS.out]; rintro e w2 ⟨rfl, hb2⟩; have HB2 := Lib.hid (HB1.out.trans (hb2.mono HB1.out.size)); have HN2 := Lib.hid ((hb2.block _ (Array.getElem?_eq_some_iff.1 HN1.out).1).trans HN1.out); clear hb2)
    | (go_at_call 18; have hsz := HB2.out.size; have hB2 := (HB2.out.alloc hsz (.cells #[.int .u8 0, .int .u8 0, .int .u8 0, .int .u8 0, .int .u8 0, .int .u8 0, .int .u8 0, .int .u8 0, .int .u8 0, .int .u8 0, .int .u8 0, .int .u8 0, .int .u8 0, .int .u8 0, .int .u8 0, .int .u8 0] 54)).alloc (by simp; omega) (.cells #[.func (.func 30) #[] #[.pointer (some ⟨w2.heap.size, 0, none⟩)]] 55); refine (set_calls s _ (HT.out.keep hB2)).mono ?_; rw [HM.out]; rintro e w3 ⟨rfl, hb3⟩; have HB3 := Lib.hid (hB2.trans (hb3.mono hB2.size)); have HZ3 := Lib.hid hb3.size; have HN3 := Lib.hid ((hb3.block _ (by simp; omega)).trans (((Below.heap_alloc _ _ _ (by simp; omega)).trans (Below.heap_alloc _ _ _ (Array.getElem?_eq_some_iff.1 HN2.out).1)).trans HN2.out)); have HS3 := Lib.hid ((hb3.block w2.heap.size (by simp; omega)).trans ((Below.heap_alloc _ _ _ (by simp)).trans (blk_new rfl))); have HF3 := Lib.hid ((hb3.block (w2.heap.size + 1) (by simp)).trans (blk_new (by simp))); clear hb3 hB2 hsz)
    | (go_at_call 31; refine (blocks_calls _ _ _).mono ?_; rintro e w4 ⟨rfl, rfl⟩))
  rw [HCV.out]
  have hz2 := HB2.out.size
  have hz3 := HZ3.out
  have hlt2 := (Array.getElem?_eq_some_iff.1 HN2.out).1
  simp only [World.size_alloc] at hz3
  have hB0 : Below w.heap.size w ((w3.alloc (.cells #[.int .u64 (m : Int)] 56)).alloc (.cells #[.slice A 256 c] 22)) := (HB3.out.alloc HB3.out.size _).alloc (by simp; omega) _
  have hmv : ∀ k, k < w3.heap.size → ((w3.alloc (.cells #[.int .u64 (m : Int)] 56)).alloc (.cells #[.slice A 256 c] 22)).heap[k]? = w3.heap[k]? := fun k hk => (Below.heap_alloc _ _ _ (by simp; omega)).trans (Below.heap_alloc _ _ _ hk)
  have bS := (hmv w2.heap.size (by omega)).trans HS3.out
  have bF := (hmv (w2.heap.size + 1) (by omega)).trans HF3.out
  have bN := (hmv w.heap.size (by omega)).trans HN3.out
  have bT : ((w3.alloc (.cells #[.int .u64 (m : Int)] 56)).alloc (.cells #[.slice A 256 c] 22)).heap[w3.heap.size]? = some (.cells #[.int .u64 (m : Int)] 56 (0, 0)) := (Below.heap_alloc _ _ _ (by simp)).trans (blk_new rfl)
  have bB : ((w3.alloc (.cells #[.int .u64 (m : Int)] 56)).alloc (.cells #[.slice A 256 c] 22)).heap[w3.heap.size + 1]? = some (.cells #[.slice A 256 c] 22 (0, 0)) := blk_new (by simp)
  have sz0 : ((w3.alloc (.cells #[.int .u64 (m : Int)] 56)).alloc (.cells #[.slice A 256 c] 22)).heap.size = w3.heap.size + 1 + 1 := by simp
  generalize (w3.alloc (.cells #[.int .u64 (m : Int)] 56)).alloc (.cells #[.slice A 256 c] 22) = W0 at *
  clear hmv HS3 HF3 HN3 HZ3 HB3 HN2 HB2 HN1 HB1 HN0 HB0
  generalize w2.heap.size = g2 at *
  generalize w3.heap.size = T at *
  generalize hG0 : w.heap.size = g0 at *
  refine (wpIn_wide (n := 3)).1 (wpIn_rangeFunc_ownH (F := Fence.wide) (n := 3) rfl (by omega) (gf := 42) (lb := #[.pointer (some ⟨T + 1, 0, none⟩)]) rfl trivial (enters_of Tryd.func42 (by kernel_rfl) rfl)
    (page_stops (3 - 1) (T + 1) A c hc B (KE g0 (T + 1)) (fun X => X.heap[T + 1]? = some (.cells #[.slice A 256 c] 22 (0, 0)) ∧ Below g0 w X) W0
      (fun X h => ⟨(cell_of_row X _ 0 _ 22 (0, 0) h.1).trans rfl, Kd.C_below HR.out (by rw [hG0]; exact h.2)⟩)
      (fun X Y hk h => ⟨hk.2.trans h.1, h.2.trans hk.1⟩)
      (fun X hX => ⟨(hX.block _ (by omega)).trans bB, hB0.trans (hX.mono (by omega))⟩))
    KE.trans (fun W l o o' hl ho hc hw => ⟨belowK_b (by omega) W l o o' hl ho hc hw, (grownBy_putObj' W l o').block (T + 1) (by have := (Array.getElem?_eq_some_iff.1 ho).1; omega) (fun e => by cases e; omega)⟩) (Below.refl _ _) (fun _ => rfl)
    (fun (pre : List (Fin 16)) W => W.heap[g2]? = some (.cells (bys (foldE B m pre).1).toArray 54 (0, 0)) ∧ W.heap[T]? = some (.cells #[.int .u64 ((foldE B m pre).2 : Int)] 56 (0, 0)) ∧ W.heap[g2 + 1]? = some (.cells #[.func (.func 30) #[] #[.pointer (some ⟨g2, 0, none⟩)]] 55 (0, 0)) ∧ W.heap[g0]? = some (.cells #[.int .i64 0, .int .i64 0, .slice none 0 0, .slice none 0 0] 26 (0, 0)) ∧ Below g0 w W ∧ W0.heap.size ≤ W.heap.size)
    (fun _ _ _ => False)
    (fun s X Y row hs hg hr => by
      obtain ⟨h0, h1, h2, h3, h4, h5⟩ := hs
      exact ⟨keep_block h0 hg hr, keep_block h1 hg hr, keep_block h2 hg hr, keep_block h3 hg hr, h4.grown hg (by have := h4.size; omega) (fun k e => by have := (hr k e).1; omega), Nat.le_trans h5 hg.size⟩)
    (fun c s X Y row hs hg hr => hs.elim)
    ⟨bS, bT, bF, bN, hB0, Nat.le_refl _⟩
    (fun x a' Z => ∃ Bx, W0.heap.size ≤ Bx ∧ Z.heap[Bx]? = some (.cells (bys (blk B x.val)).toArray 54 (0, 0)) ∧ a' = { tmps := #[.slice A 256 c, .int .i64 p, .int .i64 s, undef, undef, undef, .pointer (some ⟨g0, 0, none⟩), .int .i64 0, .pointer (some ⟨g2, 0, none⟩), .pointer (some ⟨g2 + 1, 0, none⟩), .pointer (some ⟨T, 0, none⟩), .int .i64 (x.val : Int), .pointer (some ⟨Bx, 0, none⟩), .slice A 256 c, .int .i64 256, .bool false, .bool false, .int .i64 p, .bool true, .bool false, .bool false, .bool false, .int .i64 s, .bool true, .bool false, .bool false, undef, .func (.func 30) #[] #[.pointer (some ⟨g2, 0, none⟩)], .int .i64 s, .int .i64 (m : Int), .int .u64 (m : Int), .slice A 256 c, .func (.func 42) #[] #[.pointer (some ⟨T + 1, 0, none⟩)], .int .i64 (x.val : Int), .agg (bys (blk B x.val)).toArray, undef, undef, undef, undef, undef, undef, undef, undef, undef, undef, undef, undef, undef, undef, undef, undef], defers := [] })
    (fun x a' s X Y row hs hg hr => by obtain ⟨Bx, h1, h2, h3⟩ := hs; exact ⟨Bx, h1, keep_block h2 hg hr, h3⟩)
    ?assign ?body ?done ?stop)
  case assign =>
    intro l pre x U K hI hK
    simp only [encB, List.zip_toArray, List.zip_cons_cons, List.zip_nil_right, List.foldl_toArray, List.foldl_cons, List.foldl_nil, List.setIfInBounds_toArray, List.set_cons_zero, List.set_cons_succ]
    have hl16 : (bys (blk B x.val)).length = 16 := by rw [bys_len]; exact blk_len HBL.out x.2
    have H16 := Lib.hid hl16
    have hone16 : ∀ v ∈ bys (blk B x.val), v.oneCell' = true := bys_one _
    have HK2 := Lib.hid hK
    have HI := Lib.hid hI
    clear hl16 hK hI bS bT bF bN bB
    refine wpIn_seq_k (fun K1 hK1 => ?_)
    refine plain_in (by rfl) (fun ⟨_, _, h⟩ => h) ?_
    go_wp2
    refine plain_in (by rfl) (fun ⟨_, _, h⟩ => h) ?_
    go_wp2_with (first | (refine wpList_store_row rfl 54 _ _ rfl U.heap.size (bys (blk B x.val)) _ 54 rfl rfl (blk_new rfl) (by rw [H16.out]; rfl) (by rw [H16.out]; exact size54) hone16 ?_; intro w1 g1 g2' g3 g4))
    obtain ⟨i0, i1, i2, i3, i4, i5⟩ := HI.out
    have hB1 : Below g0 U w1 := g4 _ _ (by omega) ((Below.refl _ _).alloc (by omega) _)
    have hn : ∀ k, k < U.heap.size → w1.heap[k]? = U.heap[k]? := fun k hk => (g2' k (by omega)).trans (Below.heap_alloc _ _ _ hk)
    exact HK2.out _ _ ((keeps_of_below ((Below.refl _ U).alloc (Nat.le_refl _) _) _).trans (keeps_of_cells (blk_new rfl) g2' g3 _)) ⟨hB1, hn _ (by omega)⟩
      ⟨(hn _ (by omega)).trans i0, (hn _ (by omega)).trans i1, (hn _ (by omega)).trans i2, (hn _ (by omega)).trans i3, i4.trans hB1, by rw [g3]; simp; omega⟩ ⟨U.heap.size, i5, g1, rfl⟩
  case body =>
    rintro l pre x a' U hl hrec ⟨i0, i1, i2, i3, i4, i5⟩ ⟨Bx, hBx, hx, rfl⟩ hlen
    have hok := foldE_ok HBL.out HM1.out.2 pre
    obtain ⟨a, ha⟩ : ∃ a, a = (foldE B m pre).1 := ⟨_, rfl⟩
    obtain ⟨y, hy⟩ : ∃ y, y = (foldE B m pre).2 := ⟨_, rfl⟩
    have hstep : foldE B m (pre ++ [x]) = stepE B (a, y) x.val := by rw [foldE_snoc, ha, hy]
    rw [← ha, ← hy] at hok
    rw [← ha] at i0
    rw [← hy] at i1
    have hbl := blk_len HBL.out x.2
    obtain ⟨b, hb⟩ : ∃ b, b = blk B x.val := ⟨_, rfl⟩
    rw [← hb] at hx hbl
    have hstep2 : stepE B (a, y) x.val = if Lib.ctz 64 y = x.val then (xorD a b, y &&& (y - 1)) else (a, y) := by rw [hb]; rfl
    rw [hstep2] at hstep
    simp only [← hb]
    have hy64 : y < 18446744073709551616 := by omega
    obtain ⟨z, hz⟩ : ∃ z, z = Lib.ctz 64 y := ⟨_, rfl⟩
    have htz := tzu_calls y hy64 U (HT.out.keep (by rw [hG0]; exact i4))
    rw [← hz] at htz hstep
    obtain ⟨xv, hxv⟩ : ∃ xv, xv = x.val := ⟨_, rfl⟩
    rw [← hxv] at hstep
    simp only [← hxv]
    have hx16 : xv < 16 := by rw [hxv]; exact x.2
    have hi16 : (Tryd.prog.info? 54).map (·.size) = some (bys b).length := by rw [bys_len, hbl]; exact size54
    have hrg : U.rangeAt Bx 0 (bys b) := by
      intro j v hv
      rw [Nat.zero_add, cell_of_row U _ j _ 54 (0, 0) hx]
      simpa using hv
    have cT : U.cell? ⟨T, 0, none⟩ = some (.int .u64 (y : Int)) := (cell_of_row U _ 0 _ 56 (0, 0) i1).trans rfl
    have cF : U.cell? ⟨g2 + 1, 0, none⟩ = some (.func (.func 30) #[] #[.pointer (some ⟨g2, 0, none⟩)]) := (cell_of_row U _ 0 _ 55 (0, 0) i2).trans rfl
    have HTZ := Lib.hid htz
    have HOK := Lib.hid hok
    have HST := Lib.hid hstep
    have HBN := Lib.hid hbl
    have HI16 := Lib.hid hi16
    have HRG := Lib.hid hrg
    have I0 := Lib.hid i0
    have I1 := Lib.hid i1
    have I2 := Lib.hid i2
    have I3 := Lib.hid i3
    have I4 := Lib.hid i4
    have HYZ := Lib.hid hz
    clear htz hok hstep hstep2 hbl hi16 hrg i0 i1 i2 i3 i4 hz ha hy hb hxv hx hlen bS bT bF bN bB hy64
    refine wpIn_block ?_
    refine wpIn_seq_k (fun K1 hK1 => ?_)
    refine plain_in (by rfl) (fun ⟨_, _, h⟩ => h) ?_
    go_wp2_with (first
      | (go_at_call 32; refine HTZ.out.mono ?_; rintro e w5 ⟨rfl, rfl⟩))
    by_cases he : z = xv
    · refine wpIn_cond_true (by show Value.bool _ = _; rw [he]; simp) ?_
      have hy1 : 1 ≤ y := by
        have h0 := HYZ.out
        by_cases h1 : y = 0
        · rw [h1] at h0
          have : Lib.ctz 64 0 = 64 := by decide
          omega
        · omega
      refine wpIn_seq_k (fun K3 hK3 => ?_)
      refine plain_in (by rfl) (fun ⟨_, _, h⟩ => h) ?_
      go_wp2_with (first
        | (refine wpList_load_mid rfl 54 _ rfl Bx 0 rfl (bys b) _ HRG.out und54 rfl HI16.out ?_)
        | (go_at_call 30; refine (addc_calls a b HOK.out.1 HBN.out g2 _ I0.out).mono ?_; rintro e w6 ⟨⟨v6, rfl⟩, hs6, hb6⟩; have S6 := Lib.hid hs6; have HB6 := Lib.hid hb6; have cT6 := (cell_of_row w6 T 0 _ 56 (0, 0) ((hb6.1 T (by omega) (by omega)).trans I1.out)).trans (show _ = some (Value.int .u64 (y : Int)) from rfl); have f6 := frozen_of_row w6 T 0 _ 56 ((hb6.1 T (by omega) (by omega)).trans I1.out); clear hs6 hb6))
      refine plain_in (by rfl) (fun ⟨_, _, h⟩ => h) ?_
      go_wp2
      have hv := u64_low y hy1 (show y < 65536 from HOK.out.2)
      rw [hv]
      have hs := HST.out
      rw [if_pos he] at hs
      have hTU := (Array.getElem?_eq_some_iff.1 I1.out).1
      have hmv : ∀ k, k < w5.heap.size → k ≠ g2 → k ≠ T → (w6.setCell ⟨T, 0, none⟩ (.int .u64 ((y &&& (y - 1) : Nat) : Int))).heap[k]? = w5.heap[k]? := fun k h1 h2 h3 => (Below.heap_setCell w6 ⟨T, 0, none⟩ _ k h3).trans (HB6.out.1 k h1 h2)
      have hb : Below g0 w5 (w6.setCell ⟨T, 0, none⟩ (.int .u64 ((y &&& (y - 1) : Nat) : Int))) := (HB6.out.2.mono (by omega)).setCell (p := ⟨T, 0, none⟩) (by simp; omega) _
      refine ⟨⟨hb.size, fun k o hk ho hc => ?_⟩, ⟨hb, hmv _ (by omega) (by omega) (by omega)⟩, ?_⟩
      · exact (hmv k (Array.getElem?_eq_some_iff.1 ho).1 (by omega) (by omega)).trans ho
      dsimp only
      rw [hs]
      refine ⟨(Below.heap_setCell w6 ⟨T, 0, none⟩ _ g2 (by simp; omega)).trans S6.out, ?_, (hmv _ (by omega) (by omega) (by omega)).trans I2.out, (hmv _ (by omega) (by omega) (by omega)).trans I3.out, I4.out.trans hb, by have := hb.size; omega⟩
      rw [heap_setCell_same w6 _ 0 _ 56 _ ((HB6.out.1 T hTU (by omega)).trans I1.out)]
      rfl
    · refine wpIn_cond_false (by show Value.bool _ = _; congr 1; simp; omega) (wpIn_skip ?_)
      have hs := HST.out
      rw [if_neg he] at hs
      refine ⟨(keeps_of_below (Below.refl _ _) _), ⟨Below.refl _ _, rfl⟩, ?_⟩
      dsimp only
      rw [hs]
      exact ⟨I0.out, I1.out, I2.out, I3.out, I4.out, i5⟩
  case done =>
    rintro D xs U hD hxs ⟨h1, h2, h3, h4, h5, h6⟩ hKm
    rw [hxs] at h1
    have hfl := (foldE_ok HBL.out HM1.out.2 (fr 16)).1
    have hmt : (setS s).toNat = m := by rw [HM.out]; rfl
    have HMT := Lib.hid hmt
    obtain ⟨E, hE⟩ : ∃ E, E = (foldE B m (fr 16)).1 := ⟨_, rfl⟩
    rw [← hE] at h1 hfl
    have HE := Lib.hid hE
    have H1 := Lib.hid h1
    have H4 := Lib.hid h4
    have H5 := Lib.hid h5
    have HFL := Lib.hid hfl
    have HKm := Lib.hid hKm
    have hsz := h5.size
    clear h1 h2 h3 h4 hfl hKm hxs hE hmt bS bT bF bN bB
    go_wp2_with (first
      | (go_at_call 33; refine (clone_calls g2 E HFL.out 54 _ H1.out).mono ?_; rintro e w5 ⟨v, rfl, hv, hb5⟩; obtain ⟨A', c', rfl⟩ := Kd.R_slice hv; have H45 := Lib.hid ((hb5.block g0 (Array.getElem?_eq_some_iff.1 H4.out).1).trans H4.out); have HV := Lib.hid hv; have HB5 := Lib.hid hb5; clear hv hb5)
      | (refine wpList_store_row rfl 26 _ _ rfl g0 [.int .i64 p, .int .i64 s, .slice A' E.length c', .slice none 0 0] _ 26 rfl rfl H45.out rfl size26 (by simp [Value.oneCell']) ?_; intro w6 g1 g2' g3 g4; have G1 := Lib.hid g1; have G2 := Lib.hid g2'; have G3 := Lib.hid g3; have G4 := Lib.hid g4; clear g1 g2' g3 g4))
    have hDU := (Array.getElem?_eq_some_iff.1 HKm.out).1
    have hgU := (Array.getElem?_eq_some_iff.1 H4.out).1
    have hD6 : w6.heap[D]? = some (.deferred (some [])) := (G2.out D (by omega)).trans ((HB5.out.block D hDU).trans HKm.out)
    have hbk := belowK_b (w := w) (Nat.le_refl _) w6 D _ (.deferred none) (by omega) hD6 rfl rfl
    refine ⟨by simp, .inl ⟨_, _, rfl, run_takeDeferred hD6, ?_⟩⟩
    refine ⟨_, results_ct rfl _ _ g0 26 _ (0, 0) _ rfl ((World.putObj_heap_other (by omega)).trans G1.out) hu26 rfl size26, ?_⟩
    rw [HMT.out, ← HE.out, hG0]
    refine ⟨_, rfl, ?_, (G4.out g0 w (Nat.le_refl _) (H5.out.trans (HB5.out.mono (by omega)))).trans (by rw [← hG0]; exact hbk)⟩
    refine Kd.R_mono (Kd.R_lower (Kd.R_step (Kd.R_bound HV.out) (fun k hk _ => ?_)) (by omega)) (fun _ _ => trivial)
    obtain ⟨_, hk1, hk2, _⟩ := hk
    exact (World.putObj_heap_other (by omega)).trans (G2.out k (by omega))
  case stop => exact fun D c pre W hD hS hI _ => hI.elim
end Go.Proofs.YtknlbeojdmeljaaDoor.H
namespace Go.Proofs.YtknlbeojdmeljaaDoor.H
open Go.RowKit Go.Proofs.YtknlbeojdmeljaaDoorW.PrintWords Go.Proofs.YtknlbeojdmeljaaDoorW.PrintLast Go.Proofs.YtknlbeojdmeljaaDoorW.PrintMore Go.Proofs.YtknlbeojdmeljaaDoor.P
set_option linter.unusedVariables false
set_option linter.unusedSimpArgs false
def goodR (p s n : Int) : Prop := (0 ≤ p ∧ p < 16) ∧ (0 ≤ s ∧ s ≤ 1000000000) ∧ n = 16
instance (n p s : Int) : Decidable (goodR n p s) := by unfold goodR; infer_instance
set_option maxRecDepth 100000 in
set_option maxHeartbeats 1000000 in
theorem receive_good (A : Option Addr) (cap : Nat) (zs : List S25) (p s : Int) (A1 : Option Addr) (c1 : Nat) (ds : List Int) (pr : Value) (w : World) (hr : Kd.C k25 w A zs.length zs) (hx : Kd.C (Kd.int .u8) w A1 ds.length ds) (hlen : zs.length ≤ 1000000) (ht : Tabs w) (hg : goodR p s ds.length) :
    Calls Tryd.prog 14 #[.slice A zs.length cap, .agg #[.int .i64 p, .int .i64 s, .slice A1 ds.length c1, pr]] w fun e w' => ∃ v, e = .returned (.tuple #[v, .bool (addS zs (setS s) ds).2.1, .int .i64 (addS zs (setS s) ds).2.2]) ∧ Kd.S k25 52 w' w.heap.size (fun _ => True) v (addS zs (setS s) ds).1 ∧ Below w.heap.size w w' := by
  have hb0 : Below w.heap.size w (w.alloc (.cells #[.int .i64 p, .int .i64 s, .slice A1 ds.length c1, pr] 26)) := (Below.refl _ _).alloc (Nat.le_refl _) _
  have hn0 : (w.alloc (.cells #[.int .i64 p, .int .i64 s, .slice A1 ds.length c1, pr] 26)).heap[w.heap.size]? = some (.cells #[.int .i64 p, .int .i64 s, .slice A1 ds.length c1, pr] 26 (0, 0)) := blk_new rfl
  have HB0 := Lib.hid hb0
  have HN0 := Lib.hid hn0
  have HR := Lib.hid hr
  have HX := Lib.hid hx
  have HT := Lib.hid ht
  have hp' : decide (0 ≤ p ∧ p < 16) = true := by simpa using hg.1
  have HP := Lib.hid hp'
  have hs' : decide (0 ≤ s ∧ s ≤ 1000000000) = true := by simpa using hg.2.1
  have HS := Lib.hid hs'
  obtain ⟨n1, hn1⟩ : ∃ n1, n1 = ds.length := ⟨_, rfl⟩
  have h16 : n1 = 16 := by have := hg.2.2; omega
  have HD := Lib.hid hn1
  rw [← hn1] at hb0 hn0 HB0 HN0 ⊢
  subst h16
  obtain ⟨n2, hn2⟩ : ∃ n2, n2 = zs.length := ⟨_, rfl⟩
  have HZ := Lib.hid hn2
  rw [← hn2]
  obtain ⟨ans, hans⟩ : ∃ ans, ans = addS zs (setS s) ds := ⟨_, rfl⟩
  have ADD := Lib.hid (fun w' (h : Below w.heap.size w w') => add_calls A cap zs (setS s) A1 c1 ds w' (Kd.C_below hr h) (Kd.C_below hx h) hlen)
  simp only [← hn1, ← hn2, ← hans] at ADD ⊢
  clear hans
  clear hb0 hn0 hr hx ht hp' hs' hg hn1 hn2
  go_enter Tryd.func14, Tryd.ntmps14
  go_wp2_with (first
    | (go_at_call 28; refine (ispage_calls _ _).mono ?_; rw [HP.out]; rintro e w1 ⟨rfl, hb1⟩; have HB1 := Lib.hid (HB0.out.trans (hb1.mono HB0.out.size)); have hn1 := (hb1.block _ (by simp)).trans HN0.out; have c11 := (cell_of_row w1 _ 1 _ 26 (0, 0) hn1).trans (show _ = some (Value.int .i64 s) from rfl); have HN1 := Lib.hid hn1; clear hb1 hn1)
    | (go_at_call 29; refine (isseed_calls _ _).mono ?_; rw [HS.out]; rintro e w2 ⟨rfl, hb2⟩; have HB2 := Lib.hid (HB1.out.trans (hb2.mono HB1.out.size)); have hn2 := (hb2.block _ (Array.getElem?_eq_some_iff.1 HN1.out).1).trans HN1.out; have c22 := (cell_of_row w2 _ 2 _ 26 (0, 0) hn2).trans (show _ = some (Value.slice A1 16 c1) from rfl); have c21 := (cell_of_row w2 _ 1 _ 26 (0, 0) hn2).trans (show _ = some (Value.int .i64 s) from rfl); have HN2 := Lib.hid hn2; clear hb2 hn2))
  refine start_ (n := 14) (S := (fun V => V.cell? ⟨w.heap.size, 1, none⟩ = some (.int .i64 s) ∧ V.cell? ⟨w.heap.size, 2, none⟩ = some (.slice A1 16 c1) ∧ Below w.heap.size w V)) (ds := []) #[false, false, false, false, false, false, false, false, false, false, false, false, false, false] (by kernel_rfl) rfl rfl ⟨c21, c22, HB2.out.drew⟩ (fun hHeld => ?_)
  refine pure_ (i := 0) (N := some 23) (v := ?_) (a' := ?_) #[true, false, false, false, false, false, false, false, false, false, false, false, false, false] rfl rfl (by kernel_rfl) (fun _ _ _ h => h) (Or.inl ⟨by rfl, ?_⟩) ?_ ?_
  rotate_left
  · intro w'
    go_simp
    with_reducible rfl
  rotate_left
  · simp only [Act.put, List.setIfInBounds_toArray, List.set_cons_zero, List.set_cons_succ, i64_w, i32_w]
    rfl
  refine pure_ (i := 1) (N := some 24) (v := ?_) (a' := ?_) #[true, true, false, false, false, false, false, false, false, false, false, false, false, false] rfl rfl (by kernel_rfl) (fun _ _ _ h => h) (Or.inl ⟨by rfl, ?_⟩) ?_ ?_
  rotate_left
  · intro w'
    go_simp
    with_reducible rfl
  rotate_left
  · simp only [Act.put, List.setIfInBounds_toArray, List.set_cons_zero, List.set_cons_succ, i64_w, i32_w]
    rfl
  refine take_ (i := 2) (N := some 25) (v := ?_) (a' := ?_) #[true, true, true, false, false, false, false, false, false, false, false, false, false, false] rfl rfl (by kernel_rfl) (fun _ _ _ h => h) (Or.inl ⟨by rfl, ?_⟩) hHeld ?_ ?_
  rotate_left
  · rintro w' ⟨s0, s1, s2⟩
    go_simp
    with_reducible rfl
  rotate_left
  · simp only [Act.put, List.setIfInBounds_toArray, List.set_cons_zero, List.set_cons_succ, i64_w, i32_w]
    rfl
  refine pure_ (i := 4) (N := some 27) (v := ?_) (a' := ?_) #[true, true, true, false, true, false, false, false, false, false, false, false, false, false] rfl rfl (by kernel_rfl) (fun _ _ _ h => h) (Or.inl ⟨by rfl, ?_⟩) ?_ ?_
  rotate_left
  · intro w'
    go_simp
    with_reducible rfl
  rotate_left
  · simp only [Act.put, List.setIfInBounds_toArray, List.set_cons_zero, List.set_cons_succ, i64_w, i32_w]
    rfl
  refine take_ (i := 5) (N := some 28) (v := ?_) (a' := ?_) #[true, true, true, false, true, true, false, false, false, false, false, false, false, false] rfl rfl (by kernel_rfl) (fun _ _ _ h => h) (Or.inl ⟨by rfl, ?_⟩) hHeld ?_ ?_
  rotate_left
  · rintro w' ⟨s0, s1, s2⟩
    go_simp
    with_reducible rfl
  rotate_left
  · simp only [Act.put, List.setIfInBounds_toArray, List.set_cons_zero, List.set_cons_succ, i64_w, i32_w]
    rfl
  refine one_ (i := 3) (N := some 26) #[true, true, true, true, true, true, false, false, false, false, false, false, false, false] rfl rfl (by kernel_rfl) (by decide) (fun K hK => ?_)
  refine goes_ Tryd.func18 (by kernel_rfl) rfl #[.int .i64 s] (by rfl) rfl rfl (by simp only [List.map_toArray, List.map_cons, List.map_nil]; rfl) ?_
  refine (set_calls s _ (HT.out.keep hHeld.2.2)).mono ?_
  rintro e u ⟨rfl, hb⟩
  refine ⟨_, rfl, ?_⟩
  obtain ⟨q1, q2, q3⟩ := hHeld
  refine hK.out _ _ ⟨(hb.cell (World.block_lt_of_cell? _ _ q1)).trans q1, (hb.cell (World.block_lt_of_cell? _ _ q2)).trans q2, q3.trans (hb.mono q3.size)⟩ (fun hHeld => ?_)
  clear hK K hb
  refine norm_ (a' := ?_) ?_ ?_
  rotate_left
  · show Act.put _ (some 26) _ = _
    simp only [Act.put, List.setIfInBounds_toArray, List.set_cons_zero, List.set_cons_succ, i64_w, i32_w]
    rfl
  refine pure_ (i := 6) (N := some 29) (v := ?_) (a' := ?_) #[true, true, true, true, true, true, true, false, false, false, false, false, false, false] rfl rfl (by kernel_rfl) (fun _ _ _ h => h) (Or.inl ⟨by rfl, ?_⟩) ?_ ?_
  rotate_left
  · intro w'
    go_simp
    with_reducible rfl
  rotate_left
  · simp only [Act.put, List.setIfInBounds_toArray, List.set_cons_zero, List.set_cons_succ, i64_w, i32_w]
    rfl
  refine one_ (i := 7) (N := some 30) #[true, true, true, true, true, true, true, true, false, false, false, false, false, false] rfl rfl (by kernel_rfl) (by decide) (fun K hK => ?_)
  refine goes_ Tryd.func34 (by kernel_rfl) rfl #[.slice A n2 cap, .agg #[.int .i64 (setS s), .slice A1 16 c1]] (by rfl) rfl rfl (by simp only [List.map_toArray, List.map_cons, List.map_nil]; rfl) ?_
  obtain ⟨q1, q2, q3⟩ := hHeld
  refine (ADD.out _ q3).mono ?_
  rintro e u2 ⟨v, rfl, hv, hb⟩
  have HV := Lib.hid (Kd.S_lower hv q3.size)
  have HB := Lib.hid (q3.trans (hb.mono q3.size))
  refine ⟨_, rfl, ?_⟩
  refine hK.out _ _ ⟨(hb.cell (World.block_lt_of_cell? _ _ q1)).trans q1, (hb.cell (World.block_lt_of_cell? _ _ q2)).trans q2, HB.out⟩ (fun hHeld => ?_)
  clear hK K hb hv
  refine norm_ (a' := ?_) ?_ ?_
  rotate_left
  · show Act.put _ (some 30) _ = _
    simp only [Act.put, List.setIfInBounds_toArray, List.set_cons_zero, List.set_cons_succ, i64_w, i32_w]
    rfl
  refine pure_ (i := 8) (N := some 31) (v := ?_) (a' := ?_) #[true, true, true, true, true, true, true, true, true, false, false, false, false, false] rfl rfl (by kernel_rfl) (fun _ _ _ h => h) (Or.inl ⟨by rfl, ?_⟩) ?_ ?_
  rotate_left
  · intro w'
    go_simp
    with_reducible rfl
  rotate_left
  · simp only [Act.put, List.setIfInBounds_toArray, List.set_cons_zero, List.set_cons_succ, i64_w, i32_w]
    rfl
  refine pure_ (i := 9) (N := some 32) (v := ?_) (a' := ?_) #[true, true, true, true, true, true, true, true, true, true, false, false, false, false] rfl rfl (by kernel_rfl) (fun _ _ _ h => h) (Or.inl ⟨by rfl, ?_⟩) ?_ ?_
  rotate_left
  · intro w'
    go_simp
    with_reducible rfl
  rotate_left
  · simp only [Act.put, List.setIfInBounds_toArray, List.set_cons_zero, List.set_cons_succ, i64_w, i32_w]
    rfl
  refine pure_ (i := 10) (N := some 33) (v := ?_) (a' := ?_) #[true, true, true, true, true, true, true, true, true, true, true, false, false, false] rfl rfl (by kernel_rfl) (fun _ _ _ h => h) (Or.inl ⟨by rfl, ?_⟩) ?_ ?_
  rotate_left
  · intro w'
    go_simp
    with_reducible rfl
  rotate_left
  · simp only [Act.put, List.setIfInBounds_toArray, List.set_cons_zero, List.set_cons_succ, i64_w, i32_w]
    rfl
  refine pure_ (i := 11) (N := some 4) (v := ?_) (a' := ?_) #[true, true, true, true, true, true, true, true, true, true, true, true, false, false] rfl rfl (by kernel_rfl) (fun _ _ _ h => h) (Or.inl ⟨by rfl, ?_⟩) ?_ ?_
  rotate_left
  · intro w'
    go_simp
    with_reducible rfl
  rotate_left
  · simp only [Act.put, List.setIfInBounds_toArray, List.set_cons_zero, List.set_cons_succ, i64_w, i32_w]
    rfl
  refine pure_ (i := 12) (N := some 5) (v := ?_) (a' := ?_) #[true, true, true, true, true, true, true, true, true, true, true, true, true, false] rfl rfl (by kernel_rfl) (fun _ _ _ h => h) (Or.inl ⟨by rfl, ?_⟩) ?_ ?_
  rotate_left
  · intro w'
    go_simp
    with_reducible rfl
  rotate_left
  · simp only [Act.put, List.setIfInBounds_toArray, List.set_cons_zero, List.set_cons_succ, i64_w, i32_w]
    rfl
  refine pure_ (i := 13) (N := some 6) (v := ?_) (a' := ?_) #[true, true, true, true, true, true, true, true, true, true, true, true, true, true] rfl rfl (by kernel_rfl) (fun _ _ _ h => h) (Or.inl ⟨by rfl, ?_⟩) ?_ ?_
  rotate_left
  · intro w'
    go_simp
    with_reducible rfl
  rotate_left
  · simp only [Act.put, List.setIfInBounds_toArray, List.set_cons_zero, List.set_cons_succ, i64_w, i32_w]
    rfl
  refine done_ (by kernel_rfl) ?_
  go_wp2
  refine bodyPost_ret (by simp [results, Tryd.results14, go_sem]; rfl) rfl ?_
  exact ⟨_, rfl, HV.out, HB.out⟩
end Go.Proofs.YtknlbeojdmeljaaDoor.H
namespace Go.Proofs.YtknlbeojdmeljaaDoor.H
open Go.RowKit Go.Proofs.YtknlbeojdmeljaaDoorW.PrintWords Go.Proofs.YtknlbeojdmeljaaDoorW.PrintLast Go.Proofs.YtknlbeojdmeljaaDoorW.PrintMore Go.Proofs.YtknlbeojdmeljaaDoor.P
set_option linter.unusedVariables false
set_option linter.unusedSimpArgs false
theorem solvedS_len (zs : List S25) (i : Int) : (solvedS zs i).1.length ≤ 16 := by
  unfold solvedS
  split
  · simp
  · rename_i h
    have hv : validS zs = true := by
      cases h' : validS zs
      · exact absurd (.inr (.inr h')) h
      · rfl
    obtain ⟨fz, rfl⟩ := valid_fz hv
    split
    · rename_i x hx
      have hm := List.mem_of_find?_eq_some hx
      obtain ⟨y, _, rfl⟩ := List.mem_map.1 hm
      have := FRow.spec y
      have := this.2.2
      simp [this]
    · simp
/-- the page that is found up to block k -/
def pageTo (zs : List S25) (k : Nat) : List Int := (List.range k).flatMap (fun (i : Nat) => if (solvedS zs (i : Int)).2 then (solvedS zs (i : Int)).1 else [])
def foundB (zs : List S25) (k i : Nat) : Bool := decide (i < k) && (solvedS zs (i : Int)).2
def foundTo (zs : List S25) (k : Nat) : List Bool := (List.range 16).map (foundB zs k)
def pageS (zs : List S25) : List Int × Bool := if (foundTo zs 16).all id then (pageTo zs 16, true) else ([], false)
theorem pageTo_succ (zs : List S25) (k : Nat) : pageTo zs (k + 1) = pageTo zs k ++ (if (solvedS zs (k : Int)).2 then (solvedS zs (k : Int)).1 else []) := by
  simp [pageTo, List.range_succ, List.flatMap_append]
theorem pageTo_len (zs : List S25) (k : Nat) : (pageTo zs k).length ≤ 16 * k := by
  induction k with
  | zero => simp [pageTo]
  | succ k ih =>
    rw [pageTo_succ, List.length_append]
    have := solvedS_len zs k
    split
    · omega
    · simp only [List.length_nil]; omega
theorem foundTo_len (zs : List S25) (k : Nat) : (foundTo zs k).length = 16 := by simp [foundTo]
theorem foundTo_set (zs : List S25) (k : Nat) (hk : k < 16) : (foundTo zs k).set k (solvedS zs (k : Int)).2 = foundTo zs (k + 1) := by
  apply List.ext_getElem
  · simp [foundTo]
  · intro i h1 h2
    rw [List.getElem_set]
    simp only [foundTo, List.getElem_map, List.getElem_range, foundB]
    split
    · rename_i e; subst e; simp
    · rename_i e
      have : decide (i < k + 1) = decide (i < k) := by
        by_cases h : i < k
        · simp [h]; omega
        · simp [h]; omega
      rw [this]
def bls (l : List Bool) : List Value := l.map Value.bool
theorem foundTo_zero (zs : List S25) : foundTo zs 0 = List.replicate 16 false := by
  apply List.ext_getElem
  · simp [foundTo]
  · intro i h1 h2
    simp only [foundTo, List.getElem_map, List.getElem_range, List.getElem_replicate, foundB]
    simp
theorem und64 : Tryd.prog.underlying 64 = some (.array 16 4) := by kernel_rfl
theorem size64 : (Tryd.prog.info? 64).map (·.size) = some 16 := by kernel_rfl
theorem row256_R {w : World} {g : Nat} {cur : Array Value} (base : Nat) (ok : Nat → Prop) (hok : ok g) (hb : base ≤ g) (h : w.heap[g]? = some (.cells cur 5 (0, 0))) (hs : cur.size = 256) : Kd.R (Kd.int .u8) 5 w base ok (.slice (some ⟨g, 0, none⟩) 0 256) [] := by
  refine Kd.R_of_own ⟨by simp [encs], .inr ⟨g, 256, cur, rfl, hb, h, ?_, ?_, ?_, ?_⟩⟩ ?_
  · exact Nat.zero_le _
  · decide
  · rw [hs]
  · simp [encs]
  · intro k hk
    simp [Value.ownBlock] at hk
    subst hk
    exact hok
theorem index_is (l : List Bool) (hl : l.length ≤ 1000) : ∀ (m k : Nat), k ≤ l.length → l.length - k + 1 ≤ m → ∃ r, slices_Index_bool_bool.l0 m l false (l.length : Int) (k : Int) = some r ∧ (0 ≤ r ↔ false ∈ l.drop k)
  | 0, k, h1, h2 => by omega
  | m + 1, k, h1, h2 => by
    unfold slices_Index_bool_bool.l0
    by_cases hk : k < l.length
    · have e : rdOf false l (k : Int) = l[k] := by simp [rdOf, hk]
      have hd : l.drop k = l[k] :: l.drop (k + 1) := List.drop_eq_getElem_cons hk
      rw [if_pos (by omega), if_pos (by omega), if_pos (by omega), e, hd]
      by_cases hb : l[k] = false
      · rw [hb]
        exact ⟨_, if_pos rfl, by simp⟩
      · have hb' : l[k] = true := by simpa using hb
        rw [hb', if_neg (by decide)]
        have hw : wrap64 ((k : Int) + 1) = ((k + 1 : Nat) : Int) := by unfold wrap64; omega
        rw [hw]
        obtain ⟨r, h3, h4⟩ := index_is l hl m (k + 1) (by omega) (by omega)
        exact ⟨r, h3, by rw [h4]; simp⟩
    · rw [if_neg (by omega)]
      refine ⟨_, rfl, ?_⟩
      rw [List.drop_of_length_le (by omega)]
      simp
theorem contains_is (l : List Bool) (hl : l.length ≤ 1000) : slices_Contains_bool_bool.f 1001 l false = some (!l.all id) := by
  unfold slices_Contains_bool_bool.f slices_Index_bool_bool.f
  obtain ⟨r, h1, h2⟩ := index_is l hl 1001 0 (by omega) (by omega)
  rw [show ((0 : Nat) : Int) = 0 from rfl] at h1
  rw [h1]
  simp only [Option.bind]
  congr 1
  rw [List.drop_zero] at h2
  by_cases h : false ∈ l
  · have : l.all id = false := by
      rw [Bool.eq_false_iff]
      intro hh
      have := List.all_eq_true.1 hh _ h
      cases this
    rw [this]
    simpa using h2.2 h
  · have : l.all id = true := List.all_eq_true.2 (fun x hx => by
      cases x
      · exact absurd hx h
      · rfl)
    rw [this]
    have := fun hh => h (h2.1 hh)
    simpa using this
theorem C_bools {w : World} {g : Nat} {d : List Bool} {t : TypeId} (h : w.heap[g]? = some (.cells (bls d).toArray t (0, 0))) (hl : d.length ≤ 9223372036854775807) : Kd.C Kd.bool w (some ⟨g, 0, none⟩) d.length d := by
  refine ⟨rfl, hl, fun _ => ⟨_, rfl, fun j p hj => ⟨[.bool p], rfl, rfl, fun i u hu => ?_⟩⟩⟩
  match i, hu with
  | 0, hu =>
    simp at hu
    subst hu
    have e : Kd.bool.sz = 1 := rfl
    rw [e, Addr.add_mid, cell_of_row w _ _ _ t (0, 0) h]
    simp [bls, hj]
theorem all_range_bool : ∀ (xs ys : List Bool), xs.length = ys.length → ((List.range xs.length).all fun i => xs.getD i false == ys.getD i false) = (xs == ys)
  | [], [], _ => rfl
  | x :: xs, y :: ys, h => by
    have ih := all_range_bool xs ys (by simpa using h)
    rw [List.length_cons, List.range_succ_eq_map, List.all_cons, List.all_map]
    simp only [List.getD_cons_zero, Function.comp_def, List.getD_cons_succ, ih]
    simp [List.cons_beq_cons]
  | [], _ :: _, h => by simp at h
  | _ :: _, [], h => by simp at h
theorem equalIn_bls {P : Program} (w : World) (d : Nat) (t e : TypeId) (n : Nat) (ht : P.underlying t = some (.array n e)) (he : P.underlying e = some .bool) (hsz : ∀ w, (sizeOf e).run P w = .ok 1 w)
    (xs ys : List Bool) (hx : xs.length = n) (hy : ys.length = n) :
    (Op.equalIn (d + 2) t (.agg (bls xs).toArray) (.agg (bls ys).toArray)).run P w = .ok (xs == ys) w := by
  rw [← all_range_bool xs ys (hx.trans hy.symm), hx, List.range_eq_range', Op.equalIn]
  simp only [Sem.run_bind, run_underlying ht, Result.andThen_ok, hsz, Std.Legacy.Range.forIn_eq_forIn_range', Std.Legacy.Range.size, Nat.sub_zero, Nat.add_sub_cancel, Nat.div_one]
  have hl : ∀ i ∈ List.range' 0 n 1, i < n := fun i hi => by simpa using (List.mem_range'_1.1 hi).2
  generalize List.range' 0 n 1 = l at hl ⊢
  induction l with
  | nil => simp
  | cons i l ih =>
    have hi : i < n := hl i (by simp)
    have px : (part e (bls xs).toArray (i * 1)).run P w = .ok (.bool (xs.getD i false)) w := by
      simp [bls, part, isAgg, run_underlying he, List.getD, List.getElem?_eq_getElem (show i < xs.length by omega)]
    have py : (part e (bls ys).toArray (i * 1)).run P w = .ok (.bool (ys.getD i false)) w := by
      simp [bls, part, isAgg, run_underlying he, List.getD, List.getElem?_eq_getElem (show i < ys.length by omega)]
    have pe : (Op.equalIn (d + 1) e (.bool (xs.getD i false)) (.bool (ys.getD i false))).run P w = .ok (xs.getD i false == ys.getD i false) w := by
      rw [run_equalIn_bool w d e _ _ he]
    simp only [List.forIn_cons, Sem.run_bind, px, py, pe, Result.andThen_ok, List.all_cons]
    cases hb : (xs.getD i false == ys.getD i false)
    · simp
    · simp only [Bool.not_true, Bool.false_eq_true, if_false, Sem.run_pure, Result.andThen_ok, Bool.true_and]
      exact ih fun j hj => hl j (by simp [hj])
theorem und4 : Tryd.prog.underlying 4 = some .bool := by kernel_rfl
theorem size4 (w : World) : (sizeOf 4).run Tryd.prog w = .ok 1 w := by kernel_rfl
theorem eq64 (xs : List Bool) (hx : xs.length = 16) (w : World) : (Go.binOp .eql 64 (.agg (bls xs).toArray) (.agg (bls (List.replicate 16 false)).toArray)).run Tryd.prog w = .ok (.bool (xs == List.replicate 16 false)) w := by
  rw [run_eql_struct, equalIn_bls w 9998 64 4 16 und64 und4 size4 xs (List.replicate 16 false) hx (by simp)]
  rfl
theorem eqg64 (x y : Operand) (xs ys : Array Value) (w : World) : (eqGuard .eql 64 x y (.agg xs) (.agg ys)).run Tryd.prog w = .ok () w := by
  kernel_rfl
theorem exec_eql64 {a : Act} {o : Oper} {x y : Operand} {s : TypeId} {xs : List Bool} {w : World} (ho : o.op = .binOp .eql 64 x y s) (hx : a.eval x = .agg (bls xs).toArray) (hy : a.eval y = .agg (bls (List.replicate 16 false)).toArray) (hd : xs.length = 16) {b : Bool} (hb : (xs == List.replicate 16 false) = b) :
    (execOp a.eval o).run Tryd.prog w = .ok (.value (.bool b)) w := by
  subst hb
  unfold execOp
  simp only [ho, Sem.run_bind]
  rw [hx, hy, eqg64]
  simp only [Result.andThen]
  rw [eq64 xs hd w]
  rfl
theorem bls_at (l : List Bool) (k : Nat) (h : k < l.length) : (bls l).toArray[k]? = some (.bool (l.getD k false)) := by
  simp [bls, h]
set_option maxRecDepth 100000 in
set_option maxHeartbeats 1000000 in
theorem page_calls (A : Option Addr) (cap : Nat) (zs : List S25) (w : World) (hr : Kd.C k25 w A zs.length zs) :
    Calls Tryd.prog 16 #[.slice A zs.length cap] w fun e w' => ∃ v, e = .returned (.tuple #[v, .bool (pageS zs).2]) ∧ Kd.R (Kd.int .u8) 5 w' w.heap.size (fun _ => True) v (pageS zs).1 ∧ Below w.heap.size w w' := by
  have HR := Lib.hid hr
  obtain ⟨n, hn⟩ : ∃ n, n = zs.length := ⟨_, rfl⟩
  have SOL := Lib.hid (fun w' (h : Below w.heap.size w w') (i : Int) => solved_calls A cap zs i w' (Kd.C_below hr h))
  rw [← hn] at HR SOL ⊢
  have hu64 := und64
  have hmk : ∀ w : World, (Instr.makeSlice 22 (.int .i64 0) (.int .i64 256)).run Tryd.prog w = .ok (.slice (some ⟨w.heap.size, 0, none⟩) 0 256) (w.alloc (.cells (Array.replicate 256 (.int .u8 0)) 5)) := fun w => by
    kernel_rfl
  clear hr hn
  go_enter Tryd.func16, Tryd.ntmps16
  go_wp2
  go_loopw [5, 9] (fun pv i wr => ∃ k : Nat, k ≤ 16 ∧ i = .int .i64 k ∧ Kd.R (Kd.int .u8) 5 wr w.heap.size (fun j => j ≠ w.heap.size) pv (pageTo zs k) ∧ wr.heap[w.heap.size]? = some (.cells (bls (foundTo zs k)).toArray 64 (0, 0)) ∧ Below w.heap.size w wr)
    (fun _ i _ => 16 - (intOf i).toNat)
  case atStart =>
    refine ⟨0, by omega, rfl, row256_R _ _ (by omega) (by omega) (blk_new (by simp)) (by simp), ?_, ((Below.refl _ _).alloc (Nat.le_refl _) _).alloc (by simp) _⟩
    rw [foundTo_zero]
    exact (Below.heap_alloc _ _ _ (by simp)).trans (blk_new rfl)
  case round =>
    obtain ⟨k, hk, rfl, h1, h2, hB⟩ := hrel
    by_cases hkt : k < 16
    · have hps := pageTo_succ zs k
      have hpl := pageTo_len zs k
      have hfs := foundTo_set zs k hkt
      have hfl := foundTo_len zs k
      have hsl := solvedS_len zs k
      have hsol := SOL.out wr hB (k : Int)
      obtain ⟨q, hq⟩ : ∃ q, q = solvedS zs (k : Int) := ⟨_, rfl⟩
      rw [← hq] at hps hfs hsl hsol
      obtain ⟨d, f⟩ := q
      simp only at hps hfs hsl hsol
      obtain ⟨A0, c0, rfl⟩ := Kd.R_slice h1
      have HPS := Lib.hid hps
      have HPL := Lib.hid hpl
      have HFS := Lib.hid hfs
      have HFL := Lib.hid hfl
      have HSL := Lib.hid hsl
      have HSOL := Lib.hid hsol
      have H1 := Lib.hid h1
      have H2 := Lib.hid h2
      have HB := Lib.hid hB
      obtain ⟨pl, hpl'⟩ : ∃ pl, pl = (pageTo zs k).length := ⟨_, rfl⟩
      have HPN := Lib.hid hpl'
      rw [← hpl']
      clear hps hpl hfs hfl hsl hsol hq h1 h2 hB hpl'
      cases f
      · go_wp2_with (first
          | (go_at_call 37; refine HSOL.out.mono ?_; rintro e w1 ⟨v, rfl, hv, hb⟩; have hsz := HB.out.size; have hlt := (Array.getElem?_eq_some_iff.1 H2.out).1; have HB1 := Lib.hid (HB.out.trans (hb.mono hsz)); have h21 := (hb.block _ hlt).trans H2.out; have c21 := (cell_of_row w1 _ k _ 64 (0, 0) h21).trans (bls_at _ k (by rw [HFL.out]; exact hkt)); have f21 := frozen_of_row w1 _ k _ 64 h21; have H21 := Lib.hid h21; have H11 := Lib.hid (Kd.R_below H1.out hb); clear hv hb h21))
        have hfin : (w1.setCell ⟨w.heap.size, k, none⟩ (.bool false)).heap[w.heap.size]? = some (.cells (bls (foundTo zs (k + 1))).toArray 64 (0, 0)) := by
          rw [heap_setCell_same w1 _ k _ 64 _ H21.out, ← HFS.out]
          simp [bls, List.map_set]
        have hpe : pageTo zs (k + 1) = pageTo zs k := by rw [HPS.out]; simp
        go_roundw
        case rel => exact ⟨k + 1, by omega, by go_num, by rw [hpe, HPN.out]; exact Kd.R_far H11.out (fun j h => h) _, hfin, HB1.out.setCell (p := ⟨w.heap.size, k, none⟩) (Nat.le_refl _) _⟩
        case measure => simp [intOf]; omega
      · go_wp2_with (first
          | (go_at_call 37; refine HSOL.out.mono ?_; rintro e w1 ⟨v, rfl, hv, hb⟩; have hsz := HB.out.size; have hlt := (Array.getElem?_eq_some_iff.1 H2.out).1; have HB1 := Lib.hid (HB.out.trans (hb.mono hsz)); have h21 := (hb.block _ hlt).trans H2.out; have c21 := (cell_of_row w1 _ k _ 64 (0, 0) h21).trans (bls_at _ k (by rw [HFL.out]; exact hkt)); have f21 := frozen_of_row w1 _ k _ 64 h21; have H21 := Lib.hid h21; have H11 := Lib.hid (Kd.R_below H1.out hb); obtain ⟨A1, c1, rfl⟩ := Kd.R_slice hv; have HV := Lib.hid hv; clear hv hb h21)
          | ((with_reducible refine gate_builtin (b := .append) (xs := #[.tmp 23, .tmp 24]) rfl ?_); at_builtin; refine Kd.R_append_rows (Kd.int .u8) (w0 := w) w.heap.size rfl (.tmp 23) (.tmp 24) 22 5 (.int .u8 0) 1 rfl Tryd.underlying22 info5 rfl (by decide) (by omega) (.slice A0 pl c0) (pageTo zs k) d _ _ _ (fun j => j ≠ w.heap.size) (fun _ => False) rfl rfl ?aO ?aR (fun _ _ h => h) (fun _ h => h.elim) (fun j h => ?aF) ?aB ?aS ?aL ?_; (case aO => rw [HPN.out]; exact Kd.R_far H11.out (fun j h => h) _); (case aR => exact (Kd.R_reads' (Kd.R_far (p := ⟨w.heap.size, k, none⟩) (Kd.R_bound HV.out) (fun j hj => by have := hj.2.1; simp; omega) _)).2.2); (case aF => have := (Array.getElem?_eq_some_iff.1 H21.out).1; rw [World.size_setCell] at h; omega); (case aB => exact HB1.out.setCell (p := ⟨w.heap.size, k, none⟩) (Nat.le_refl _) _); (case aS => have := (Array.getElem?_eq_some_iff.1 H21.out).1; rw [World.size_setCell]; omega); (case aL => have h1_ := HPL.out; have h2_ := HSL.out; omega); intro v1 w5 ho hb hg hat; have HO := Lib.hid ho; have HB5 := Lib.hid hb; have HG := Lib.hid hg; clear ho hb hg hat))
        have hlt1 := (Array.getElem?_eq_some_iff.1 H21.out).1
        have hfin : w5.heap[w.heap.size]? = some (.cells (bls (foundTo zs (k + 1))).toArray 64 (0, 0)) := by
          rw [HG.out.block w.heap.size (by rw [World.size_setCell]; exact hlt1) (fun e => H11.out.1 _ (by rw [← HPN.out]; exact e.symm) rfl), heap_setCell_same w1 _ k _ 64 _ H21.out, ← HFS.out]
          simp [bls, List.map_set]
        have hpe : pageTo zs (k + 1) = pageTo zs k ++ d := by rw [HPS.out]; simp
        go_roundw
        case rel => exact ⟨k + 1, by omega, by go_num, by rw [hpe]; exact HO.out, hfin, HB5.out⟩
        case measure => simp [intOf]; omega
    · obtain rfl : k = 16 := by omega
      have hcon := contains_is (foundTo zs 16) (by rw [foundTo_len]; omega)
      have H1 := Lib.hid h1
      have H2 := Lib.hid h2
      have HB := Lib.hid hB
      have HCON := Lib.hid hcon
      clear h1 h2 hB hcon
      have hfl := foundTo_len zs 16
      have hps : pageS zs = if (foundTo zs 16).all id then (pageTo zs 16, true) else ([], false) := rfl
      obtain ⟨F, hF⟩ : ∃ F, F = foundTo zs 16 := ⟨_, rfl⟩
      rw [← hF] at hfl H2 HCON hps
      have hi : (Tryd.prog.info? 64).map (·.size) = some (bls F).length := by rw [show (bls F).length = 16 by simp [bls, hfl]]; exact size64
      have HI := Lib.hid hi
      have HFL := Lib.hid hfl
      have HPS := Lib.hid hps
      have hrg : wr.rangeAt w.heap.size 0 (bls F) := by
        intro j v hv
        rw [Nat.zero_add, cell_of_row wr _ j _ 64 (0, 0) H2.out]
        simpa using hv
      have HRG := Lib.hid hrg
      obtain ⟨bz, hbz⟩ : ∃ bz, (F == List.replicate 16 false) = bz := ⟨_, rfl⟩
      have HBZ := Lib.hid hbz
      clear hi hfl hrg hps hF hbz
      have hcall : Calls Tryd.prog 38 #[.slice (some ⟨w.heap.size, 0, none⟩) 16 16, .bool false] wr fun e w' => e = .returned (.bool (!F.all id)) ∧ Drawn0 wr w' := by
        have := slices_Contains_bool_bool.calls 1001 (some ⟨w.heap.size, 0, none⟩) 16 F false _ wr (C_bools H2.out (by rw [HFL.out]; omega)) (by rw [HFL.out]; omega) HCON.out
        rwa [HFL.out] at this
      have HCALL := Lib.hid hcall
      clear hcall
      cases bz
      · cases ha : F.all id
        · have HAL := Lib.hid ha
          clear ha
          go_wp2_with (first
            | (refine wpList_load_mid rfl 64 _ rfl w.heap.size 0 rfl (bls F) _ HRG.out und64 rfl HI.out ?_)
            | (refine Kd.event_run rfl (exec_eql64 (x := .tmp 27) (y := .tmp 28) (xs := F) rfl rfl rfl HFL.out HBZ.out) ?_)
            | (go_at_call 38; refine HCALL.out.mono ?_; rw [HAL.out]; rintro e w5 ⟨rfl, ⟨nd, rfl⟩⟩))
          refine bodyPost_ret (by simp [results, Tryd.results16, go_sem]; rfl) rfl ?_
          rw [HPS.out, HAL.out]
          exact ⟨_, rfl, Kd.R_nil _ _ _ _ _, pw_below_drewN HB.out nd⟩
        · have HAL := Lib.hid ha
          clear ha
          go_wp2_with (first
            | (refine wpList_load_mid rfl 64 _ rfl w.heap.size 0 rfl (bls F) _ HRG.out und64 rfl HI.out ?_)
            | (refine Kd.event_run rfl (exec_eql64 (x := .tmp 27) (y := .tmp 28) (xs := F) rfl rfl rfl HFL.out HBZ.out) ?_)
            | (go_at_call 38; refine HCALL.out.mono ?_; rw [HAL.out]; rintro e w5 ⟨rfl, ⟨nd, rfl⟩⟩))
          refine bodyPost_ret (by simp [results, Tryd.results16, go_sem]; rfl) rfl ?_
          rw [HPS.out, HAL.out]
          exact ⟨_, rfl, Kd.R_mono (Kd.R_below H1.out (pw_below_drewN (Below.refl _ _) nd)) (fun _ _ => trivial), pw_below_drewN HB.out nd⟩
      · have hall : F.all id = false := by
          have := HBZ.out
          rw [eq_of_beq this]
          rfl
        have HAL := Lib.hid hall
        clear hall
        go_wp2_with (first
          | (refine wpList_load_mid rfl 64 _ rfl w.heap.size 0 rfl (bls F) _ HRG.out und64 rfl HI.out ?_)
          | (refine Kd.event_run rfl (exec_eql64 (x := .tmp 27) (y := .tmp 28) (xs := F) rfl rfl rfl HFL.out HBZ.out) ?_))
        refine bodyPost_ret (by simp [results, Tryd.results16, go_sem]; rfl) rfl ?_
        rw [HPS.out, HAL.out]
        exact ⟨_, rfl, Kd.R_nil _ _ _ _ _, HB.out⟩
end Go.Proofs.YtknlbeojdmeljaaDoor.H
namespace Go.Proofs.YtknlbeojdmeljaaDoor.H
open Go.RowKit Go.Proofs.YtknlbeojdmeljaaDoorW.PrintWords Go.Proofs.YtknlbeojdmeljaaDoorW.PrintLast Go.Proofs.YtknlbeojdmeljaaDoorW.PrintMore Go.Proofs.YtknlbeojdmeljaaDoor.P
set_option linter.unusedVariables false
set_option linter.unusedSimpArgs false
def sumE (B : List Int) (s : Int) : List Int := (foldE B (setS s).toNat (fr 16)).1
def recL (B : List Int) : List Int → List S25 → Int → List S25 × Int × Bool
  | [], l, n => (l, n, true)
  | s :: r, l, n => if (addS l (setS s) (sumE B s)).2.2 = 0 then recL B r (addS l (setS s) (sumE B s)).1 (if (addS l (setS s) (sumE B s)).2.1 then n + 1 else n) else ([], 0, false)
theorem insL_len1 (e : Nat × List Int) (p : List S25) : (insL e p).1.length = p.length + (insL e p).2.toNat := by
  have key : ∀ (q : List S25) (s : List S25 × Bool), (q.foldl (insStep e) s).1.length + s.2.toNat = s.1.length + q.length + (q.foldl (insStep e) s).2.toNat := by
    intro q
    induction q with
    | nil => intro s; simp
    | cons r q ih =>
      intro s
      have h2 := ih (insStep e s r)
      simp only [List.foldl_cons, List.length_cons]
      have h3 : (insStep e s r).1.length + s.2.toNat = s.1.length + 1 + (insStep e s r).2.toNat := by
        unfold insStep
        obtain ⟨s1, s2⟩ := s
        cases s2
        · split <;> simp
        · simp
      omega
  have := key p ([], false)
  simpa [insL] using this
theorem addS_len (l : List S25) (m : Int) (d : List Int) : (addS l m d).1.length ≤ l.length + 1 := by
  unfold addS
  split
  · simp
  · split
    · simp
    · split
      · simp
      · show (insS _ l).length ≤ _
        have := insL_len1 (redS l (m.toNat, d)) l
        unfold insS
        split
        · rename_i h; rw [h] at this; rw [this]; simp
        · rename_i h
          rw [List.length_append, this, show (insL (redS l (m.toNat, d)) l).2 = false by simpa using h]
          simp
theorem sumE_len {B : List Int} (hB : B.length = 256) (s : Int) (hs : 0 ≤ s ∧ s ≤ 1000000000) : (sumE B s).length = 16 := by
  have := setS_range s hs.1 hs.2
  exact (foldE_ok hB (by omega) _).1
set_option maxRecDepth 100000 in
set_option maxHeartbeats 1000000 in
theorem received_calls (A : Option Addr) (c : Nat) (B : List Int) (A2 : Option Addr) (c2 : Nat) (seeds : List Int) (w : World) (hc : 256 ≤ c) (hr : Kd.C (Kd.int .u8) w A 256 B) (hr2 : Kd.C (Kd.int .i64) w A2 seeds.length seeds) (hl : seeds.length ≤ 200) (hg : ∀ s ∈ seeds, 0 ≤ s ∧ s ≤ 1000000000) (ht : Tabs w) :
    Calls Tryd.prog 24 #[.slice A 256 c, .slice A2 seeds.length c2] w fun e w' => ∃ v, e = .returned (.tuple #[v, .int .i64 (recL B seeds [] 0).2.1, .bool (recL B seeds [] 0).2.2]) ∧ Kd.S k25 52 w' w.heap.size (fun _ => True) v (recL B seeds [] 0).1 ∧ Below w.heap.size w w' := by
  have ENC := Lib.hid (fun s w' (h : Below w.heap.size w w') hs => encode_good A c B 0 s w' hc (Kd.C_below hr h) (ht.keep h) (by omega) hs)
  have HR2 := Lib.hid hr2
  have HT := Lib.hid ht
  have HG := Lib.hid hg
  have hBl : B.length = 256 := hr.1
  have HBL := Lib.hid hBl
  obtain ⟨N, hN⟩ : ∃ N, N = seeds.length := ⟨_, rfl⟩
  have HN := Lib.hid hN
  obtain ⟨ans, hans⟩ : ∃ ans, ans = recL B seeds [] 0 := ⟨_, rfl⟩
  have HANS := Lib.hid hans
  rw [← hN] at hl HR2 ⊢
  rw [← hans]
  clear hr hr2 ht hg hBl hN hans
  go_enter Tryd.func24, Tryd.ntmps24
  go_wp2
  go_loopw [7, 8, 9] (fun lv mv i wr => ∃ (k : Nat) (zs : List S25) (n : Int), k ≤ N ∧ i = .int .i64 k ∧ mv = .int .i64 n ∧ 0 ≤ n ∧ n ≤ k ∧ zs.length ≤ k ∧ Kd.S k25 52 wr w.heap.size (fun _ => True) lv zs ∧ ans = recL B (seeds.drop k) zs n ∧ Below w.heap.size w wr)
    (fun _ _ i _ => N - (intOf i).toNat)
  case atStart => exact ⟨0, [], 0, Nat.zero_le _, rfl, rfl, by omega, by omega, by simp, Kd.S_nil _ _ _ _ _, HANS.out, Below.refl _ _⟩
  case round =>
    obtain ⟨k, zs, n, hk, rfl, rfl, hn0, hn1, hz, hS, hrec, hB⟩ := hrel
    by_cases hlt : k < N
    · have hks : k < seeds.length := by rw [← HN.out]; exact hlt
      obtain ⟨s, hs⟩ : ∃ s, s = seeds[k] := ⟨_, rfl⟩
      have hgs : 0 ≤ s ∧ s ≤ 1000000000 := HG.out s (by rw [hs]; exact List.getElem_mem hks)
      have hd : seeds.drop k = s :: seeds.drop (k + 1) := by rw [hs]; exact List.drop_eq_getElem_cons hks
      rw [hd] at hrec
      simp only [recL] at hrec
      obtain ⟨ad, hA2, hcell⟩ := Kd.at_int (Kd.C_below HR2.out hB) (k : Int) (by omega) (by omega)
      have hrd : rd seeds (k : Int) = s := by simp [rd, hks, hs]
      rw [hrd, Int.toNat_natCast] at hcell
      subst hA2
      have henc := ENC.out s wr hB hgs
      rw [show (foldE B (setS s).toNat (fr 16)).1 = sumE B s from rfl] at henc
      have hsl := sumE_len HBL.out s hgs
      obtain ⟨E, hE⟩ : ∃ E, E = sumE B s := ⟨_, rfl⟩
      rw [← hE] at henc hsl hrec
      obtain ⟨A3, c3, rfl⟩ := Kd.R_slice (Kd.S_R hS)
      have HENC := Lib.hid henc
      have HSL := Lib.hid hsl
      have HGS := Lib.hid hgs
      have HREC := Lib.hid hrec
      have HS := Lib.hid hS
      have HB := Lib.hid hB
      obtain ⟨zl, hzl⟩ : ∃ zl, zl = zs.length := ⟨_, rfl⟩
      have HZL := Lib.hid hzl
      rw [← hzl] at hz ⊢
      have h14 := fun (A4 : Option Addr) W (hW : Below w.heap.size w W) (h1 : Kd.C k25 W A3 zs.length zs) (h2 : Kd.C (Kd.int .u8) W A4 E.length E) (c4 : Nat) => receive_good A3 c3 zs 0 s A4 c4 E (.slice none 0 0) W h1 h2 (by omega) (HT.out.keep hW) ⟨by omega, hgs, by rw [hsl]; rfl⟩
      have hal := addS_len zs (setS s) E
      obtain ⟨an, han⟩ : ∃ an, an = addS zs (setS s) E := ⟨_, rfl⟩
      rw [← han] at hrec hal
      simp only [← han] at h14
      obtain ⟨zs2, f2, e2⟩ := an
      simp only at hrec hal h14
      rw [← hzl] at h14
      have HREC := Lib.hid hrec
      have HAL := Lib.hid hal
      have HREV := Lib.hid h14
      clear h14 han hal
      clear henc hsl hgs hrec hS hB hzl hE hs hd hrd hks
      have h200 : (k : Int) < 200 := by omega
      have hrec2 := HREC.out
      by_cases he : e2 = 0
      · subst he
        rw [if_pos rfl] at hrec2
        have HREC2 := Lib.hid hrec2
        clear hrec2
        cases f2
        · go_wp2_with (first
            | (go_at_call 12; refine HENC.out.mono ?_; rintro e w1 ⟨v, rfl, hv, hb⟩; have hsz := HB.out.size; obtain ⟨A4, c4, rfl⟩ := Kd.R_slice hv; have HV := Lib.hid hv; have HB1 := Lib.hid hb; have HBB1 := Lib.hid (HB.out.trans (hb.mono hsz)); clear hv hb)
            | (go_at_call 14; have hbb := HBB1.out.alloc HBB1.out.size (.cells #[.int .i64 0, .int .i64 s, .slice A4 E.length c4, .slice none 0 0] 26); have hb0 := (Below.refl w1.heap.size w1).alloc (Nat.le_refl _) (.cells #[.int .i64 0, .int .i64 s, .slice A4 E.length c4, .slice none 0 0] 26); refine (HREV.out A4 _ hbb (by rw [HZL.out] at *; exact (Kd.S_reads' (Kd.S_below (Kd.S_below HS.out HB1.out) hb0)).2.2) (Kd.R_reads' (Kd.R_below HV.out hb0)).2.2 c4).mono ?_; rintro e w2 ⟨v2, rfl, hv2, hb2⟩; have HV2 := Lib.hid (Kd.S_lower hv2 hbb.size); have HB2 := Lib.hid (hbb.trans (hb2.mono hbb.size)); clear hv2 hb2 hbb hb0))
          go_roundw
          case rel => exact ⟨k + 1, zs2, n, by omega, by go_num, rfl, by omega, by omega, by have := HAL.out; have := HZL.out; omega, HV2.out, by rw [HREC2.out]; rfl, HB2.out⟩
          case measure => simp [intOf]; omega
        · go_wp2_with (first
            | (go_at_call 12; refine HENC.out.mono ?_; rintro e w1 ⟨v, rfl, hv, hb⟩; have hsz := HB.out.size; obtain ⟨A4, c4, rfl⟩ := Kd.R_slice hv; have HV := Lib.hid hv; have HB1 := Lib.hid hb; have HBB1 := Lib.hid (HB.out.trans (hb.mono hsz)); clear hv hb)
            | (go_at_call 14; have hbb := HBB1.out.alloc HBB1.out.size (.cells #[.int .i64 0, .int .i64 s, .slice A4 E.length c4, .slice none 0 0] 26); have hb0 := (Below.refl w1.heap.size w1).alloc (Nat.le_refl _) (.cells #[.int .i64 0, .int .i64 s, .slice A4 E.length c4, .slice none 0 0] 26); refine (HREV.out A4 _ hbb (by rw [HZL.out] at *; exact (Kd.S_reads' (Kd.S_below (Kd.S_below HS.out HB1.out) hb0)).2.2) (Kd.R_reads' (Kd.R_below HV.out hb0)).2.2 c4).mono ?_; rintro e w2 ⟨v2, rfl, hv2, hb2⟩; have HV2 := Lib.hid (Kd.S_lower hv2 hbb.size); have HB2 := Lib.hid (hbb.trans (hb2.mono hbb.size)); clear hv2 hb2 hbb hb0))
          go_roundw
          case rel => exact ⟨k + 1, zs2, n + 1, by omega, by go_num, rfl, by omega, by omega, by have := HAL.out; have := HZL.out; omega, HV2.out, by rw [HREC2.out]; rfl, HB2.out⟩
          case measure => simp [intOf]; omega
      · rw [if_neg he] at hrec2
        have HREC2 := Lib.hid hrec2
        have e1 : (e2 == 0) = false := by simpa using he
        clear hrec2
        go_wp2_with (first
          | (go_at_call 12; refine HENC.out.mono ?_; rintro e w1 ⟨v, rfl, hv, hb⟩; have hsz := HB.out.size; obtain ⟨A4, c4, rfl⟩ := Kd.R_slice hv; have HV := Lib.hid hv; have HB1 := Lib.hid hb; have HBB1 := Lib.hid (HB.out.trans (hb.mono hsz)); clear hv hb)
          | (go_at_call 14; have hbb := HBB1.out.alloc HBB1.out.size (.cells #[.int .i64 0, .int .i64 s, .slice A4 E.length c4, .slice none 0 0] 26); have hb0 := (Below.refl w1.heap.size w1).alloc (Nat.le_refl _) (.cells #[.int .i64 0, .int .i64 s, .slice A4 E.length c4, .slice none 0 0] 26); refine (HREV.out A4 _ hbb (by rw [HZL.out] at *; exact (Kd.S_reads' (Kd.S_below (Kd.S_below HS.out HB1.out) hb0)).2.2) (Kd.R_reads' (Kd.R_below HV.out hb0)).2.2 c4).mono ?_; rintro e w2 ⟨v2, rfl, hv2, hb2⟩; have HV2 := Lib.hid (Kd.S_lower hv2 hbb.size); have HB2 := Lib.hid (hbb.trans (hb2.mono hbb.size)); clear hv2 hb2 hbb hb0))
        refine bodyPost_ret (by simp [results, Tryd.results24, go_sem]; rfl) rfl ?_
        rw [HREC2.out]
        exact ⟨_, rfl, Kd.S_nil _ _ _ _ _, HB2.out⟩
    · obtain rfl : k = N := by omega
      have hdr : seeds.drop k = [] := List.drop_of_length_le (by rw [← HN.out]; omega)
      rw [hdr] at hrec
      have HREC := Lib.hid hrec
      have HS := Lib.hid hS
      have HB := Lib.hid hB
      clear hrec hS hB
      go_wp2
      refine bodyPost_ret (by simp [results, Tryd.results24, go_sem]; rfl) rfl ?_
      rw [HREC.out]
      exact ⟨_, rfl, HS.out, HB.out⟩
end Go.Proofs.YtknlbeojdmeljaaDoor.H
namespace Go.Proofs.YtknlbeojdmeljaaDoor.H
open Go.RowKit Go.Proofs.YtknlbeojdmeljaaDoorW.PrintWords Go.Proofs.YtknlbeojdmeljaaDoorW.PrintLast Go.Proofs.YtknlbeojdmeljaaDoorW.PrintMore Go.Proofs.YtknlbeojdmeljaaDoor.P
set_option linter.unusedVariables false
set_option linter.unusedSimpArgs false
/-- the example page: block i consists of bytes i -/
def exB : List Int := (List.range 256).map (fun i => ((i / 16 : Nat) : Int))
def up15 : List Int := [0, 1, 2, 3, 4, 5, 6, 7, 8, 9, 10, 11, 12, 13, 14]
def dn16 : List Int := [15, 14, 13, 12, 11, 10, 9, 8, 7, 6, 5, 4, 3, 2, 1, 0]
theorem ex_enc : (foldE exB 8 (fr 16)).1 = List.replicate 16 3 := by kernel_rfl
theorem ex_up : (recL exB up15 [] 0).2 = (15, true) := by kernel_rfl
theorem ex_upP : (pageS (recL exB up15 [] 0).1).2 = false := by kernel_rfl
theorem ex_dn : (recL exB dn16 [] 0).2 = (16, true) := by kernel_rfl
theorem ex_dnP : pageS (recL exB dn16 [] 0).1 = (exB, true) := by kernel_rfl
theorem ex_is : slotmeshlaw34_example.f 300 = some exB := by kernel_rfl
theorem ex_b3 : slotmeshref33_Bytes.f 300 (List.replicate 16 3) (List.replicate 16 3) = some true := by kernel_rfl
theorem ex_bb : slotmeshref33_Bytes.f 300 exB exB = some true := by kernel_rfl
end Go.Proofs.YtknlbeojdmeljaaDoor.H
namespace Go.Proofs.YtknlbeojdmeljaaDoor.L
open Go.RowKit Go.Proofs.YtknlbeojdmeljaaDoorW.PrintWords Go.Proofs.YtknlbeojdmeljaaDoorW.PrintLast Go.Proofs.YtknlbeojdmeljaaDoorW.PrintMore Go.Proofs.YtknlbeojdmeljaaDoor.P Go.Proofs.YtknlbeojdmeljaaDoor.H
set_option linter.unusedVariables false
set_option linter.unusedSimpArgs false
def sumTo (B : List Int) (m : Nat) : Nat → List Int
  | 0 => z16
  | k + 1 => if m.testBit k = true then xorD (sumTo B m k) (blk B k) else sumTo B m k
def sumB (B : List Int) (m : Nat) : List Int := sumTo B m 16
/-- one more equation that is true of the blocks -/
def stepA (B : List Int) (l : Option (List S25)) (m : Int) : Option (List S25) :=
  match l with
  | none => none
  | some l => if m = 0 then some l else if (addS l m (sumB B m.toNat)).2.2 = 0 then some (addS l m (sumB B m.toNat)).1 else none
structure PB (B : List Int) : Prop where
  len : B.length = 256
  rng : ∀ b ∈ B, isB b
theorem xorD_eq (a b : List Int) : ((0 : Nat), xorD a b) = addE (0, a) (0, b) := pair_ext (Nat.xor_self 0).symm rfl
theorem blk_ge {B : List Int} (hB : PB B) {i : Nat} (hi : i < 16) : GE (0, blk B i) :=
  data_ge (blk_len hB.len hi) (fun b hb => hB.rng b (List.mem_of_mem_drop (List.mem_of_mem_take hb)))
theorem sumTo_ge {B : List Int} (hB : PB B) (m : Nat) : ∀ k, k ≤ 16 → GE (0, sumTo B m k)
  | 0, _ => zeroE_ge
  | k + 1, h => by
    have h1 := sumTo_ge hB m k (by omega)
    unfold sumTo
    split
    · rw [xorD_eq]; exact h1.add (blk_ge hB (show k < 16 by omega))
    · exact h1
theorem sumTo_xor {B : List Int} (hB : PB B) (a b : Nat) : ∀ k, k ≤ 16 → ((0 : Nat), sumTo B (a ^^^ b) k) = addE (0, sumTo B a k) (0, sumTo B b k)
  | 0, _ => (addE_zero zeroE_ge).symm
  | k + 1, h => by
    have ih := sumTo_xor hB a b k (by omega)
    have ga := sumTo_ge hB a k (by omega)
    have gb := sumTo_ge hB b k (by omega)
    have gk := blk_ge hB (show k < 16 by omega)
    unfold sumTo
    rw [Nat.testBit_xor]
    cases ha : a.testBit k <;> cases hb : b.testBit k
    · exact ih
    · rw [if_pos (by rfl), if_neg (by simp), if_pos rfl, xorD_eq, ih, xorD_eq, addE_assoc ga gb gk]
    · rw [if_pos (by rfl), if_pos rfl, if_neg (by simp), xorD_eq, ih, xorD_eq, addE_assoc ga gb gk, addE_comm gb gk, ← addE_assoc ga gk gb]
    · rw [if_neg (by simp), if_pos rfl, if_pos rfl, ih, xorD_eq, xorD_eq, addE_four ga gk gb gk, addE_self gk, addE_zero (ga.add gb)]
theorem sumTo_zero (B : List Int) : ∀ k, sumTo B 0 k = z16
  | 0 => rfl
  | k + 1 => by unfold sumTo; rw [if_neg (by simp)]; exact sumTo_zero B k
/-- true equations -/
def TE (B : List Int) (x : Nat × List Int) : Prop := x.1 < 65536 ∧ x.2 = sumB B x.1
theorem TE.ge {B : List Int} (hB : PB B) {x : Nat × List Int} (h : TE B x) : GE x := by
  have := sumTo_ge hB x.1 16 (by omega)
  exact ⟨h.1, by rw [h.2]; exact this.len, by rw [h.2]; exact this.rng⟩
theorem TE.add {B : List Int} (hB : PB B) {x y : Nat × List Int} (hx : TE B x) (hy : TE B y) : TE B (addE x y) := by
  refine ⟨((hx.ge hB).add (hy.ge hB)).m, ?_⟩
  have h := congrArg Prod.snd (sumTo_xor hB x.1 y.1 16 (by omega))
  show xorD x.2 y.2 = sumTo B (x.1 ^^^ y.1) 16
  rw [hx.2, hy.2]
  exact h.symm
theorem TE.mk_ (B : List Int) {m : Nat} (hm : m < 65536) : TE B (m, sumB B m) := ⟨hm, rfl⟩
theorem TE.null {B : List Int} {x : Nat × List Int} (hx : TE B x) (h : x.1 = 0) : x = zeroE := by
  refine pair_ext h ?_
  rw [hx.2, h]
  exact sumTo_zero B 16
/-- rows that are true of the blocks -/
structure TR (B : List Int) (l : List S25) : Prop where
  vp : VP l
  gr : GR l
  tr : ∀ r ∈ l, TE B (rowv r)
theorem TR.nil (B : List Int) : TR B [] := ⟨VP.of_pair (by simp) List.Pairwise.nil, ⟨by simp, by simp⟩, by simp⟩
theorem TR.red {B : List Int} (hB : PB B) {l : List S25} (hg : GR l) (ht : ∀ r ∈ l, TE B (rowv r)) : ∀ {x : Nat × List Int}, TE B x → TE B (redS l x) := by
  induction l with
  | nil => intro x hx; exact hx
  | cons r l ih =>
    intro x hx
    obtain ⟨j, _, hj, _⟩ := hg.lead List.mem_cons_self
    refine ih hg.tail (fun s hs => ht s (List.mem_cons_of_mem _ hs)) (x := stepS x r) ?_
    rw [stepS_eq x r hj]
    split
    · exact hx.add hB (ht r List.mem_cons_self)
    · exact hx
theorem TR.add {B : List Int} (hB : PB B) {l : List S25} (h : TR B l) {m : Nat} (h1 : 1 ≤ m) (h2 : m < 65536) :
    ((redS l (m, sumB B m)).1 = 0 ∧ redS l (m, sumB B m) = zeroE ∧ addS l (m : Int) (sumB B m) = (l, false, 0)) ∨
    ((redS l (m, sumB B m)).1 ≠ 0 ∧ NE l (redS l (m, sumB B m)) ∧ addS l (m : Int) (sumB B m) = (insS (redS l (m, sumB B m)) l, true, 0) ∧ TR B (insS (redS l (m, sumB B m)) l)) := by
  have ht := TR.red hB h.gr h.tr (TE.mk_ B h2)
  have hge := (TE.mk_ B h2).ge hB
  have hv := (validS_iff l).2 h.vp
  have hf : fineB (m : Int) (sumB B m) = true := by
    have : (sumB B m).length = 16 := hge.len
    unfold fineB
    simp [this]
    omega
  have hs : addS l (m : Int) (sumB B m) = if redS l (m, sumB B m) = (0, z16) then (l, false, 0) else if (redS l (m, sumB B m)).1 = 0 then ([], false, 12) else (insS (redS l (m, sumB B m)) l, true, 0) := by
    unfold addS; rw [if_neg (by rw [hv, hf]; simp)]; rfl
  by_cases h0 : (redS l (m, sumB B m)).1 = 0
  · have hz := ht.null h0
    exact .inl ⟨h0, hz, by rw [hs]; exact if_pos hz⟩
  · have hne : NE l (redS l (m, sumB B m)) := ⟨redS_ge h.gr hge, h0, redS_clear h.gr h.vp hge⟩
    obtain ⟨hv2, hg2, _⟩ := insS_ok h.gr h.vp hne
    refine .inr ⟨h0, hne, by rw [hs, if_neg (fun e => h0 (by rw [e])), if_neg h0], hv2, hg2, fun r hr => ?_⟩
    obtain ⟨_, _, h3⟩ := insS_mem h.vp (redS l (m, sumB B m))
    rcases h3 r hr with rfl | ⟨s, hs2, rfl⟩
    · rw [rowE_v]; exact ht
    · rcases mixE_or h.gr hne hs2 with e | e
      · rw [e]; exact (h.tr s hs2).add hB ht
      · rw [e]; exact h.tr s hs2
theorem TR.step {B : List Int} (hB : PB B) {l : List S25} (h : TR B l) {m : Int} (h0 : 0 ≤ m) (h2 : m < 65536) : ∃ l', stepA B (some l) m = some l' ∧ TR B l' := by
  unfold stepA
  by_cases hm : m = 0
  · exact ⟨l, by simp [hm], h⟩
  · obtain ⟨m, rfl⟩ := Int.eq_ofNat_of_zero_le h0
    rcases h.add hB (m := m) (by omega) (by omega) with ⟨_, _, e⟩ | ⟨_, _, e, ht⟩
    · refine ⟨l, ?_, h⟩
      simp only [if_neg hm, Int.toNat_natCast, e]
      rfl
    · refine ⟨_, ?_, ht⟩
      simp only [if_neg hm, Int.toNat_natCast, e]
      rfl
theorem TR.all {B : List Int} (hB : PB B) : ∀ (ms : List Int) {l : List S25}, TR B l → (∀ x ∈ ms, 0 ≤ x ∧ x < 65536) → ∃ l', ms.foldl (stepA B) (some l) = some l' ∧ TR B l'
  | [], l, h, _ => ⟨l, rfl, h⟩
  | m :: ms, l, h, hm => by
    obtain ⟨l1, e1, h1⟩ := h.step hB (m := m) (hm m List.mem_cons_self).1 (hm m List.mem_cons_self).2
    obtain ⟨l2, e2, h2⟩ := TR.all hB ms h1 (fun x hx => hm x (List.mem_cons_of_mem _ hx))
    exact ⟨l2, by rw [List.foldl_cons, e1, e2], h2⟩
theorem xorD_z {B : List Int} (hB : PB B) {d : List Int} (hd : GE (0, d)) {m : Nat} (hm : m < 65536) (h : xorD d (sumB B m) = z16) : d = sumB B m := by
  have h2 : addE (0, d) (0, sumB B m) = zeroE := pair_ext (Nat.xor_self 0) h
  exact congrArg Prod.snd (addE_eq_zero hd (sumTo_ge hB m 16 (by omega)) h2)
/-- what follows from true rows is true -/
theorem TR.sum {B : List Int} (hB : PB B) {l : List S25} (h : TR B l) (m : Nat) (hm : m < 65536) (hf : (sumS l (m : Int)).2 = true) : (sumS l (m : Int)).1 = sumB B m := by
  have hv := (validS_iff l).2 h.vp
  have hs := sumS_eq hv m hm
  rw [hs] at hf ⊢
  by_cases h0 : (redS l (m, z16)).1 = 0
  · rw [if_neg (fun e => e h0)]
    have ht := TR.red hB h.gr h.tr (TE.mk_ B hm)
    have hge := (TE.mk_ B hm).ge hB
    rw [redS_split h.gr m hm hge.len hge.rng] at ht
    have h1 : (addE (redS l (m, z16)) (0, sumB B m)).1 = 0 := by show (redS l (m, z16)).1 ^^^ 0 = 0; rw [h0]; rfl
    have h2 := congrArg Prod.snd (ht.null h1)
    have hg := redS_ge h.gr (mask_ge m hm)
    exact xorD_z hB ⟨by show (0 : Nat) < 65536; omega, hg.len, hg.rng⟩ hm h2
  · rw [if_pos h0] at hf
    cases hf
end Go.Proofs.YtknlbeojdmeljaaDoor.L
namespace Go.Proofs.YtknlbeojdmeljaaDoor.L
open Go.RowKit Go.Proofs.YtknlbeojdmeljaaDoorW.PrintWords Go.Proofs.YtknlbeojdmeljaaDoorW.PrintLast Go.Proofs.YtknlbeojdmeljaaDoorW.PrintMore Go.Proofs.YtknlbeojdmeljaaDoor.P Go.Proofs.YtknlbeojdmeljaaDoor.H
set_option linter.unusedVariables false
set_option linter.unusedSimpArgs false
theorem sumTo_succ (B : List Int) (m k : Nat) : sumTo B m (k + 1) = if m.testBit k = true then xorD (sumTo B m k) (blk B k) else sumTo B m k := rfl
theorem foldE_sum {B : List Int} {m : Nat} (hm : m < 65536) : ∀ k, k ≤ 16 → foldE B m (fr k) = (sumTo B m k, hiS m k)
  | 0, _ => by rw [hiS_zero]; rfl
  | k + 1, h => by
    rw [fr_succ (show k < 16 by omega), foldE_snoc, foldE_sum hm k (by omega)]
    rw [sumTo_succ]
    unfold stepE
    by_cases hb : m.testBit k = true
    · rw [if_pos ((ctz_eq hm (by omega)).2 hb), if_pos hb, hiS_step hb]
    · rw [if_neg (fun h => hb ((ctz_eq hm (by omega)).1 h)), if_neg hb, hiS_same (by simpa using hb)]
theorem sumE_eq (B : List Int) (s : Int) (hs : 0 ≤ s ∧ s ≤ 1000000000) : sumE B s = sumB B (setS s).toNat := by
  have := setS_range s hs.1 hs.2
  exact congrArg Prod.fst (foldE_sum (B := B) (m := (setS s).toNat) (by omega) 16 (Nat.le_refl _))
def Good (l : List Int) : Prop := ∀ s ∈ l, 0 ≤ s ∧ s ≤ 1000000000
theorem Good.ms {l : List Int} (h : Good l) : ∀ x ∈ l.map setS, 0 ≤ x ∧ x < 65536 := by
  intro x hx
  obtain ⟨s, hs, rfl⟩ := List.mem_map.1 hx
  have := setS_range s (h s hs).1 (h s hs).2
  omega
theorem setN (s : Int) (hs : 0 ≤ s ∧ s ≤ 1000000000) : ∃ m : Nat, setS s = (m : Int) ∧ 1 ≤ m ∧ m < 65536 := by
  have := setS_range s hs.1 hs.2
  exact ⟨(setS s).toNat, by omega, by omega, by omega⟩
theorem enough {l : List S25} {B : List Int} (hB : PB B) (h : TR B l) (h16 : l.length = 16) {m : Nat} (h1 : 1 ≤ m) (h2 : m < 65536) : redS l (m, sumB B m) = zeroE ∧ addS l (m : Int) (sumB B m) = (l, false, 0) := by
  rcases h.add hB h1 h2 with ⟨_, e, e2⟩ | ⟨_, hne, _, ht⟩
  · exact ⟨e, e2⟩
  · have := len16 ht.gr ht.vp
    rw [(insS_ok h.gr h.vp hne).2.2] at this
    omega
theorem PB.xor {A B : List Int} (hA : PB A) (hB : PB B) : PB (xorD A B) := by
  refine ⟨by simp [xorD, hA.len, hB.len], fun b hb => ?_⟩
  unfold xorD at hb
  obtain ⟨i, hi, rfl⟩ := List.getElem_of_mem hb
  simp only [List.length_zipWith] at hi
  rw [List.getElem_zipWith]
  have a := hA.rng _ (List.getElem_mem (show i < A.length by omega))
  have b := hB.rng _ (List.getElem_mem (show i < B.length by omega))
  exact xorB_isB a b
theorem blk_xor (A B : List Int) (i : Nat) : blk (xorD A B) i = xorD (blk A i) (blk B i) := by
  unfold blk xorD
  rw [List.drop_zipWith, List.take_zipWith]
theorem sumTo_pages {A B : List Int} (hA : PB A) (hB : PB B) (m : Nat) : ∀ k, k ≤ 16 → ((0 : Nat), sumTo (xorD A B) m k) = addE (0, sumTo A m k) (0, sumTo B m k)
  | 0, _ => (addE_zero zeroE_ge).symm
  | k + 1, h => by
    have ih := sumTo_pages hA hB m k (by omega)
    rw [sumTo_succ, sumTo_succ, sumTo_succ]
    split
    · rw [xorD_eq, ih, blk_xor, xorD_eq, xorD_eq, xorD_eq]
      exact addE_four (sumTo_ge hA m k (by omega)) (sumTo_ge hB m k (by omega)) (blk_ge hA (by omega)) (blk_ge hB (by omega))
    · exact ih
theorem sum_pages {A B : List Int} (hA : PB A) (hB : PB B) (m : Nat) : sumB (xorD A B) m = xorD (sumB A m) (sumB B m) :=
  congrArg Prod.snd (sumTo_pages hA hB m 16 (Nat.le_refl _))
end Go.Proofs.YtknlbeojdmeljaaDoor.L
