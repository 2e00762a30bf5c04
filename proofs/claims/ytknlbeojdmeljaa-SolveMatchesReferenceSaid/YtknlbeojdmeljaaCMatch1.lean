-- cut by shake.py (own program) out of this session's texts
import Derived.Test.YtknlbeojdmeljaaCMatch0
namespace Go.Proofs.Ytknlbeojdmeljaa.H
open Go.RowKit Go.Proofs.YtknlbeojdmeljaaW.PrintWords Go.Proofs.YtknlbeojdmeljaaW.PrintLast Go.Proofs.YtknlbeojdmeljaaW.PrintMore Go.Proofs.Ytknlbeojdmeljaa.P
set_option linter.unusedVariables false
set_option linter.unusedSimpArgs false
def mixE (e : Nat × List Int) (r : S25) : S25 := if r.f0.toNat &&& lead e.1 ≠ 0 then ⟨((r.f0.toNat ^^^ e.1 : Nat) : Int), xorD r.f1 e.2⟩ else r
def rowE (e : Nat × List Int) : S25 := ⟨(e.1 : Int), e.2⟩
def insStep (e : Nat × List Int) (s : List S25 × Bool) (r : S25) : List S25 × Bool :=
  if s.2 = false ∧ lead r.f0.toNat < lead e.1 then (s.1 ++ [rowE e, mixE e r], true) else (s.1 ++ [mixE e r], s.2)
def insL (e : Nat × List Int) (l : List S25) : List S25 × Bool := l.foldl (insStep e) ([], false)
def insS (e : Nat × List Int) (l : List S25) : List S25 := if (insL e l).2 = true then (insL e l).1 else (insL e l).1 ++ [rowE e]
def addS (l : List S25) (m : Int) (d : List Int) : List S25 × Bool × Int :=
  if validS l = false ∨ fineB m d = false then ([], false, 1)
  else if redS l (m.toNat, d) = (0, z16) then (l, false, 0)
  else if (redS l (m.toNat, d)).1 = 0 then ([], false, 12)
  else (insS (redS l (m.toNat, d)) l, true, 0)
theorem all_range_int : ∀ (xs ys : List Int), xs.length = ys.length → ((List.range xs.length).all fun i => xs.getD i 0 == ys.getD i 0) = (xs == ys)
  | [], [], _ => rfl
  | x :: xs, y :: ys, h => by
    have ih := all_range_int xs ys (by simpa using h)
    rw [List.length_cons, List.range_succ_eq_map, List.all_cons, List.all_map]
    simp only [List.getD_cons_zero, Function.comp_def, List.getD_cons_succ, ih]
    simp [List.cons_beq_cons]
  | [], _ :: _, h => by simp at h
  | _ :: _, [], h => by simp at h
theorem equalIn_bys {P : Program} (w : World) (d : Nat) (t e : TypeId) (n : Nat) (ht : P.underlying t = some (.array n e)) (he : P.underlying e = some (.int .u8)) (hsz : ∀ w, (sizeOf e).run P w = .ok 1 w)
    (xs ys : List Int) (hx : xs.length = n) (hy : ys.length = n) :
    (Op.equalIn (d + 2) t (.agg (bys xs).toArray) (.agg (bys ys).toArray)).run P w = .ok (xs == ys) w := by
  rw [← all_range_int xs ys (hx.trans hy.symm), hx, List.range_eq_range', Op.equalIn]
  simp only [Sem.run_bind, run_underlying ht, Result.andThen_ok, hsz, Std.Legacy.Range.forIn_eq_forIn_range', Std.Legacy.Range.size, Nat.sub_zero, Nat.add_sub_cancel, Nat.div_one]
  have hl : ∀ i ∈ List.range' 0 n 1, i < n := fun i hi => by simpa using (List.mem_range'_1.1 hi).2
  generalize List.range' 0 n 1 = l at hl ⊢
  induction l with
  | nil => simp
  | cons i l ih =>
    have hi : i < n := hl i (by simp)
    have px : (part e (bys xs).toArray (i * 1)).run P w = .ok (.int .u8 (xs.getD i 0)) w := by
      simp [bys, part, isAgg, run_underlying he, List.getD, List.getElem?_eq_getElem (show i < xs.length by omega)]
    have py : (part e (bys ys).toArray (i * 1)).run P w = .ok (.int .u8 (ys.getD i 0)) w := by
      simp [bys, part, isAgg, run_underlying he, List.getD, List.getElem?_eq_getElem (show i < ys.length by omega)]
    have pe : (Op.equalIn (d + 1) e (.int .u8 (xs.getD i 0)) (.int .u8 (ys.getD i 0))).run P w = .ok (xs.getD i 0 == ys.getD i 0) w := by
      rw [run_equalIn_int w d e .u8 .u8 _ _ he]
    simp only [List.forIn_cons, Sem.run_bind, px, py, pe, Result.andThen_ok, List.all_cons]
    cases hb : (xs.getD i 0 == ys.getD i 0)
    · simp
    · simp only [Bool.not_true, Bool.false_eq_true, if_false, Sem.run_pure, Result.andThen_ok, Bool.true_and]
      exact ih fun j hj => hl j (by simp [hj])
theorem part53 (m a0 a1 a2 a3 a4 a5 a6 a7 a8 a9 a10 a11 a12 a13 a14 a15 : Int) (w : World) : (part 51 #[.int .i64 m, .int .u8 a0, .int .u8 a1, .int .u8 a2, .int .u8 a3, .int .u8 a4, .int .u8 a5, .int .u8 a6, .int .u8 a7, .int .u8 a8, .int .u8 a9, .int .u8 a10, .int .u8 a11, .int .u8 a12, .int .u8 a13, .int .u8 a14, .int .u8 a15] 1).run Try.prog w = .ok (.agg #[.int .u8 a0, .int .u8 a1, .int .u8 a2, .int .u8 a3, .int .u8 a4, .int .u8 a5, .int .u8 a6, .int .u8 a7, .int .u8 a8, .int .u8 a9, .int .u8 a10, .int .u8 a11, .int .u8 a12, .int .u8 a13, .int .u8 a14, .int .u8 a15]) w := by
  kernel_rfl
theorem part53b (m : Int) (d : List Int) (hd : d.length = 16) (w : World) : (part 51 (.int .i64 m :: bys d).toArray 1).run Try.prog w = .ok (.agg (bys d).toArray) w := by
  match d, hd with
  | [a0, a1, a2, a3, a4, a5, a6, a7, a8, a9, a10, a11, a12, a13, a14, a15], _ => exact part53 m a0 a1 a2 a3 a4 a5 a6 a7 a8 a9 a10 a11 a12 a13 a14 a15 w
theorem part53a (m : Int) (d : List Int) (w : World) : (part 3 (.int .i64 m :: bys d).toArray 0).run Try.prog w = .ok (.int .i64 m) w := by
  simp [part, isAgg, run_underlying Try.underlying3]
theorem size5 (w : World) : (sizeOf 5).run Try.prog w = .ok 1 w := by kernel_rfl
theorem eq53 (m : Int) (d : List Int) (hd : d.length = 16) (w : World) : (Go.binOp .eql 53 (.agg (.int .i64 m :: bys d).toArray) (.agg (.int .i64 0 :: bys z16).toArray)).run Try.prog w = .ok (.bool (m == 0 && d == z16)) w := by
  rw [run_eql_struct, eqA_of (d := 9999) Try.underlying53 (by kernel_rfl) (eqf_cons rfl (part53a m d w) (part53a 0 z16 w) (run_equalIn_int w 9998 3 .i64 .i64 _ _ Try.underlying3) (eqf_last rfl (part53b m d hd w) (part53b 0 z16 rfl w) (equalIn_bys w 9997 51 5 16 Try.underlying51 Try.underlying5 size5 d z16 hd rfl)))]
  rfl
def OutC (base g : Nat) (xs : List S25) (W : World) : Prop := ∃ v, Boxed W g 22 v ∧ Kd.S k25 25 W base (fun _ => True) v xs
theorem S_keepc {A B : World} {row : Option Nat} {base : Nat} {v : Value} {xs : List S25} (h : Kd.S k25 25 A base (fun _ => True) v xs) (hg : A.grownBy B row)
    (hr : ∀ r, row = some r → ∃ o : Obj, A.heap[r]? = some o ∧ o.isCells = false) : Kd.S k25 25 B base (fun _ => True) v xs :=
  Kd.S_mono (Kd.S_grown (Kd.S_bound h) hg (fun k hk e => by
    obtain ⟨o, ho, hc⟩ := hr k e.symm
    obtain ⟨_, _, _, q, _, cells, hcell⟩ := hk
    rw [hcell] at ho
    cases ho
    cases hc)) (fun _ _ => trivial)
theorem outC_round {A B : World} {row : Option Nat} {base g b : Nat} {xs : List S25} (h : OutC base g xs A) (hg : A.grownBy B row)
    (hr : ∀ r, row = some r → b ≤ r ∧ ∃ o : Obj, A.heap[r]? = some o ∧ o.isCells = false) : OutC base g xs B := by
  obtain ⟨v, h1, h2⟩ := h
  exact ⟨v, boxed_keep h1 hg hr, S_keepc h2 hg (fun r e => (hr r e).2)⟩
theorem outC_below {A B : World} {base g : Nat} {xs : List S25} (h : OutC base g xs A) (hb : Below A.heap.size A B) : OutC base g xs B := by
  obtain ⟨v, h1, h2⟩ := h
  exact ⟨v, boxed_block h1 hb, Kd.S_below h2 hb⟩
theorem E25 (q : Nat) (h : q ∈ 25 :: k25.E) : q = 25 ∨ q = 5 := by
  have : k25.E = [5] := rfl
  rw [this] at h
  simpa using h
/-- one block, of no type of the rows, was written -/
theorem outC_write {A B : World} {base g b t : Nat} {cells : Array Value} {xs : List S25} (h : OutC base g xs A) (hb : A.heap[b]? = some (.cells cells t (0, 0))) (h25 : t ≠ 25) (h5 : t ≠ 5) (hgb : g ≠ b)
    (hk : ∀ k, k ≠ b → B.heap[k]? = A.heap[k]?) : OutC base g xs B := by
  obtain ⟨v, h1, h2⟩ := h
  refine ⟨v, (hk g hgb).trans h1, Kd.S_mono (Kd.S_step (Kd.S_types h2 hb (fun q hq e => ?_)) (fun k hk' _ => hk k hk'.2)) (fun _ _ => trivial)⟩
  rcases E25 q hq with rfl | rfl
  · exact h25 e.symm
  · exact h5 e.symm
theorem S_own {A : World} {base g : Nat} {v u : Value} {xs : List S25} (h : Kd.S k25 25 A base (fun _ => True) v xs) (hb : Boxed A g 22 u) (z : Value) : Kd.S k25 25 (A.setCell ⟨g, 0, none⟩ z) base (fun _ => True) v xs :=
  Kd.S_set h hb (fun q hq e => by rcases E25 q hq with rfl | rfl <;> cases e) 0 z
section
variable {P : Program} {ops : Array Oper} {o : Oper} {a : Act} {Q : Exit → Act → World → Prop} {Kc : Act → World → Prop}
theorem app_step (hw : Region.wanted o (yielded ops a.tmps) = true) (s x : Operand) (ho : o.op = .call { callee := .builtin .append, args := #[s, x], argTypes := #[22, 22] })
    (w0 W : World) (base : Nat) (v : Value) (xs : List S25) (m : Int) (d : List Int) (gr : Nat) (hs : a.eval s = v) (hx : a.eval x = .slice (some ⟨W.heap.size, 0, none⟩) 1 1)
    (HS : Kd.S k25 25 W base (fun k => k ≠ gr) v xs) (hgr : W.heap[gr]? = some (.cells (bys d).toArray 5 (0, 0))) (hb : base ≤ gr) (hd : d.length = 16) (HB : Below base w0 W) (hbase : base ≤ W.heap.size) (hl : xs.length ≤ 2147483648)
    (h : ∀ (v1 : Value) (w1 : World), Kd.S k25 25 w1 base (fun _ => True) v1 (xs ++ [⟨m, d⟩]) → Below base w0 w1 → W.heap.size ≤ w1.heap.size → (∀ (k : Nat) (ob : Obj), W.heap[k]? = some ob → (∀ cs, ob ≠ Obj.cells cs 25 (0, 0)) → w1.heap[k]? = some ob) → Kc (a.put o.dst v1) w1) :
    if Region.wanted o (yielded ops a.tmps) = true then Oper.wp Try.prog o a (W.alloc (.cells #[.int .i64 m, .slice (some ⟨gr, 0, none⟩) 16 16] 25)) Kc Q else Kc (a.put o.dst undef) (W.alloc (.cells #[.int .i64 m, .slice (some ⟨gr, 0, none⟩) 16 16] 25)) := by
  refine Kd.S_append_step (w0 := w0) k25 base hw s x 22 25 (.agg #[(.int .i64 0), (.slice none 0 0)]) 32 ho Try.underlying22 info25 rfl (by decide) (by decide) v xs ⟨m, d⟩ [.int .i64 m, .slice (some ⟨gr, 0, none⟩) 16 16] (fun _ => True) (fun k => k = gr) hs hx ?_ ?_ (fun _ _ => trivial) ?_ HB hbase (by omega) ?_
  · exact k25_mkM W base _ ⟨m, d⟩ (row_R base _ hd hb rfl hgr)
  · rintro k rfl
    exact ⟨trivial, fun e => (Kd.S_R HS).1 k e.symm rfl⟩
  · exact Kd.S_mono HS (fun k hk => ⟨trivial, hk⟩)
  · intro v1 w1 h1 h2 h3 h4
    refine h v1 w1 h1 h2 h3.size (fun k ob hk hn => ?_)
    have hlt := (Array.getElem?_eq_some_iff.1 hk).1
    rw [h3.block k hlt (fun e => ?_)]
    · exact hk
    · obtain ⟨cells, hc⟩ := Kd.S_typed HS k e.symm
      rw [hk] at hc
      cases hc
      exact hn _ rfl
theorem run_bs (m : Int) (gr : Nat) (w : World) : (Instr.buildSlice 22 1 #[(0, .agg #[.int .i64 m, .slice (some ⟨gr, 0, none⟩) 16 16])]).run Try.prog w = .ok (.slice (some ⟨w.heap.size, 0, none⟩) 1 1) (w.alloc (.cells #[.int .i64 m, .slice (some ⟨gr, 0, none⟩) 16 16] 25)) := by
  kernel_rfl
theorem exec_bs {t : TypeId} {n : Nat} {parts : Array (Nat × Operand)} {vs : Array (Nat × Value)} {v : Value} {w w1 : World} (ho : o.op = .buildSlice t n parts) (hp : parts.map (fun p => (p.1, a.eval p.2)) = vs)
    (hrun : (Instr.buildSlice t n vs).run P w = .ok v w1) : (execOp a.eval o).run P w = .ok (.value v) w1 := by
  subst hp
  unfold execOp
  simp only [ho, Sem.run_bind]
  have : (Instr.buildSlice t n (parts.map fun x => match x with | (i, x) => (i, a.eval x))).run P w = .ok v w1 := hrun
  rw [this]
  rfl
theorem run_st22 (g : Nat) (v : Value) (W : World) (A : Option Addr) (n c : Nat) (hb : Boxed W g 22 v) : (Instr.storeAt 22 (.pointer (some ⟨g, 0, none⟩)) (.slice A n c)).run Try.prog W = .ok () (W.setCell ⟨g, 0, none⟩ (.slice A n c)) := by
  have h1 := hb.cell
  have h2 := hb.frozen
  have hu := Try.underlying22
  simp [go_sem, h1, h2, hu]
theorem run_st4 (g : Nat) (v : Value) (W : World) (b : Bool) (hb : Boxed W g 4 v) : (Instr.storeAt 4 (.pointer (some ⟨g, 0, none⟩)) (.bool b)).run Try.prog W = .ok () (W.setCell ⟨g, 0, none⟩ (.bool b)) := by
  have h1 := hb.cell
  have h2 := hb.frozen
  have hu := Try.underlying4
  simp [go_sem, h1, h2, hu]
theorem store_step {W w1 : World} {ty : TypeId} {x y : Operand} {u v : Value} (hw : Region.wanted o (yielded ops a.tmps) = true) (hN : o.dst = none) (ho : o.op = .store ty x y) (hx : a.eval x = u) (hy : a.eval y = v)
    (hrun : (Instr.storeAt ty u v).run P W = .ok () w1) (h : Kc a w1) : if Region.wanted o (yielded ops a.tmps) = true then Oper.wp P o a W Kc Q else Kc (a.put o.dst undef) W := by
  subst hx
  subst hy
  have hr : (execOp a.eval o).run P W = .ok .skip w1 := by
    unfold execOp
    simp only [ho, Sem.run_bind]
    rw [hrun]
    rfl
  rw [if_pos hw]
  unfold Oper.wp
  rw [hr]
  show Kc (a.put o.dst undef) w1
  rw [hN]
  exact h
end
end Go.Proofs.Ytknlbeojdmeljaa.H
namespace Go.Proofs.Ytknlbeojdmeljaa.H
open Go.RowKit Go.Proofs.YtknlbeojdmeljaaW.PrintWords Go.Proofs.YtknlbeojdmeljaaW.PrintLast Go.Proofs.YtknlbeojdmeljaaW.PrintMore Go.Proofs.Ytknlbeojdmeljaa.P
set_option linter.unusedVariables false
set_option linter.unusedSimpArgs false
theorem keeps_app {w w1 : World} (h3 : w.heap.size ≤ w1.heap.size) (h4 : ∀ (k : Nat) (ob : Obj), w.heap[k]? = some ob → (∀ cs, ob ≠ Obj.cells cs 25 (0, 0)) → w1.heap[k]? = some ob) (B : Nat) : KeepsFrom B w w1 :=
  ⟨h3, fun k o _ ho hc => h4 k o ho (by rintro cs rfl; cases hc)⟩
theorem rowE_m (x : FRow) : (⟨(x.m : Int), x.1.f1⟩ : S25) = x.1 := by
  obtain ⟨⟨a, b⟩, h⟩ := x
  have := FRow.m_eq ⟨⟨a, b⟩, h⟩
  simp only at this
  rw [← this]
theorem insL_len (e : Nat × List Int) (p : List S25) : (insL e p).1.length ≤ 2 * p.length := by
  have key : ∀ (q : List S25) (s : List S25 × Bool), (q.foldl (insStep e) s).1.length ≤ s.1.length + 2 * q.length := by
    intro q
    induction q with
    | nil => intro s; simp
    | cons r q ih =>
      intro s
      have h1 : (insStep e s r).1.length ≤ s.1.length + 2 := by
        unfold insStep
        split <;> simp
      have h2 := ih (insStep e s r)
      simp only [List.foldl_cons, List.length_cons]
      omega
  have := key p ([], false)
  simpa [insL] using this
theorem add_fin {w U : World} {D : Nat} {v : Value} {xs : List S25} (hS : Kd.S k25 25 U w.heap.size (fun _ => True) v xs) (hK : U.heap[D]? = some (.deferred (some []))) (hD : w.heap.size ≤ D) (hB : Below w.heap.size w U) :
    ∃ u, Ending.returned (.tuple #[v, .bool (xs, true, (0 : Int)).2.1, .int .i64 (xs, true, (0 : Int)).2.2]) = .returned (.tuple #[u, .bool (xs, true, (0 : Int)).2.1, .int .i64 (xs, true, (0 : Int)).2.2]) ∧ Kd.S k25 25 (U.putObj D (.deferred none)) w.heap.size (fun _ => True) u (xs, true, (0 : Int)).1 ∧ Below w.heap.size w (U.putObj D (.deferred none)) := by
  refine ⟨_, rfl, Kd.S_mono (Kd.S_step (Kd.S_bound hS) (fun k hk _ => World.putObj_heap_other (fun e => ?_))) (fun _ _ => trivial), hB.trans (belowK_b (w := w) (Nat.le_refl _) U D _ (.deferred none) hD hK rfl rfl)⟩
  obtain ⟨_, _, _, q, _, cells, hc⟩ := hk
  subst e
  rw [hc] at hK
  cases hK
theorem eqg53 (x y : Operand) (xs ys : Array Value) (w : World) : (eqGuard .eql 53 x y (.agg xs) (.agg ys)).run Try.prog w = .ok () w := by
  kernel_rfl
theorem exec_eql53 {a : Act} {o : Oper} {x y : Operand} {s : TypeId} {m : Int} {d : List Int} {w : World} (ho : o.op = .binOp .eql 53 x y s) (hx : a.eval x = .agg (.int .i64 m :: bys d).toArray) (hy : a.eval y = .agg (.int .i64 0 :: bys z16).toArray) (hd : d.length = 16) {b : Bool} (hb : (m == 0 && d == z16) = b) :
    (execOp a.eval o).run Try.prog w = .ok (.value (.bool b)) w := by
  subst hb
  unfold execOp
  simp only [ho, Sem.run_bind]
  rw [hx, hy, eqg53]
  simp only [Result.andThen]
  rw [eq53 m d hd w]
  rfl
set_option maxRecDepth 100000 in
set_option maxHeartbeats 1000000 in
theorem add_calls (A : Option Addr) (cap : Nat) (zs : List S25) (m : Int) (A1 : Option Addr) (c1 : Nat) (ds : List Int) (w : World) (hr : Kd.C k25 w A zs.length zs) (hx : Kd.C (Kd.int .u8) w A1 ds.length ds) (hlen : zs.length ≤ 1000000) :
    Calls Try.prog 12 #[.slice A zs.length cap, .agg #[.int .i64 m, .slice A1 ds.length c1]] w fun e w' => ∃ v, e = .returned (.tuple #[v, .bool (addS zs m ds).2.1, .int .i64 (addS zs m ds).2.2]) ∧ Kd.S k25 25 w' w.heap.size (fun _ => True) v (addS zs m ds).1 ∧ Below w.heap.size w w' := by
  have out : ∀ (w' : World), Below w.heap.size w w' → (validS zs = false ∨ fineB m ds = false) → ∃ v, Ending.returned (.tuple #[.slice none 0 0, .bool false, .int .i64 1]) = .returned (.tuple #[v, .bool (addS zs m ds).2.1, .int .i64 (addS zs m ds).2.2]) ∧ Kd.S k25 25 w' w.heap.size (fun _ => True) v (addS zs m ds).1 ∧ Below w.heap.size w w' := by
    intro w' hb h
    have : addS zs m ds = ([], false, 1) := if_pos h
    rw [this]
    exact ⟨_, rfl, Kd.S_nil _ _ _ _ _, hb⟩
  have OUT := Lib.hid out
  have hba : ∀ o : Obj, Below w.heap.size w (w.alloc o) := fun o => (Below.refl _ _).alloc (Nat.le_refl _) _
  have HBA := Lib.hid hba
  have hl17 : (Value.int .i64 m :: bys (pad16 ds)).length = 17 := by rw [List.length_cons, bys_len, pad16_len]
  have HL := Lib.hid hl17
  have hone := eq_one m (pad16 ds)
  have HX := Lib.hid hx
  have HR := Lib.hid hr
  clear out hba hl17 hx hr
  refine (callsIn_wide (n := 3)).1 (callsIn_of_wp_marks Try.func12 rfl trivial (wpIn_wide.2 ?_) rfl)
  simp only [Try.ntmps12, List.size_toArray, List.length_cons, List.length_nil, Nat.reduceAdd, Nat.reduceSub, Array.replicate_succ, Array.replicate_zero, List.push_toArray, List.append_toArray, List.nil_append, List.cons_append]
  have hu25 := Try.underlying25
  by_cases hbad : validS zs = false ∨ fineB m ds = false
  · have HBAD := Lib.hid hbad
    have hcond : (!(validS zs) || !(fineB m ds)) = true := by rcases hbad with h | h <;> simp [h]
    cases hv : validS zs <;> cases hf : fineB m ds <;> simp only [hv, hf] at hcond
    all_goals clear hbad
    rotate_right
    · cases hcond
    all_goals
      go_wp2_with (first
        | (go_at_call 28; refine (formed_calls m A1 c1 ds _ (Kd.C_below HX.out (HBA.out _))).mono ?_; rintro e w1 ⟨rfl, hb1⟩; have HB1 := Lib.hid hb1; clear hb1)
        | (refine wpList_store_row rfl 53 _ _ rfl _ (.int .i64 m :: bys (pad16 ds)) _ 53 rfl rfl (blk_new rfl) (by rw [HL.out]; rfl) (by rw [HL.out]; exact size53) hone ?_; intro w2 g1 g2 g3 g4; have hb2 := (HBA.out (.cells #[.int .i64 m, .slice A1 ds.length c1] 25)).trans (HB1.out.mono (HBA.out _).size); have HB2 := Lib.hid (g4 _ _ hb2.size (hb2.alloc hb2.size _)); clear g1 g2 g3 g4 hb2)
        | (go_at_call 20; refine (valid_calls A cap zs _ (Kd.C_below HR.out HB2.out)).mono ?_; rintro e w3 ⟨rfl, hb3⟩; have HB3 := Lib.hid hb3; clear hb3; rw [hv]))
      exact ⟨.tuple #[.slice none 0 0, .bool false, .int .i64 1], by simp [results, Try.results12, go_sem], OUT.out _ (HB2.out.trans (HB3.out.mono HB2.out.size)) HBAD.out⟩
  have hv : validS zs = true := by
    cases h : validS zs
    · exact absurd (.inl h) hbad
    · rfl
  have hf : fineB m ds = true := by
    cases h : fineB m ds
    · exact absurd (.inr h) hbad
    · rfl
  have hsp := FRow.spec ⟨⟨m, ds⟩, hf⟩
  simp only at hsp
  obtain ⟨mn, hmn⟩ := Int.eq_ofNat_of_zero_le (show 0 ≤ m by omega)
  subst hmn
  have hmn16 : mn < 65536 := by omega
  have hd16 := hsp.2.2
  rw [pad16_of _ hd16] at hone HL
  have hok := redS_ok hv (mn, ds) ⟨hmn16, hd16⟩
  have hs : addS zs (mn : Int) ds = if redS zs (mn, ds) = (0, z16) then (zs, false, 0) else if (redS zs (mn, ds)).1 = 0 then ([], false, 12) else (insS (redS zs (mn, ds)) zs, true, 0) := by
    unfold addS; rw [if_neg hbad]; rfl
  have hred := fun w' (h : Below w.heap.size w w') => reduce_calls' A cap zs hv mn hmn16 ds hd16 w' (Kd.C_below HR.out h)
  obtain ⟨fz, hfz⟩ := valid_fz hv
  have hfl : fz.length = zs.length := by rw [← hfz, List.length_map]
  generalize hq : redS zs (mn, ds) = q at hok hs hred
  obtain ⟨mp, dp⟩ := q
  obtain ⟨hmp, hdp⟩ := hok
  simp only at hmp hdp hs hred
  have hl17 : (Value.int .i64 (mp : Int) :: bys dp).length = 17 := by rw [List.length_cons, bys_len, hdp]
  have hone2 := eq_one (mp : Int) dp
  have HL2 := Lib.hid hl17
  have HS := Lib.hid hs
  have HDP := Lib.hid hdp
  have HRED := Lib.hid hred
  have HFZ := Lib.hid hfz
  have HFL := Lib.hid hfl
  have HD16 := Lib.hid hd16
  have HV := Lib.hid hv
  have hp16 : pad16 ds = ds := pad16_of _ hd16
  have HP16 := Lib.hid hp16
  clear hl17 hq hs hdp hred hsp hbad hfz hfl hd16 hp16 hmn16
  obtain ⟨bz, hbz⟩ : ∃ b, ((mp : Int) == 0 && dp == z16) = b := ⟨_, rfl⟩
  obtain ⟨b0, hb0⟩ : ∃ b, ((mp : Int) == 0) = b := ⟨_, rfl⟩
  have hcs : (bz = true ↔ (mp = 0 ∧ dp = z16)) ∧ (b0 = true ↔ mp = 0) := by
    rw [← hbz, ← hb0]; simp
  have HCS := Lib.hid hcs
  have HBZ := Lib.hid hbz
  clear hcs hbz
  cases bz
  rotate_left
  · -- the same rows again
    have hans : addS zs (mn : Int) ds = (zs, false, 0) := by
      have := HCS.out.1.1 rfl
      rw [HS.out, if_pos (by rw [this.1, this.2])]
    have HANS := Lib.hid hans
    clear hans
    go_wp2_with (first
      | (go_at_call 28; refine (formed_calls (mn : Int) A1 c1 ds _ (Kd.C_below HX.out (HBA.out _))).mono ?_; rw [HP16.out, hf]; rintro e w1 ⟨rfl, hb1⟩; have HB1 := Lib.hid hb1; clear hb1)
      | (refine wpList_store_row rfl 53 _ _ rfl _ (.int .i64 (mn : Int) :: bys ds) _ 53 rfl rfl (blk_new rfl) (by rw [HL.out]; rfl) (by rw [HL.out]; exact size53) hone ?_; intro w2 g1 g2 g3 g4; have hb2 := (HBA.out (.cells #[.int .i64 (mn : Int), .slice A1 ds.length c1] 25)).trans (HB1.out.mono (HBA.out _).size); have HB2 := Lib.hid (g4 _ _ hb2.size (hb2.alloc hb2.size _)); have hg7 := hb2.size; have hs2 : w2.heap.size = w1.heap.size + 1 := (by rw [g3]; simp); clear g2 g3 g4 hb2)
      | (go_at_call 30; refine (equations_calls _ _ _ _).mono ?_; rintro e w' ⟨rfl, rfl⟩)
      | (go_at_call 20; refine (valid_calls A cap zs _ (Kd.C_below HR.out HB2.out)).mono ?_; rw [HV.out]; rintro e w3 ⟨rfl, hb3⟩; have HB3 := Lib.hid hb3; have g1' := (hb3.block _ (Array.getElem?_eq_some_iff.1 g1).1).trans g1; clear hb3)
      | (refine wpList_load_row rfl 53 _ rfl w1.heap.size rfl 53 _ (0, 0) _ g1' Try.underlying53 rfl (by simp only [List.size_toArray]; rw [HL.out]; exact size53) ?_)
      | (go_at_call 29; refine (HRED.out _ (HB2.out.trans (HB3.out.mono HB2.out.size))).mono ?_; rintro e w4 ⟨rfl, hb4⟩; have HB4 := Lib.hid hb4; have g1'' := (hb4.block _ (Array.getElem?_eq_some_iff.1 g1').1).trans g1'; clear hb4)
      | (refine wpList_store_row rfl 53 _ _ rfl w1.heap.size (.int .i64 (mp : Int) :: bys dp) _ 53 rfl rfl g1'' (by rw [HL2.out, List.size_toArray, HL.out]) (by rw [HL2.out]; exact size53) hone2 ?_; intro w5 p1 p2 p3 p4; have hb3 := HB2.out.trans (HB3.out.mono HB2.out.size); have hb4 := hb3.trans (HB4.out.mono hb3.size); have HB5 := Lib.hid (p4 _ _ hg7 hb4); have hsz5 := p3; have c0 : w5.cell? ⟨w1.heap.size, 0, none⟩ = some (.int .i64 (mp : Int)) := (cell_of_row w5 _ 0 _ 53 (0, 0) p1).trans (by simp); clear p2 p3 p4 hb3 hb4)
      | (refine wpList_load_row rfl 53 _ rfl w1.heap.size rfl 53 _ (0, 0) _ p1 Try.underlying53 rfl (by simp only [List.size_toArray]; rw [HL2.out]; exact size53) ?_)
      | (refine Kd.event_run rfl (exec_eql53 (x := .tmp 30) (y := .tmp 31) (m := (mp : Int)) (d := dp) rfl rfl (by rw [zrow]; rfl) HDP.out HBZ.out) ?_))
    have hg9 : w.heap.size ≤ w4.heap.size := by have := HB5.out.size; omega
    have sz0 : ((w5.alloc (.cells #[.slice none 0 0] 22)).alloc (.cells #[.slice A zs.length cap] 22)).heap.size = w4.heap.size + 1 + 1 := by simp [hsz5]
    have bO : Boxed ((w5.alloc (.cells #[.slice none 0 0] 22)).alloc (.cells #[.slice A zs.length cap] 22)) w4.heap.size 22 (.slice none 0 0) := by
      have := (Boxed.new w5 22 (.slice none 0 0)).alloc (.cells #[.slice A zs.length cap] 22)
      rwa [hsz5] at this
    have b5 : ((w5.alloc (.cells #[.slice none 0 0] 22)).alloc (.cells #[.slice A zs.length cap] 22)).heap[w4.heap.size + 1]? = some (.cells #[.slice A zs.length cap] 22 (0, 0)) := blk_new (by simp [hsz5])
    have hB0 : Below w.heap.size w ((w5.alloc (.cells #[.slice none 0 0] 22)).alloc (.cells #[.slice A zs.length cap] 22)) := (HB5.out.alloc HB5.out.size _).alloc (by simp; omega) _
    have hO : OutC w.heap.size w4.heap.size [] ((w5.alloc (.cells #[.slice none 0 0] 22)).alloc (.cells #[.slice A zs.length cap] 22)) := ⟨_, bO, Kd.S_nil _ _ _ _ _⟩
    generalize (w5.alloc (.cells #[.slice none 0 0] 22)).alloc (.cells #[.slice A zs.length cap] 22) = W0 at *
    generalize w1.heap.size = g7 at *
    generalize w4.heap.size = g9 at *
    clear bO g1 g1' g1'' p1 c0 HB2 HB3 HB4 HB5 HB1 hs2 hsz5 hg7
    refine (wpIn_wide (n := 3)).1 (wpIn_rangeFunc_ownH (F := Fence.wide) (n := 3) rfl (by omega) (gf := 38) (lb := #[.pointer (some ⟨g9 + 1, 0, none⟩)]) rfl trivial (enters_of Try.func38 (by kernel_rfl) rfl)
      (iter_stops (fun x : FRow => x.1) (3 - 1) (g9 + 1) w.heap.size A cap fz W0 (by omega) (by omega) (by rw [HFL.out]; exact (cell_of_row W0 _ 0 _ 22 (0, 0) b5).trans rfl) (fun W' h => by rw [HFL.out]; rw [show fz.map (fun x : FRow => x.1) = zs from HFZ.out]; exact Kd.C_below HR.out (hB0.trans h))) belowK_t (belowK_b (by omega)) (Below.refl _ _) (fun _ => rfl)
      (fun (pre : List FRow) W => OutC w.heap.size g9 (pre.map Subtype.val) W ∧ Below w.heap.size w W ∧ W0.heap.size ≤ W.heap.size)
      (fun _ _ _ => False)
      (fun s X Y row hs hg hr => by
        obtain ⟨h1, h2, h3⟩ := hs
        exact ⟨outC_round h1 hg hr, h2.grown hg (by have := h2.size; omega) (fun k e => by have := (hr k e).1; omega), Nat.le_trans h3 hg.size⟩)
      (fun _ _ _ _ _ hs _ _ => hs)
      ⟨hO, hB0, Nat.le_refl _⟩
      (fun x a' Z => ∃ Bx, W0.heap.size ≤ Bx ∧ Z.heap[Bx]? = some (.cells (.int .i64 (x.m : Int) :: bys x.1.f1).toArray 53 (0, 0)) ∧ a' = { tmps := #[.slice A zs.length cap, .agg #[.int .i64 (mn : Int), .slice A1 ds.length c1], undef, .pointer (some ⟨w.heap.size, 0, none⟩), .slice none 0 0, .bool false, .int .i64 0, .pointer (some ⟨g7, 0, none⟩), .bool true, .pointer (some ⟨g9, 0, none⟩), .pointer (some ⟨Bx, 0, none⟩), undef, undef, undef, .tuple #[.agg (.int .i64 (mn : Int) :: bys ds).toArray, .bool true], .agg #[.int .i64 (mn : Int), .slice A1 ds.length c1], .tuple #[.agg (.int .i64 (mn : Int) :: bys ds).toArray, .bool true], .agg (.int .i64 (mn : Int) :: bys ds).toArray, .bool true, .slice A zs.length cap, .bool true, .bool false, .bool false, .bool true, .bool false, .bool false, .slice A zs.length cap, .agg (.int .i64 (mn : Int) :: bys ds).toArray, .agg (.int .i64 (mp : Int) :: bys dp).toArray, .bool true, .agg (.int .i64 (mp : Int) :: bys dp).toArray, .agg #[.int .i64 0, .int .u8 0, .int .u8 0, .int .u8 0, .int .u8 0, .int .u8 0, .int .u8 0, .int .u8 0, .int .u8 0, .int .u8 0, .int .u8 0, .int .u8 0, .int .u8 0, .int .u8 0, .int .u8 0, .int .u8 0, .int .u8 0], .bool true, .slice A zs.length cap, .func (.func 38) #[] #[.pointer (some ⟨g9 + 1, 0, none⟩)], .agg (.int .i64 (x.m : Int) :: bys x.1.f1).toArray, .bool true, undef, undef, undef, undef, undef, undef, undef, undef, undef, undef, undef, undef, undef, undef, undef, undef, undef, undef, undef, undef, undef, undef, undef, undef, undef, undef, undef, undef, undef, undef, undef, undef, undef, undef, undef, undef, undef, undef, undef, undef, undef, undef, undef, undef, undef, undef, undef, undef, undef, undef, undef, undef, undef, undef, undef, undef, undef, undef], defers := [] })
      (fun x a' s X Y row hs hg hr => by obtain ⟨Bx, h1, h2, h3⟩ := hs; exact ⟨Bx, h1, keep_block h2 hg hr, h3⟩)
      ?assign ?body ?done ?stop)
    case assign =>
      intro l pre x U K hI hK
      have hsp := x.spec
      have he : encE x.1 = #[.agg (.int .i64 (x.m : Int) :: bys x.1.f1).toArray, .bool true] := by
        unfold encE; rw [pad16_of _ hsp.2.2, x.2, x.m_eq]
      rw [he]
      have hout : ¬ LetsOut (Exit.then K (fun _ _ _ => False)) := fun ⟨_, _, h⟩ => h
      refine plain_in (by rfl) hout ?_
      simp only [List.zip_toArray, List.zip_cons_cons, List.zip_nil_right, List.foldl_toArray, List.foldl_cons, List.foldl_nil, List.setIfInBounds_toArray, List.set_cons_zero, List.set_cons_succ]
      have hl17 : (Value.int .i64 (x.m : Int) :: bys x.1.f1).length = 17 := by rw [List.length_cons, bys_len, hsp.2.2]
      have H17 := Lib.hid hl17
      have hone : ∀ v ∈ Value.int .i64 (x.m : Int) :: bys x.1.f1, v.oneCell' = true := eq_one _ _
      have HK2 := Lib.hid hK
      have HI := Lib.hid hI
      clear hl17 hsp he hK hI
      go_wp2_with (first | (refine wpList_store_row rfl 53 _ _ rfl U.heap.size (.int .i64 (x.m : Int) :: bys x.1.f1) _ 53 rfl rfl (blk_new rfl) (by rw [H17.out]; rfl) (by rw [H17.out]; exact size53) hone ?_; intro w1 g1 g2 g3 g4))
      obtain ⟨i1, i4, i5⟩ := HI.out
      have hwW := i4.size
      have hB1 : Below w.heap.size U w1 := g4 _ _ hwW ((Below.refl _ _).alloc hwW _)
      have hB1' : Below U.heap.size U w1 := g4 _ _ (Nat.le_refl _) ((Below.refl _ _).alloc (Nat.le_refl _) _)
      exact HK2.out _ _ ((keeps_of_below ((Below.refl _ U).alloc (Nat.le_refl _) _) _).trans (keeps_of_cells (blk_new rfl) g2 g3 _)) hB1
        ⟨outC_below i1 hB1', i4.trans hB1, by rw [g3]; simp; omega⟩ ⟨U.heap.size, i5, g1, rfl⟩
    case body =>
      rintro l pre x a' U hl hrec ⟨⟨v, hbv, hSv⟩, hB2, hz2⟩ ⟨Bx, hBx, hx, rfl⟩ hlen2
      have hwW := hB2.size
      have hxs := x.spec
      have hi17 : (Try.prog.info? 53).map (·.size) = some (Value.int .i64 (x.m : Int) :: bys x.1.f1).length := by rw [List.length_cons, bys_len, hxs.2.2]; exact size53
      have cO := hbv.cell
      have HX := Lib.hid hx
      have HXS := Lib.hid hxs
      have HI17 := Lib.hid hi17
      have BV := Lib.hid hbv
      have HSV := Lib.hid hSv
      have HLEN : pre.length < 1000000 := by have := HFL.out; omega
      clear hx hi17 hbv hSv hrec hxs hO b5
      refine wpIn_block ?_
      have hout : ¬ LetsOut (Exit.inBlock 2 (ownPostG W0.heap.size (Below w.heap.size)
        (fun (pre : List FRow) W => OutC w.heap.size g9 (pre.map Subtype.val) W ∧ Below w.heap.size w W ∧ W0.heap.size ≤ W.heap.size)
        (fun _ _ _ => False) (pre ++ [x]) U)) := fun ⟨_, _, h⟩ => h
      refine start_in (m := 6) (S := (fun V => V.cell? ⟨g9, 0, none⟩ = some v ∧ V.heap[Bx]? = some (.cells (.int .i64 (x.m : Int) :: bys x.1.f1).toArray 53 (0, 0)) ∧ Below U.heap.size U V)) (ds := [4, 5]) #[false, false, false, false, false, false] (by kernel_rfl) (by rfl) hout rfl rfl ⟨cO, HX.out, (Below.refl _ _).drew⟩ (fun hHeld => ?_)
      refine take_ (i := 0) (N := some 37) (v := ?_) (a' := ?_) #[true, false, false, false, false, false] rfl rfl (by kernel_rfl) (fun _ _ _ h => h) (Or.inl ⟨by rfl, ?_⟩) hHeld ?_ ?_
      rotate_left
      · rintro w' ⟨s0, s1, s2⟩
        go_simp
        with_reducible rfl
      rotate_left
      · simp only [Act.put, List.setIfInBounds_toArray, List.set_cons_zero, List.set_cons_succ, i64_w, i32_w]
        rfl
      refine take_ (i := 1) (N := some 38) (v := _) (a' := ?_) #[true, true, false, false, false, false] rfl rfl (by kernel_rfl) (fun _ _ _ h => h) (row_if (by rfl) 53 _ rfl Bx rfl (.int .i64 (x.m : Int) :: bys x.1.f1) 53 _ (fun _ hS => hS.2.1) Try.underlying53 rfl HI17.out) hHeld ?_ ?_
      rotate_left
      · simp only [Act.put, List.setIfInBounds_toArray, List.set_cons_zero, List.set_cons_succ, i64_w, i32_w]
        rfl
      refine one_ (i := 2) (N := some 39) #[true, true, true, false, false, false] rfl rfl (by kernel_rfl) (by decide) (fun K hK => ?_)
      refine goes_ Try.func31 (by kernel_rfl) rfl #[.agg (.int .i64 (x.m : Int) :: bys x.1.f1).toArray] (by rfl) rfl rfl (by simp only [List.map_toArray, List.map_cons, List.map_nil]; rfl) ?_
      refine (row_calls (x.m : Int) x.1.f1 HXS.out.2.2 _).mono ?_
      rintro e u ⟨gr, hg1, rfl, hg3, hb⟩
      refine ⟨_, rfl, ?_⟩
      obtain ⟨s0, s1, s2⟩ := hHeld
      have hgrU : U.heap.size ≤ gr := Nat.le_trans s2.size hg1
      have t2 := s2.trans (hb.mono s2.size)
      have HG3 := Lib.hid hg3
      refine hK.out _ _ ⟨(hb.cell (World.block_lt_of_cell? _ _ s0)).trans s0, (hb.block _ (Array.getElem?_eq_some_iff.1 s1).1).trans s1, t2⟩ (fun hHeld => ?_)
      clear hK K s0 s1 s2 t2 hb hg1 hg3
      refine norm_ (a' := ?_) ?_ ?_
      rotate_left
      · show Act.put _ (some 39) _ = _
        simp only [Act.put, List.setIfInBounds_toArray, List.set_cons_zero, List.set_cons_succ, i64_w, i32_w]
        rfl
      refine one_ (i := 3) (N := some 40) #[true, true, true, true, false, false] rfl rfl (by kernel_rfl) (by decide) (fun K hK => ?_)
      obtain ⟨s0, s1, s2⟩ := hHeld
      refine event_step (by rfl) (exec_bs rfl (vs := #[(0, .agg #[.int .i64 (x.m : Int), .slice (some ⟨gr, 0, none⟩) 16 16])]) (by simp only [List.map_toArray, List.map_cons, List.map_nil]; rfl) (run_bs _ gr u)) ?_
      have HU2 := Lib.hid s2
      have ha := (Below.refl u.heap.size u).alloc (Nat.le_refl _) (.cells #[.int .i64 (x.m : Int), .slice (some ⟨gr, 0, none⟩) 16 16] 25)
      refine hK.out _ _ ⟨(ha.cell (World.block_lt_of_cell? _ _ s0)).trans s0, (ha.block _ (Array.getElem?_eq_some_iff.1 s1).1).trans s1, s2.trans (ha.mono s2.size)⟩ (fun hHeld => ?_)
      clear hK K s0 s1 s2 ha
      refine norm_ (a' := ?_) ?_ ?_
      rotate_left
      · show Act.put _ (some 40) _ = _
        simp only [Act.put, List.setIfInBounds_toArray, List.set_cons_zero, List.set_cons_succ, i64_w, i32_w]
        rfl
      refine last_ (i := 4) (N := some 41) #[true, true, true, true, true, false] rfl rfl (by kernel_rfl) (by decide) (fun K hK => ?_)
      have s2 := HU2.out
      have hus := s2.size
      refine app_step (by rfl) (.tmp 37) (.tmp 40) rfl U u w.heap.size v (pre.map Subtype.val) (x.m : Int) x.1.f1 gr rfl rfl (Kd.S_mono (Kd.S_below (Kd.S_bound HSV.out) s2) (fun k hk => by have := hk.2.2.1; omega)) HG3.out (by omega) HXS.out.2.2 (s2.mono hwW) (by omega) (by simp only [List.length_map]; omega) ?_
      intro v1 w1 h1 h2 h3 h4
      obtain ⟨A', c', rfl⟩ := Kd.R_slice (Kd.S_R h1)
      have bv1 : Boxed w1 g9 22 v := h4 _ _ (boxed_block BV.out s2) (fun cs e => by cases e)
      refine hK.out _ _ ?_
      clear hK K
      refine norm_ (a' := ?_) ?_ ?_
      rotate_left
      · show Act.put _ (some 41) _ = _
        simp only [Act.put, List.setIfInBounds_toArray, List.set_cons_zero, List.set_cons_succ, i64_w, i32_w]
        rfl
      refine last_ (i := 5) (N := none) #[true, true, true, true, true, true] rfl rfl (by kernel_rfl) (by decide) (fun K hK => ?_)
      refine store_step (by rfl) rfl rfl rfl rfl (run_st22 g9 v w1 A' _ c' bv1) ?_
      refine hK.out _ _ ?_
      refine done_ (by kernel_rfl) ?_
      have hs2 := HU2.out.size
      have hBf : Below w.heap.size U (w1.setCell ⟨g9, 0, none⟩ (.slice A' (List.map Subtype.val pre ++ [(⟨(x.m : Int), x.1.f1⟩ : S25)]).length c')) := h2.setCell (p := ⟨g9, 0, none⟩) hg9 _
      refine ⟨((keeps_of_below HU2.out _).trans (keeps_app h3 h4 _)).trans (keeps_set bv1 _ _), hBf, ⟨⟨_, bv1.set _, ?_⟩, hB2.trans hBf, ?_⟩⟩
      · have := S_own h1 bv1 (.slice A' (List.map Subtype.val pre ++ [(⟨(x.m : Int), x.1.f1⟩ : S25)]).length c')
        rw [rowE_m] at this
        rw [List.map_append, rowE_m]
        exact this
      · rw [World.size_setCell]; omega
    case done =>
      rintro D xs U hD hxs ⟨⟨v, hbv, hSv⟩, hB2, hz2⟩ hKm
      have hx2 : xs.map Subtype.val = zs := by rw [hxs]; exact HFZ.out
      rw [hx2] at hSv
      have cO := hbv.cell
      have HSV := Lib.hid hSv
      have HKm := Lib.hid hKm
      clear hxs hx2 hSv hbv hKm hO b5
      go_wp2
      have hbk := belowK_b (w := w) (Nat.le_refl _) U D _ (.deferred none) (by omega) HKm.out rfl rfl
      refine ⟨by simp, .inl ⟨_, _, rfl, run_takeDeferred HKm.out, ?_⟩⟩
      obtain ⟨A', c', rfl⟩ := Kd.R_slice (Kd.S_R HSV.out)
      refine ⟨.tuple #[.slice A' zs.length c', .bool false, .int .i64 0], by simp [results, Try.results12, go_sem], ?_⟩
      rw [HANS.out]
      refine ⟨_, rfl, Kd.S_mono (Kd.S_step (Kd.S_bound HSV.out) (fun k hk _ => World.putObj_heap_other (fun e => ?_))) (fun _ _ => trivial), hB2.trans hbk⟩
      obtain ⟨_, _, _, q, _, cells, hc⟩ := hk
      have := HKm.out
      subst e
      rw [hc] at this
      cases this
    case stop =>
      rintro D c pre W _ _ h _
      exact h.elim
  cases b0
  rotate_left
  · -- against the rows
    have hans : addS zs (mn : Int) ds = ([], false, 12) := by
      have h0 := HCS.out.2.1 rfl
      rw [HS.out, if_neg (fun h => by injection h with h1 h2; have := HCS.out.1.2 ⟨h1, h2⟩; cases this), if_pos h0]
    have HANS := Lib.hid hans
    clear hans
    go_wp2_with (first
      | (go_at_call 28; refine (formed_calls (mn : Int) A1 c1 ds _ (Kd.C_below HX.out (HBA.out _))).mono ?_; rw [HP16.out, hf]; rintro e w1 ⟨rfl, hb1⟩; have HB1 := Lib.hid hb1; clear hb1)
      | (refine wpList_store_row rfl 53 _ _ rfl _ (.int .i64 (mn : Int) :: bys ds) _ 53 rfl rfl (blk_new rfl) (by rw [HL.out]; rfl) (by rw [HL.out]; exact size53) hone ?_; intro w2 g1 g2 g3 g4; have hb2 := (HBA.out (.cells #[.int .i64 (mn : Int), .slice A1 ds.length c1] 25)).trans (HB1.out.mono (HBA.out _).size); have HB2 := Lib.hid (g4 _ _ hb2.size (hb2.alloc hb2.size _)); have hg7 := hb2.size; have hs2 : w2.heap.size = w1.heap.size + 1 := (by rw [g3]; simp); clear g2 g3 g4 hb2)
      | (go_at_call 30; refine (equations_calls _ _ _ _).mono ?_; rintro e w' ⟨rfl, rfl⟩)
      | (go_at_call 20; refine (valid_calls A cap zs _ (Kd.C_below HR.out HB2.out)).mono ?_; rw [HV.out]; rintro e w3 ⟨rfl, hb3⟩; have HB3 := Lib.hid hb3; have g1' := (hb3.block _ (Array.getElem?_eq_some_iff.1 g1).1).trans g1; clear hb3)
      | (refine wpList_load_row rfl 53 _ rfl w1.heap.size rfl 53 _ (0, 0) _ g1' Try.underlying53 rfl (by simp only [List.size_toArray]; rw [HL.out]; exact size53) ?_)
      | (go_at_call 29; refine (HRED.out _ (HB2.out.trans (HB3.out.mono HB2.out.size))).mono ?_; rintro e w4 ⟨rfl, hb4⟩; have HB4 := Lib.hid hb4; have g1'' := (hb4.block _ (Array.getElem?_eq_some_iff.1 g1').1).trans g1'; clear hb4)
      | (refine wpList_store_row rfl 53 _ _ rfl w1.heap.size (.int .i64 (mp : Int) :: bys dp) _ 53 rfl rfl g1'' (by rw [HL2.out, List.size_toArray, HL.out]) (by rw [HL2.out]; exact size53) hone2 ?_; intro w5 p1 p2 p3 p4; have hb3 := HB2.out.trans (HB3.out.mono HB2.out.size); have hb4 := hb3.trans (HB4.out.mono hb3.size); have HB5 := Lib.hid (p4 _ _ hg7 hb4); have hsz5 := p3; have c0 : w5.cell? ⟨w1.heap.size, 0, none⟩ = some (.int .i64 (mp : Int)) := (cell_of_row w5 _ 0 _ 53 (0, 0) p1).trans (by simp); clear p2 p3 p4 hb3 hb4)
      | (refine wpList_load_row rfl 53 _ rfl w1.heap.size rfl 53 _ (0, 0) _ p1 Try.underlying53 rfl (by simp only [List.size_toArray]; rw [HL2.out]; exact size53) ?_)
      | (refine Kd.event_run rfl (exec_eql53 (x := .tmp 30) (y := .tmp 31) (m := (mp : Int)) (d := dp) rfl rfl (by rw [zrow]; rfl) HDP.out HBZ.out) ?_))
    refine ⟨.tuple #[.slice none 0 0, .bool false, .int .i64 12], by simp [results, Try.results12, go_sem], ?_⟩
    rw [HANS.out]
    exact ⟨_, rfl, Kd.S_nil _ _ _ _ _, HB5.out⟩
  · -- new
    have hans : addS zs (mn : Int) ds = (insS (mp, dp) zs, true, 0) := by
      rw [HS.out, if_neg (fun h => by injection h with h1 h2; have := HCS.out.1.2 ⟨h1, h2⟩; cases this), if_neg (fun h => by have := HCS.out.2.2 h; cases this)]
    have HANS := Lib.hid hans
    clear hans
    go_wp2_with (first
      | (go_at_call 28; refine (formed_calls (mn : Int) A1 c1 ds _ (Kd.C_below HX.out (HBA.out _))).mono ?_; rw [HP16.out, hf]; rintro e w1 ⟨rfl, hb1⟩; have HB1 := Lib.hid hb1; clear hb1)
      | (refine wpList_store_row rfl 53 _ _ rfl _ (.int .i64 (mn : Int) :: bys ds) _ 53 rfl rfl (blk_new rfl) (by rw [HL.out]; rfl) (by rw [HL.out]; exact size53) hone ?_; intro w2 g1 g2 g3 g4; have hb2 := (HBA.out (.cells #[.int .i64 (mn : Int), .slice A1 ds.length c1] 25)).trans (HB1.out.mono (HBA.out _).size); have HB2 := Lib.hid (g4 _ _ hb2.size (hb2.alloc hb2.size _)); have hg7 := hb2.size; have hs2 : w2.heap.size = w1.heap.size + 1 := (by rw [g3]; simp); clear g2 g3 g4 hb2)
      | (go_at_call 30; refine (equations_calls _ _ _ _).mono ?_; rintro e w' ⟨rfl, rfl⟩)
      | (go_at_call 20; refine (valid_calls A cap zs _ (Kd.C_below HR.out HB2.out)).mono ?_; rw [HV.out]; rintro e w3 ⟨rfl, hb3⟩; have HB3 := Lib.hid hb3; have g1' := (hb3.block _ (Array.getElem?_eq_some_iff.1 g1).1).trans g1; clear hb3)
      | (refine wpList_load_row rfl 53 _ rfl w1.heap.size rfl 53 _ (0, 0) _ g1' Try.underlying53 rfl (by simp only [List.size_toArray]; rw [HL.out]; exact size53) ?_)
      | (go_at_call 29; refine (HRED.out _ (HB2.out.trans (HB3.out.mono HB2.out.size))).mono ?_; rintro e w4 ⟨rfl, hb4⟩; have HB4 := Lib.hid hb4; have g1'' := (hb4.block _ (Array.getElem?_eq_some_iff.1 g1').1).trans g1'; clear hb4)
      | (refine wpList_store_row rfl 53 _ _ rfl w1.heap.size (.int .i64 (mp : Int) :: bys dp) _ 53 rfl rfl g1'' (by rw [HL2.out, List.size_toArray, HL.out]) (by rw [HL2.out]; exact size53) hone2 ?_; intro w5 p1 p2 p3 p4; have hb3 := HB2.out.trans (HB3.out.mono HB2.out.size); have hb4 := hb3.trans (HB4.out.mono hb3.size); have HB5 := Lib.hid (p4 _ _ hg7 hb4); have hsz5 := p3; have c0 : w5.cell? ⟨w1.heap.size, 0, none⟩ = some (.int .i64 (mp : Int)) := (cell_of_row w5 _ 0 _ 53 (0, 0) p1).trans (by simp); clear p2 p3 p4 hb3 hb4)
      | (refine wpList_load_row rfl 53 _ rfl w1.heap.size rfl 53 _ (0, 0) _ p1 Try.underlying53 rfl (by simp only [List.size_toArray]; rw [HL2.out]; exact size53) ?_)
      | (refine Kd.event_run rfl (exec_eql53 (x := .tmp 30) (y := .tmp 31) (m := (mp : Int)) (d := dp) rfl rfl (by rw [zrow]; rfl) HDP.out HBZ.out) ?_))
    have hg9 : w.heap.size ≤ w4.heap.size := by have := HB5.out.size; omega
    have h74 : w1.heap.size < w4.heap.size := by have h1 := HB3.out.size; have h2 := HB4.out.size; omega
    have hPO := (((Boxed.new w5 22 (.slice none 0 0)).alloc (.cells #[.bool false] 4)).alloc (.cells #[.slice A zs.length cap] 22))
    have hPP := ((Boxed.new (w5.alloc (.cells #[.slice none 0 0] 22)) 4 (.bool false)).alloc (.cells #[.slice A zs.length cap] 22))
    have sz0 : (((w5.alloc (.cells #[.slice none 0 0] 22)).alloc (.cells #[.bool false] 4)).alloc (.cells #[.slice A zs.length cap] 22)).heap.size = w4.heap.size + 1 + 1 + 1 := by simp [hsz5]
    have b5 : (((w5.alloc (.cells #[.slice none 0 0] 22)).alloc (.cells #[.bool false] 4)).alloc (.cells #[.slice A zs.length cap] 22)).heap[w4.heap.size + 1 + 1]? = some (.cells #[.slice A zs.length cap] 22 (0, 0)) := blk_new (by simp [hsz5])
    have hB0 : Below w.heap.size w (((w5.alloc (.cells #[.slice none 0 0] 22)).alloc (.cells #[.bool false] 4)).alloc (.cells #[.slice A zs.length cap] 22)) := ((HB5.out.alloc HB5.out.size _).alloc (by simp; omega) _).alloc (by simp; omega) _
    have h7 : (((w5.alloc (.cells #[.slice none 0 0] 22)).alloc (.cells #[.bool false] 4)).alloc (.cells #[.slice A zs.length cap] 22)).heap[w1.heap.size]? = some (.cells (.int .i64 (mp : Int) :: bys dp).toArray 53 (0, 0)) := by
      rw [Below.heap_alloc _ _ _ (by simp; omega), Below.heap_alloc _ _ _ (by simp; omega), Below.heap_alloc _ _ _ (by omega)]; exact p1
    simp only [World.size_alloc, hsz5] at hPO hPP
    have hO : OutC w.heap.size w4.heap.size [] (((w5.alloc (.cells #[.slice none 0 0] 22)).alloc (.cells #[.bool false] 4)).alloc (.cells #[.slice A zs.length cap] 22)) := ⟨_, hPO, Kd.S_nil _ _ _ _ _⟩
    generalize ((w5.alloc (.cells #[.slice none 0 0] 22)).alloc (.cells #[.bool false] 4)).alloc (.cells #[.slice A zs.length cap] 22) = W0 at *
    have hg7' : w.heap.size ≤ w1.heap.size := hg7
    clear hPO g1 g1' g1'' p1 c0 HB2 HB3 HB4 HB5 HB1 hs2 hsz5 hg7
    generalize w1.heap.size = g7 at *
    generalize w4.heap.size = g11 at *
    refine (wpIn_wide (n := 3)).1 (wpIn_rangeFunc_ownH (F := Fence.wide) (n := 3) rfl (by omega) (gf := 38) (lb := #[.pointer (some ⟨g11 + 1 + 1, 0, none⟩)]) rfl trivial (enters_of Try.func38 (by kernel_rfl) rfl)
      (iter_stops (fun x : FRow => x.1) (3 - 1) (g11 + 1 + 1) w.heap.size A cap fz W0 (by omega) (by omega) (by rw [HFL.out]; exact (cell_of_row W0 _ 0 _ 22 (0, 0) b5).trans rfl) (fun W' h => by rw [HFL.out]; rw [show fz.map (fun x : FRow => x.1) = zs from HFZ.out]; exact Kd.C_below HR.out (hB0.trans h))) belowK_t (belowK_b (by omega)) (Below.refl _ _) (fun _ => rfl)
      (fun (pre : List FRow) W => W.heap[g7]? = some (.cells (.int .i64 (mp : Int) :: bys dp).toArray 53 (0, 0)) ∧ Boxed W (g11 + 1) 4 (.bool (insL (mp, dp) (pre.map Subtype.val)).2) ∧ OutC w.heap.size g11 (insL (mp, dp) (pre.map Subtype.val)).1 W ∧ Below w.heap.size w W ∧ W0.heap.size ≤ W.heap.size)
      (fun _ _ _ => False)
      (fun s X Y row hs hg hr => by
        obtain ⟨h0, h1, h2, h3, h4⟩ := hs
        exact ⟨keep_block h0 hg hr, boxed_keep h1 hg hr, outC_round h2 hg hr, h3.grown hg (by have := h3.size; omega) (fun k e => by have := (hr k e).1; omega), Nat.le_trans h4 hg.size⟩)
      (fun _ _ _ _ _ hs _ _ => hs)
      ⟨h7, hPP, hO, hB0, Nat.le_refl _⟩
      (fun x a' Z => ∃ Bx, W0.heap.size ≤ Bx ∧ Z.heap[Bx]? = some (.cells (.int .i64 (x.m : Int) :: bys x.1.f1).toArray 53 (0, 0)) ∧ a' = { tmps := #[.slice A zs.length cap, .agg #[.int .i64 (mn : Int), .slice A1 ds.length c1], undef, .pointer (some ⟨w.heap.size, 0, none⟩), .slice none 0 0, .bool false, .int .i64 0, .pointer (some ⟨g7, 0, none⟩), .bool true, undef, undef, .pointer (some ⟨g11, 0, none⟩), .pointer (some ⟨g11 + 1, 0, none⟩), .pointer (some ⟨Bx, 0, none⟩), .tuple #[.agg (.int .i64 (mn : Int) :: bys ds).toArray, .bool true], .agg #[.int .i64 (mn : Int), .slice A1 ds.length c1], .tuple #[.agg (.int .i64 (mn : Int) :: bys ds).toArray, .bool true], .agg (.int .i64 (mn : Int) :: bys ds).toArray, .bool true, .slice A zs.length cap, .bool true, .bool false, .bool false, .bool true, .bool false, .bool false, .slice A zs.length cap, .agg (.int .i64 (mn : Int) :: bys ds).toArray, .agg (.int .i64 (mp : Int) :: bys dp).toArray, .bool false, .agg (.int .i64 (mp : Int) :: bys dp).toArray, .agg #[.int .i64 0, .int .u8 0, .int .u8 0, .int .u8 0, .int .u8 0, .int .u8 0, .int .u8 0, .int .u8 0, .int .u8 0, .int .u8 0, .int .u8 0, .int .u8 0, .int .u8 0, .int .u8 0, .int .u8 0, .int .u8 0, .int .u8 0], .bool false, undef, undef, undef, undef, undef, undef, undef, undef, undef, undef, .bool false, .pointer (some ⟨g7, 0, none⟩), .int .i64 (mp : Int), .bool false, .slice A zs.length cap, .func (.func 38) #[] #[.pointer (some ⟨g11 + 1 + 1, 0, none⟩)], .agg (.int .i64 (x.m : Int) :: bys x.1.f1).toArray, .bool true, undef, undef, undef, undef, undef, undef, undef, undef, undef, undef, undef, undef, undef, undef, undef, undef, undef, undef, undef, undef, undef, undef, undef, undef, undef, undef, undef, undef, undef, undef, undef, undef, undef, undef, undef, undef, undef, undef, undef, undef, undef, undef, undef, undef], defers := [] })
      (fun x a' s X Y row hs hg hr => by obtain ⟨Bx, h1, h2, h3⟩ := hs; exact ⟨Bx, h1, keep_block h2 hg hr, h3⟩)
      ?assign ?body ?done ?stop)
    case assign =>
      intro l pre x U K hI hK
      have hsp := x.spec
      have he : encE x.1 = #[.agg (.int .i64 (x.m : Int) :: bys x.1.f1).toArray, .bool true] := by
        unfold encE; rw [pad16_of _ hsp.2.2, x.2, x.m_eq]
      rw [he]
      have hout : ¬ LetsOut (Exit.then K (fun _ _ _ => False)) := fun ⟨_, _, h⟩ => h
      refine plain_in (by rfl) hout ?_
      simp only [List.zip_toArray, List.zip_cons_cons, List.zip_nil_right, List.foldl_toArray, List.foldl_cons, List.foldl_nil, List.setIfInBounds_toArray, List.set_cons_zero, List.set_cons_succ]
      have hl17 : (Value.int .i64 (x.m : Int) :: bys x.1.f1).length = 17 := by rw [List.length_cons, bys_len, hsp.2.2]
      have H17 := Lib.hid hl17
      have hone : ∀ v ∈ Value.int .i64 (x.m : Int) :: bys x.1.f1, v.oneCell' = true := eq_one _ _
      have HK2 := Lib.hid hK
      have HI := Lib.hid hI
      clear hl17 hsp he hK hI
      go_wp2_with (first | (refine wpList_store_row rfl 53 _ _ rfl U.heap.size (.int .i64 (x.m : Int) :: bys x.1.f1) _ 53 rfl rfl (blk_new rfl) (by rw [H17.out]; rfl) (by rw [H17.out]; exact size53) hone ?_; intro w1 g1 g2 g3 g4))
      obtain ⟨i0, i1, i2, i4, i5⟩ := HI.out
      have hwW := i4.size
      have hB1 : Below w.heap.size U w1 := g4 _ _ hwW ((Below.refl _ _).alloc hwW _)
      have hB1' : Below U.heap.size U w1 := g4 _ _ (Nat.le_refl _) ((Below.refl _ _).alloc (Nat.le_refl _) _)
      exact HK2.out _ _ ((keeps_of_below ((Below.refl _ U).alloc (Nat.le_refl _) _) _).trans (keeps_of_cells (blk_new rfl) g2 g3 _)) hB1
        ⟨(hB1'.block _ (Array.getElem?_eq_some_iff.1 i0).1).trans i0, boxed_block i1 hB1', outC_below i2 hB1', i4.trans hB1, by rw [g3]; simp; omega⟩ ⟨U.heap.size, i5, g1, rfl⟩
    case body =>
      rintro l pre x a' U hl hrec ⟨h7U, hbP, hOut, hB2, hz2⟩ ⟨Bx, hBx, hx, rfl⟩ hlen2
      have hwW := hB2.size
      have hxs := x.spec
      have hmx := x.m_lt
      have hll := lead_lt x.m hmx
      have hll2 := lead_lt mp hmp
      have hi17 : (Try.prog.info? 53).map (·.size) = some (Value.int .i64 (x.m : Int) :: bys x.1.f1).length := by rw [List.length_cons, bys_len, hxs.2.2]; exact size53
      have HXS := Lib.hid hxs
      have HI17 := Lib.hid hi17
      have hi17' : (Try.prog.info? 53).map (·.size) = some (Value.int .i64 (mp : Int) :: bys dp).length := by rw [HL2.out]; exact size53
      have HI7 := Lib.hid hi17'
      have HLEN : pre.length < 1000000 := by have := HFL.out; omega
      have hsn : insL (mp, dp) ((pre ++ [x]).map Subtype.val) = insStep (mp, dp) (insL (mp, dp) (pre.map Subtype.val)) x.1 := by simp [insL]
      have hil : ∀ p : List S25, (insL (mp, dp) p).1.length ≤ 2 * p.length := insL_len (mp, dp)
      have hil2 := hil (pre.map Subtype.val)
      rw [List.length_map] at hil2
      generalize hst : insL (mp, dp) (pre.map Subtype.val) = st at hbP hOut hsn hil2
      obtain ⟨xs0, pl⟩ := st
      simp only at hbP hOut hil2
      have HSN := Lib.hid hsn
      clear hi17 hi17' hrec hxs hO b5 hPP h7 hsn hst hil
      refine wpIn_block ?_
      refine wpIn_seq_k (fun K1 hK1 => ?_)
      -- what comes behind the first 'if'
      have rest : ∀ (t51 t52 t53 t54 t55 t56 t57 t58 t59 t60 t61 t62 t63 t64 : Value) (U2 : World) (xs2 : List S25) (pl2 : Bool), KeepsFrom W0.heap.size U U2 → Below w.heap.size U U2 → U2.heap[g7]? = some (.cells (.int .i64 (mp : Int) :: bys dp).toArray 53 (0, 0)) →
          U2.heap[Bx]? = some (.cells (.int .i64 (x.m : Int) :: bys x.1.f1).toArray 53 (0, 0)) → Boxed U2 (g11 + 1) 4 (.bool pl2) → OutC w.heap.size g11 xs2 U2 → xs2.length ≤ 3000000 → W0.heap.size ≤ U2.heap.size →
          insL (mp, dp) ((pre ++ [x]).map Subtype.val) = (xs2 ++ [mixE (mp, dp) x.1], pl2) → K1 { tmps := #[.slice A zs.length cap, .agg #[.int .i64 (mn : Int), .slice A1 ds.length c1], undef, .pointer (some ⟨w.heap.size, 0, none⟩), .slice none 0 0, .bool false, .int .i64 0, .pointer (some ⟨g7, 0, none⟩), .bool true, undef, undef, .pointer (some ⟨g11, 0, none⟩), .pointer (some ⟨g11 + 1, 0, none⟩), .pointer (some ⟨Bx, 0, none⟩), .tuple #[.agg (.int .i64 (mn : Int) :: bys ds).toArray, .bool true], .agg #[.int .i64 (mn : Int), .slice A1 ds.length c1], .tuple #[.agg (.int .i64 (mn : Int) :: bys ds).toArray, .bool true], .agg (.int .i64 (mn : Int) :: bys ds).toArray, .bool true, .slice A zs.length cap, .bool true, .bool false, .bool false, .bool true, .bool false, .bool false, .slice A zs.length cap, .agg (.int .i64 (mn : Int) :: bys ds).toArray, .agg (.int .i64 (mp : Int) :: bys dp).toArray, .bool false, .agg (.int .i64 (mp : Int) :: bys dp).toArray, .agg #[.int .i64 0, .int .u8 0, .int .u8 0, .int .u8 0, .int .u8 0, .int .u8 0, .int .u8 0, .int .u8 0, .int .u8 0, .int .u8 0, .int .u8 0, .int .u8 0, .int .u8 0, .int .u8 0, .int .u8 0, .int .u8 0, .int .u8 0], .bool false, undef, undef, undef, undef, undef, undef, undef, undef, undef, undef, .bool false, .pointer (some ⟨g7, 0, none⟩), .int .i64 (mp : Int), .bool false, .slice A zs.length cap, .func (.func 38) #[] #[.pointer (some ⟨g11 + 1 + 1, 0, none⟩)], .agg (.int .i64 (x.m : Int) :: bys x.1.f1).toArray, .bool true, t51, t52, t53, t54, t55, t56, t57, t58, t59, t60, t61, t62, t63, t64, undef, undef, undef, undef, undef, undef, undef, undef, undef, undef, undef, undef, undef, undef, undef, undef, undef, undef, undef, undef, undef, undef, undef, undef, undef, undef, undef, undef, undef, undef], defers := [] } U2 := by
        intro t51 t52 t53 t54 t55 t56 t57 t58 t59 t60 t61 t62 t63 t64 U2 xs2 pl2 hk2 hb2 h72 hx2 hP2 hO2 hl2 hz3 hans
        refine hK1 _ _ ?_
        have hwU2 := hB2.trans hb2
        have hwW2 := hwU2.size
        have c0 : U2.cell? ⟨Bx, 0, none⟩ = some (.int .i64 (x.m : Int)) := (cell_of_row U2 _ 0 _ 53 (0, 0) hx2).trans (by simp)
        have H72 := Lib.hid h72
        have HX2 := Lib.hid hx2
        have HP2 := Lib.hid hP2
        have HO2 := Lib.hid hO2
        have HK2 := Lib.hid hk2
        have HB22 := Lib.hid hb2
        have HANS2 := Lib.hid hans
        clear h72 hx2 hP2 hO2 hk2 hb2 hans
        refine wpIn_seq_k (fun K3 hK3 => ?_)
        have rest2 : ∀ (t51 t52 t53 t54 t55 t56 t57 t58 t59 t60 t61 t62 t63 t64 t65 t66 t67 t68 t69 t70 t71 t72 t73 t74 t75 t76 t77 t78 t79 t80 t81 : Value) (U3 : World) (mr : Nat) (dr : List Int), dr.length = 16 → KeepsFrom W0.heap.size U U3 → Below w.heap.size U U3 → U3.heap[g7]? = some (.cells (.int .i64 (mp : Int) :: bys dp).toArray 53 (0, 0)) →
            U3.heap[Bx]? = some (.cells (.int .i64 (mr : Int) :: bys dr).toArray 53 (0, 0)) → Boxed U3 (g11 + 1) 4 (.bool pl2) → OutC w.heap.size g11 xs2 U3 → W0.heap.size ≤ U3.heap.size →
            mixE (mp, dp) x.1 = ⟨(mr : Int), dr⟩ → K3 { tmps := #[.slice A zs.length cap, .agg #[.int .i64 (mn : Int), .slice A1 ds.length c1], undef, .pointer (some ⟨w.heap.size, 0, none⟩), .slice none 0 0, .bool false, .int .i64 0, .pointer (some ⟨g7, 0, none⟩), .bool true, undef, undef, .pointer (some ⟨g11, 0, none⟩), .pointer (some ⟨g11 + 1, 0, none⟩), .pointer (some ⟨Bx, 0, none⟩), .tuple #[.agg (.int .i64 (mn : Int) :: bys ds).toArray, .bool true], .agg #[.int .i64 (mn : Int), .slice A1 ds.length c1], .tuple #[.agg (.int .i64 (mn : Int) :: bys ds).toArray, .bool true], .agg (.int .i64 (mn : Int) :: bys ds).toArray, .bool true, .slice A zs.length cap, .bool true, .bool false, .bool false, .bool true, .bool false, .bool false, .slice A zs.length cap, .agg (.int .i64 (mn : Int) :: bys ds).toArray, .agg (.int .i64 (mp : Int) :: bys dp).toArray, .bool false, .agg (.int .i64 (mp : Int) :: bys dp).toArray, .agg #[.int .i64 0, .int .u8 0, .int .u8 0, .int .u8 0, .int .u8 0, .int .u8 0, .int .u8 0, .int .u8 0, .int .u8 0, .int .u8 0, .int .u8 0, .int .u8 0, .int .u8 0, .int .u8 0, .int .u8 0, .int .u8 0, .int .u8 0], .bool false, undef, undef, undef, undef, undef, undef, undef, undef, undef, undef, .bool false, .pointer (some ⟨g7, 0, none⟩), .int .i64 (mp : Int), .bool false, .slice A zs.length cap, .func (.func 38) #[] #[.pointer (some ⟨g11 + 1 + 1, 0, none⟩)], .agg (.int .i64 (x.m : Int) :: bys x.1.f1).toArray, .bool true, t51, t52, t53, t54, t55, t56, t57, t58, t59, t60, t61, t62, t63, t64, t65, t66, t67, t68, t69, t70, t71, t72, t73, t74, t75, t76, t77, t78, t79, t80, t81, undef, undef, undef, undef, undef, undef, undef, undef, undef, undef, undef, undef, undef], defers := [] } U3 := by
          intro t51 t52 t53 t54 t55 t56 t57 t58 t59 t60 t61 t62 t63 t64 t65 t66 t67 t68 t69 t70 t71 t72 t73 t74 t75 t76 t77 t78 t79 t80 t81 U3 mr dr hdr hk3 hb3 h73 hx3 hP3 hO3 hz4 hmix
          refine hK3 _ _ ?_
          obtain ⟨v, hbv, hSv⟩ := hO3
          have cO := hbv.cell
          have hwU3 := hB2.trans hb3
          have hwW3 := hwU3.size
          have hi3 : (Try.prog.info? 53).map (·.size) = some (Value.int .i64 (mr : Int) :: bys dr).length := by rw [List.length_cons, bys_len, hdr]; exact size53
          have HI3 := Lib.hid hi3
          have HX3 := Lib.hid hx3
          have H73 := Lib.hid h73
          have HP3 := Lib.hid hP3
          have BV := Lib.hid hbv
          have HSV := Lib.hid hSv
          have HK3 := Lib.hid hk3
          have HB3 := Lib.hid hb3
          clear hi3 hx3 h73 hP3 hbv hSv hk3 hb3 hK3
          have hout : ¬ LetsOut (Exit.inBlock 4 (ownPostG W0.heap.size (Below w.heap.size)
            (fun (pre : List FRow) W => W.heap[g7]? = some (.cells (.int .i64 (mp : Int) :: bys dp).toArray 53 (0, 0)) ∧ Boxed W (g11 + 1) 4 (.bool (insL (mp, dp) (pre.map Subtype.val)).2) ∧ OutC w.heap.size g11 (insL (mp, dp) (pre.map Subtype.val)).1 W ∧ Below w.heap.size w W ∧ W0.heap.size ≤ W.heap.size)
            (fun _ _ _ => False) (pre ++ [x]) U)) := fun ⟨_, _, h⟩ => h
          refine start_in (m := 6) (S := (fun V => V.cell? ⟨g11, 0, none⟩ = some v ∧ V.heap[Bx]? = some (.cells (.int .i64 (mr : Int) :: bys dr).toArray 53 (0, 0)) ∧ Below U3.heap.size U3 V)) (ds := [4, 5]) #[false, false, false, false, false, false] (by kernel_rfl) (by rfl) hout rfl rfl ⟨cO, HX3.out, (Below.refl _ _).drew⟩ (fun hHeld => ?_)
          refine take_ (i := 0) (N := some 82) (v := ?_) (a' := ?_) #[true, false, false, false, false, false] rfl rfl (by kernel_rfl) (fun _ _ _ h => h) (Or.inl ⟨by rfl, ?_⟩) hHeld ?_ ?_
          rotate_left
          · rintro w' ⟨s0, s1, s2⟩
            go_simp
            with_reducible rfl
          rotate_left
          · simp only [Act.put, List.setIfInBounds_toArray, List.set_cons_zero, List.set_cons_succ, i64_w, i32_w]
            rfl
          refine take_ (i := 1) (N := some 83) (v := _) (a' := ?_) #[true, true, false, false, false, false] rfl rfl (by kernel_rfl) (fun _ _ _ h => h) (row_if (by rfl) 53 _ rfl Bx rfl (.int .i64 (mr : Int) :: bys dr) 53 _ (fun _ hS => hS.2.1) Try.underlying53 rfl HI3.out) hHeld ?_ ?_
          rotate_left
          · simp only [Act.put, List.setIfInBounds_toArray, List.set_cons_zero, List.set_cons_succ, i64_w, i32_w]
            rfl
          refine one_ (i := 2) (N := some 84) #[true, true, true, false, false, false] rfl rfl (by kernel_rfl) (by decide) (fun K hK => ?_)
          refine goes_ Try.func31 (by kernel_rfl) rfl #[.agg (.int .i64 (mr : Int) :: bys dr).toArray] (by rfl) rfl rfl (by simp only [List.map_toArray, List.map_cons, List.map_nil]; rfl) ?_
          refine (row_calls (mr : Int) dr hdr _).mono ?_
          rintro e u ⟨gr, hg1, rfl, hg3, hb⟩
          refine ⟨_, rfl, ?_⟩
          obtain ⟨s0, s1, s2⟩ := hHeld
          have hgrU : U3.heap.size ≤ gr := Nat.le_trans s2.size hg1
          have t2 := s2.trans (hb.mono s2.size)
          have HG3 := Lib.hid hg3
          refine hK.out _ _ ⟨(hb.cell (World.block_lt_of_cell? _ _ s0)).trans s0, (hb.block _ (Array.getElem?_eq_some_iff.1 s1).1).trans s1, t2⟩ (fun hHeld => ?_)
          clear hK K s0 s1 s2 t2 hb hg1 hg3
          refine norm_ (a' := ?_) ?_ ?_
          rotate_left
          · show Act.put _ (some 84) _ = _
            simp only [Act.put, List.setIfInBounds_toArray, List.set_cons_zero, List.set_cons_succ, i64_w, i32_w]
            rfl
          refine one_ (i := 3) (N := some 85) #[true, true, true, true, false, false] rfl rfl (by kernel_rfl) (by decide) (fun K hK => ?_)
          obtain ⟨s0, s1, s2⟩ := hHeld
          refine event_step (by rfl) (exec_bs rfl (vs := #[(0, .agg #[.int .i64 (mr : Int), .slice (some ⟨gr, 0, none⟩) 16 16])]) (by simp only [List.map_toArray, List.map_cons, List.map_nil]; rfl) (run_bs _ gr u)) ?_
          have HU2 := Lib.hid s2
          have ha := (Below.refl u.heap.size u).alloc (Nat.le_refl _) (.cells #[.int .i64 (mr : Int), .slice (some ⟨gr, 0, none⟩) 16 16] 25)
          refine hK.out _ _ ⟨(ha.cell (World.block_lt_of_cell? _ _ s0)).trans s0, (ha.block _ (Array.getElem?_eq_some_iff.1 s1).1).trans s1, s2.trans (ha.mono s2.size)⟩ (fun hHeld => ?_)
          clear hK K s0 s1 s2 ha
          refine norm_ (a' := ?_) ?_ ?_
          rotate_left
          · show Act.put _ (some 85) _ = _
            simp only [Act.put, List.setIfInBounds_toArray, List.set_cons_zero, List.set_cons_succ, i64_w, i32_w]
            rfl
          refine last_ (i := 4) (N := some 86) #[true, true, true, true, true, false] rfl rfl (by kernel_rfl) (by decide) (fun K hK => ?_)
          have s2 := HU2.out
          have hus := s2.size
          refine app_step (by rfl) (.tmp 82) (.tmp 85) rfl U3 u w.heap.size v (xs2) (mr : Int) dr gr rfl rfl (Kd.S_mono (Kd.S_below (Kd.S_bound HSV.out) s2) (fun k hk => by have := hk.2.2.1; omega)) HG3.out (by omega) hdr (s2.mono hwW3) (by omega) (by omega) ?_
          intro v1 w1 h1 h2 h3 h4
          obtain ⟨A', c', rfl⟩ := Kd.R_slice (Kd.S_R h1)
          have bv1 : Boxed w1 g11 22 v := h4 _ _ (boxed_block BV.out s2) (fun cs e => by cases e)
          refine hK.out _ _ ?_
          clear hK K
          refine norm_ (a' := ?_) ?_ ?_
          rotate_left
          · show Act.put _ (some 86) _ = _
            simp only [Act.put, List.setIfInBounds_toArray, List.set_cons_zero, List.set_cons_succ, i64_w, i32_w]
            rfl
          refine last_ (i := 5) (N := none) #[true, true, true, true, true, true] rfl rfl (by kernel_rfl) (by decide) (fun K hK => ?_)
          refine store_step (by rfl) rfl rfl rfl rfl (run_st22 g11 v w1 A' _ c' bv1) ?_
          refine hK.out _ _ ?_
          refine done_ (by kernel_rfl) ?_
          have hs2 := HU2.out.size
          have hBf : Below w.heap.size U3 (w1.setCell ⟨g11, 0, none⟩ (.slice A' (xs2 ++ [(⟨(mr : Int), dr⟩ : S25)]).length c')) := h2.setCell (p := ⟨g11, 0, none⟩) hg9 _
          have hBp := boxed_block HP3.out HU2.out
          refine ⟨HK3.out.trans (((keeps_of_below HU2.out _).trans (keeps_app h3 h4 _)).trans (keeps_set bv1 _ _)), HB3.out.trans hBf, ?_⟩
          dsimp only
          rw [HANS2.out, hmix]
          have hBp1 : Boxed w1 (g11 + 1) 4 (.bool pl2) := h4 _ _ hBp (fun cs e => by cases e)
          refine ⟨?_, hBp1.other (B' := g11) (by omega) _, ⟨_, bv1.set _, S_own h1 bv1 _⟩, hwU3.trans hBf, ?_⟩
          · rw [Below.heap_setCell _ _ _ _ (by simp; omega)]
            exact h4 _ _ ((HU2.out.block _ (Array.getElem?_eq_some_iff.1 H73.out).1).trans H73.out) (fun cs e => by cases e)
          · rw [World.size_setCell]; omega
        have HREST2 := Lib.hid rest2
        clear rest2 hK3
        have hand := i64_and_nat x.m (lead mp) (by omega) (by omega)
        have HAND := Lib.hid hand
        have hxor := i64_xor_nat x.m mp (by omega) (by omega)
        have HXOR := Lib.hid hxor
        have hlx : (xorD x.1.f1 dp).length = 16 := by simp [xorD, List.length_zipWith, HXS.out.2.2, HDP.out]
        have HLX := Lib.hid hlx
        have j1 : (Try.prog.info? 51).map (·.size) = some (bys x.1.f1).length := by rw [bys_len, HXS.out.2.2]; exact size51
        have j2 : (Try.prog.info? 51).map (·.size) = some (bys dp).length := by rw [bys_len, HDP.out]; exact size51
        have j3 : (Try.prog.info? 53).map (·.size) = some (Value.int .i64 ((x.m ^^^ mp : Nat) : Int) :: bys (xorD x.1.f1 dp)).length := by rw [List.length_cons, bys_len, hlx]; exact size53
        have J1 := Lib.hid j1
        have J2 := Lib.hid j2
        have J3 := Lib.hid j3
        have houtK : ∀ K4 : Act → World → Prop, ¬ LetsOut (Exit.then K4 (Exit.then K3 (Exit.inBlock 4 (ownPostG W0.heap.size (Below w.heap.size)
          (fun (pre : List FRow) W => W.heap[g7]? = some (.cells (.int .i64 (mp : Int) :: bys dp).toArray 53 (0, 0)) ∧ Boxed W (g11 + 1) 4 (.bool (insL (mp, dp) (pre.map Subtype.val)).2) ∧ OutC w.heap.size g11 (insL (mp, dp) (pre.map Subtype.val)).1 W ∧ Below w.heap.size w W ∧ W0.heap.size ≤ W.heap.size)
          (fun _ _ _ => False) (pre ++ [x]) U)))) := fun K4 ⟨_, _, h⟩ => h
        clear hand hxor hlx j1 j2 j3
        refine wpIn_seq_k (fun K4 hK4 => ?_)
        have hout := houtK K4
        refine start_in (m := 6) (S := (fun V => V.cell? ⟨Bx, 0, none⟩ = some (.int .i64 (x.m : Int)) ∧ V.heap[g7]? = some (.cells (.int .i64 (mp : Int) :: bys dp).toArray 53 (0, 0)) ∧ Below U2.heap.size U2 V)) (ds := []) #[false, false, false, false, false, false] (by kernel_rfl) (by rfl) hout rfl rfl ⟨c0, H72.out, (Below.refl _ _).drew⟩ (fun hHeld => ?_)
        refine pure_ (i := 0) (N := some 65) (v := ?_) (a' := ?_) #[true, false, false, false, false, false] rfl rfl (by kernel_rfl) (fun _ _ _ h => h) (Or.inl ⟨by rfl, ?_⟩) ?_ ?_
        rotate_left
        · intro w'
          go_simp
          with_reducible rfl
        rotate_left
        · simp only [Act.put, List.setIfInBounds_toArray, List.set_cons_zero, List.set_cons_succ, i64_w, i32_w]
          rfl
        refine take_ (i := 1) (N := some 66) (v := ?_) (a' := ?_) #[true, true, false, false, false, false] rfl rfl (by kernel_rfl) (fun _ _ _ h => h) (Or.inl ⟨by rfl, ?_⟩) hHeld ?_ ?_
        rotate_left
        · rintro w' ⟨s0, s1, s2⟩
          go_simp
          with_reducible rfl
        rotate_left
        · simp only [Act.put, List.setIfInBounds_toArray, List.set_cons_zero, List.set_cons_succ, i64_w, i32_w]
          rfl
        refine take_ (i := 2) (N := some 67) (v := _) (a' := ?_) #[true, true, true, false, false, false] rfl rfl (by kernel_rfl) (fun _ _ _ h => h) (row_if (by rfl) 53 _ rfl g7 rfl (.int .i64 (mp : Int) :: bys dp) 53 _ (fun _ hS => hS.2.1) Try.underlying53 rfl HI7.out) hHeld ?_ ?_
        rotate_left
        · simp only [Act.put, List.setIfInBounds_toArray, List.set_cons_zero, List.set_cons_succ, i64_w, i32_w]
          rfl
        refine one_ (i := 3) (N := some 68) #[true, true, true, true, false, false] rfl rfl (by kernel_rfl) (by decide) (fun K hK => ?_)
        refine goes_ Try.func32 (by kernel_rfl) rfl #[.agg (.int .i64 (mp : Int) :: bys dp).toArray] (by rfl) rfl rfl (by simp only [List.map_toArray, List.map_cons, List.map_nil]; rfl) ?_
        refine (leading_calls mp hmp _ _).mono ?_
        rintro e3 u3 ⟨rfl, hb⟩
        refine ⟨_, rfl, ?_⟩
        obtain ⟨s0, s1, s2⟩ := hHeld
        have tt := s2.trans (hb.mono s2.size)
        refine hK.out _ _ ⟨(hb.cell (World.block_lt_of_cell? _ _ s0)).trans s0, (hb.block _ (Array.getElem?_eq_some_iff.1 s1).1).trans s1, tt⟩ (fun hHeld => ?_)
        clear hK K tt hb s0 s1 s2
        refine norm_ (a' := ?_) ?_ ?_
        rotate_left
        · show Act.put _ (some 68) _ = _
          simp only [Act.put, List.setIfInBounds_toArray, List.set_cons_zero, List.set_cons_succ, i64_w, i32_w]
          rfl
        refine pure_ (i := 4) (N := some 69) (v := ?_) (a' := ?_) #[true, true, true, true, true, false] rfl rfl (by kernel_rfl) (fun _ _ _ h => h) (Or.inl ⟨by rfl, ?_⟩) ?_ ?_
        rotate_left
        · intro w'
          go_simp
          with_reducible rfl
        rotate_left
        · simp only [Act.put, List.setIfInBounds_toArray, List.set_cons_zero, List.set_cons_succ, i64_w, i32_w]
          rfl
        refine pure_ (i := 5) (N := some 70) (v := ?_) (a' := ?_) #[true, true, true, true, true, true] rfl rfl (by kernel_rfl) (fun _ _ _ h => h) (Or.inl ⟨by rfl, ?_⟩) ?_ ?_
        rotate_left
        · intro w'
          go_simp
          with_reducible rfl
        rotate_left
        · simp only [Act.put, List.setIfInBounds_toArray, List.set_cons_zero, List.set_cons_succ, i64_w, i32_w]
          rfl
        refine done_ (by kernel_rfl) ?_
        obtain ⟨s0, s1, s2⟩ := hHeld
        refine hK4 _ _ ?_
        have hu3 := s2.size
        have hb3w : Below w.heap.size U u3 := HB22.out.trans (s2.mono hwW2)
        by_cases hbit : x.m &&& lead mp = 0
        · refine wpIn_cond_false (by show Value.bool _ = _; rw [HAND.out, hbit]; simp) (wpIn_skip ?_)
          refine HREST2.out _ _ _ _ _ _ _ _ _ _ _ _ _ _ _ _ _ _ _ _ _ _ _ _ _ _ _ _ _ _ _ u3 x.m x.1.f1 HXS.out.2.2 (HK2.out.trans (keeps_of_below s2 _)) hb3w s1 ((s2.block _ (Array.getElem?_eq_some_iff.1 HX2.out).1).trans HX2.out) (boxed_block HP2.out s2) (outC_below HO2.out s2) (by omega) ?_
          rw [rowE_m]
          unfold mixE
          rw [if_neg (by simpa [FRow.m] using hbit)]
        · refine wpIn_cond_true (by show Value.bool _ = _; rw [HAND.out]; congr 1; simp; omega) ?_
          have c7 : u3.cell? ⟨g7, 0, none⟩ = some (.int .i64 (mp : Int)) := (cell_of_row u3 _ 0 _ 53 (0, 0) s1).trans (by simp)
          have x3 := (s2.block _ (Array.getElem?_eq_some_iff.1 HX2.out).1).trans HX2.out
          have X3 := Lib.hid x3
          have S2 := Lib.hid s2
          have E3 := Lib.hid s1
          have HB3W := Lib.hid hb3w
          clear s2 x3 hb3w hout houtK
          have hout : ¬ LetsOut (Exit.then K3 (Exit.inBlock 4 (ownPostG W0.heap.size (Below w.heap.size)
            (fun (pre : List FRow) W => W.heap[g7]? = some (.cells (.int .i64 (mp : Int) :: bys dp).toArray 53 (0, 0)) ∧ Boxed W (g11 + 1) 4 (.bool (insL (mp, dp) (pre.map Subtype.val)).2) ∧ OutC w.heap.size g11 (insL (mp, dp) (pre.map Subtype.val)).1 W ∧ Below w.heap.size w W ∧ W0.heap.size ≤ W.heap.size)
            (fun _ _ _ => False) (pre ++ [x]) U))) := fun ⟨_, _, h⟩ => h
          refine start_in (m := 12) (S := (fun V => V.cell? ⟨Bx, 0, none⟩ = some (.int .i64 (x.m : Int)) ∧ V.cell? ⟨g7, 0, none⟩ = some (.int .i64 (mp : Int)) ∧ V.heap[Bx]? = some (.cells (.int .i64 (x.m : Int) :: bys x.1.f1).toArray 53 (0, 0)) ∧ V.heap[g7]? = some (.cells (.int .i64 (mp : Int) :: bys dp).toArray 53 (0, 0)) ∧ Below u3.heap.size u3 V)) (ds := [11]) #[false, false, false, false, false, false, false, false, false, false, false, false] (by kernel_rfl) (by rfl) hout rfl rfl ⟨s0, c7, X3.out, s1, (Below.refl _ _).drew⟩ (fun hHeld => ?_)
          refine pure_ (i := 0) (N := some 71) (v := ?_) (a' := ?_) #[true, false, false, false, false, false, false, false, false, false, false, false] rfl rfl (by kernel_rfl) (fun _ _ _ h => h) (Or.inl ⟨by rfl, ?_⟩) ?_ ?_
          rotate_left
          · intro w'
            go_simp
            with_reducible rfl
          rotate_left
          · simp only [Act.put, List.setIfInBounds_toArray, List.set_cons_zero, List.set_cons_succ, i64_w, i32_w]
            rfl
          refine pure_ (i := 2) (N := some 73) (v := ?_) (a' := ?_) #[true, false, true, false, false, false, false, false, false, false, false, false] rfl rfl (by kernel_rfl) (fun _ _ _ h => h) (Or.inl ⟨by rfl, ?_⟩) ?_ ?_
          rotate_left
          · intro w'
            go_simp
            with_reducible rfl
          rotate_left
          · simp only [Act.put, List.setIfInBounds_toArray, List.set_cons_zero, List.set_cons_succ, i64_w, i32_w]
            rfl
          refine pure_ (i := 5) (N := some 76) (v := ?_) (a' := ?_) #[true, false, true, false, false, true, false, false, false, false, false, false] rfl rfl (by kernel_rfl) (fun _ _ _ h => h) (Or.inl ⟨by rfl, ?_⟩) ?_ ?_
          rotate_left
          · intro w'
            go_simp
            with_reducible rfl
          rotate_left
          · simp only [Act.put, List.setIfInBounds_toArray, List.set_cons_zero, List.set_cons_succ, i64_w, i32_w]
            rfl
          refine pure_ (i := 7) (N := some 78) (v := ?_) (a' := ?_) #[true, false, true, false, false, true, false, true, false, false, false, false] rfl rfl (by kernel_rfl) (fun _ _ _ h => h) (Or.inl ⟨by rfl, ?_⟩) ?_ ?_
          rotate_left
          · intro w'
            go_simp
            with_reducible rfl
          rotate_left
          · simp only [Act.put, List.setIfInBounds_toArray, List.set_cons_zero, List.set_cons_succ, i64_w, i32_w]
            rfl
          refine take_ (i := 1) (N := some 72) (v := ?_) (a' := ?_) #[true, true, true, false, false, true, false, true, false, false, false, false] rfl rfl (by kernel_rfl) (fun _ _ _ h => h) (Or.inl ⟨by rfl, ?_⟩) hHeld ?_ ?_
          rotate_left
          · rintro w' ⟨s0, s1, s2, s3, s4⟩
            go_simp
            with_reducible rfl
          rotate_left
          · simp only [Act.put, List.setIfInBounds_toArray, List.set_cons_zero, List.set_cons_succ, i64_w, i32_w]
            rfl
          refine take_ (i := 3) (N := some 74) (v := ?_) (a' := ?_) #[true, true, true, true, false, true, false, true, false, false, false, false] rfl rfl (by kernel_rfl) (fun _ _ _ h => h) (Or.inl ⟨by rfl, ?_⟩) hHeld ?_ ?_
          rotate_left
          · rintro w' ⟨s0, s1, s2, s3, s4⟩
            go_simp
            with_reducible rfl
          rotate_left
          · simp only [Act.put, List.setIfInBounds_toArray, List.set_cons_zero, List.set_cons_succ, i64_w, i32_w]
            rfl
          refine pure_ (i := 4) (N := some 75) (v := ?_) (a' := ?_) #[true, true, true, true, true, true, false, true, false, false, false, false] rfl rfl (by kernel_rfl) (fun _ _ _ h => h) (Or.inl ⟨by rfl, ?_⟩) ?_ ?_
          rotate_left
          · intro w'
            go_simp
            with_reducible rfl
          rotate_left
          · simp only [Act.put, List.setIfInBounds_toArray, List.set_cons_zero, List.set_cons_succ, i64_w, i32_w]
            rfl
          refine take_ (i := 6) (N := some 77) (v := _) (a' := ?_) #[true, true, true, true, true, true, true, true, false, false, false, false] rfl rfl (by kernel_rfl) (fun _ _ _ h => h) (mid_if (by rfl) 51 _ rfl Bx rfl _ (bys x.1.f1) 53 _ (fun _ hS => hS.2.2.1) Try.underlying51 rfl J1.out) hHeld ?_ ?_
          rotate_left
          · simp only [Act.put, List.setIfInBounds_toArray, List.set_cons_zero, List.set_cons_succ, i64_w, i32_w]
            rfl
          refine take_ (i := 8) (N := some 79) (v := _) (a' := ?_) #[true, true, true, true, true, true, true, true, true, false, false, false] rfl rfl (by kernel_rfl) (fun _ _ _ h => h) (mid_if (by rfl) 51 _ rfl g7 rfl _ (bys dp) 53 _ (fun _ hS => hS.2.2.2.1) Try.underlying51 rfl J2.out) hHeld ?_ ?_
          rotate_left
          · simp only [Act.put, List.setIfInBounds_toArray, List.set_cons_zero, List.set_cons_succ, i64_w, i32_w]
            rfl
          refine one_ (i := 9) (N := some 80) #[true, true, true, true, true, true, true, true, true, true, false, false] rfl rfl (by kernel_rfl) (by decide) (fun K hK => ?_)
          refine goes_ Try.func33 (by kernel_rfl) rfl #[.agg (bys x.1.f1).toArray, .agg (bys dp).toArray] (by rfl) rfl rfl (by simp only [List.map_toArray, List.map_cons, List.map_nil]; rfl) ?_
          refine (plus_calls x.1.f1 dp HXS.out.2.2 HDP.out _).mono ?_
          rintro e4 u4 ⟨rfl, hb⟩
          refine ⟨_, rfl, ?_⟩
          obtain ⟨t0, t1, t2, t3, t4⟩ := hHeld
          have t5 := t4.trans (hb.mono t4.size)
          refine hK.out _ _ ⟨(hb.cell (World.block_lt_of_cell? _ _ t0)).trans t0, (hb.cell (World.block_lt_of_cell? _ _ t1)).trans t1, (hb.block _ (Array.getElem?_eq_some_iff.1 t2).1).trans t2, (hb.block _ (Array.getElem?_eq_some_iff.1 t3).1).trans t3, t5⟩ (fun hHeld => ?_)
          clear hK K t0 t1 t2 t3 t4 t5 hb
          refine norm_ (a' := ?_) ?_ ?_
          rotate_left
          · show Act.put _ (some 80) _ = _
            simp only [Act.put, List.setIfInBounds_toArray, List.set_cons_zero, List.set_cons_succ, i64_w, i32_w]
            rfl
          refine pure_ (i := 10) (N := some 81) (v := .agg (.int .i64 ((x.m ^^^ mp : Nat) : Int) :: bys (xorD x.1.f1 dp)).toArray) (a' := ?_) #[true, true, true, true, true, true, true, true, true, true, true, false] rfl rfl (by kernel_rfl) (fun _ _ _ h => h) (Or.inl ⟨by rfl, ?_⟩) ?_ ?_
          · intro w'
            refine exec_build rfl (vs := #[(0, .int .i64 ((x.m ^^^ mp : Nat) : Int)), (1, .agg (bys (xorD x.1.f1 dp)).toArray)]) ?_ (run_build53 _ _ HLX.out _)
            simp only [List.map_toArray, List.map_cons, List.map_nil]
            rw [← HXOR.out]
            rfl
          rotate_left
          · simp only [Act.put, List.setIfInBounds_toArray, List.set_cons_zero, List.set_cons_succ, i64_w, i32_w]
            rfl
          refine last_ (i := 11) (N := none) #[true, true, true, true, true, true, true, true, true, true, true, true] rfl rfl (by kernel_rfl) (by decide) (fun K hK => ?_)
          obtain ⟨t0, t1, t2, t3, t4⟩ := hHeld
          refine skip_row (by rfl) rfl 53 _ _ rfl Bx (.int .i64 ((x.m ^^^ mp : Nat) : Int) :: bys (xorD x.1.f1 dp)) _ 53 rfl rfl t2 (by simp only [List.size_toArray, List.length_cons, bys_len, HXS.out.2.2, HLX.out]) J3.out (eq_one _ _) ?_
          intro w1 q1 q2 q3 q4
          refine hK.out _ _ ?_
          refine done_ (by kernel_rfl) ?_
          have h34 := t4.size
          have hq4 : Below w.heap.size u3 w1 := q4 _ _ (by omega) (t4.mono (by omega))
          have ho4 := outC_below (outC_below HO2.out S2.out) t4
          refine HREST2.out _ _ _ _ _ _ _ _ _ _ _ _ _ _ _ _ _ _ _ _ _ _ _ _ _ _ _ _ _ _ _ w1 (x.m ^^^ mp) (xorD x.1.f1 dp) HLX.out ((HK2.out.trans (keeps_of_below S2.out _)).trans ((keeps_of_below t4 _).trans (keeps_of_cells t2 q2 q3 _))) (HB3W.out.trans hq4) ?_ q1 ?_ (outC_write ho4 t2 (by decide) (by decide) (by omega) q2) (by omega) ?_
          · rw [q2 _ (by omega)]; exact t3
          · exact (q2 _ (by omega)).trans (boxed_block (boxed_block HP2.out S2.out) t4)
          · unfold mixE
            rw [if_pos (by simpa [FRow.m] using hbit)]
            rfl
      have hout2 : ∀ K2 : Act → World → Prop, ¬ LetsOut (Exit.then K2 (Exit.then K1 (Exit.inBlock 4 (ownPostG W0.heap.size (Below w.heap.size)
        (fun (pre : List FRow) W => W.heap[g7]? = some (.cells (.int .i64 (mp : Int) :: bys dp).toArray 53 (0, 0)) ∧ Boxed W (g11 + 1) 4 (.bool (insL (mp, dp) (pre.map Subtype.val)).2) ∧ OutC w.heap.size g11 (insL (mp, dp) (pre.map Subtype.val)).1 W ∧ Below w.heap.size w W ∧ W0.heap.size ≤ W.heap.size)
        (fun _ _ _ => False) (pre ++ [x]) U)))) := fun K2 ⟨_, _, h⟩ => h
      have HREST := Lib.hid rest
      clear rest hK1
      refine wpIn_seq_k (fun K2 hK2 => ?_)
      have hout := hout2 K2
      have cP := hbP.cell
      have H7U := Lib.hid h7U
      have HX := Lib.hid hx
      have BP := Lib.hid hbP
      have HO := Lib.hid hOut
      clear h7U hx hbP hOut
      cases pl
      · refine start_in (m := 9) (S := (fun V => V.cell? ⟨g11 + 1, 0, none⟩ = some (.bool false) ∧ V.heap[Bx]? = some (.cells (.int .i64 (x.m : Int) :: bys x.1.f1).toArray 53 (0, 0)) ∧ V.heap[g7]? = some (.cells (.int .i64 (mp : Int) :: bys dp).toArray 53 (0, 0)) ∧ Below U.heap.size U V)) (ds := []) #[false, false, false, false, false, false, false, false, false] (by kernel_rfl) (by rfl) hout rfl rfl ⟨cP, HX.out, H7U.out, (Below.refl _ _).drew⟩ (fun hHeld => ?_)
        refine take_ (i := 0) (N := some 51) (v := ?_) (a' := ?_) #[true, false, false, false, false, false, false, false, false] rfl rfl (by kernel_rfl) (fun _ _ _ h => h) (Or.inl ⟨by rfl, ?_⟩) hHeld ?_ ?_
        rotate_left
        · rintro w' ⟨s0, s1, s2, s3⟩
          go_simp
          with_reducible rfl
        rotate_left
        · simp only [Act.put, List.setIfInBounds_toArray, List.set_cons_zero, List.set_cons_succ, i64_w, i32_w]
          rfl
        refine pure_ (i := 1) (N := some 52) (v := ?_) (a' := ?_) #[true, true, false, false, false, false, false, false, false] rfl rfl (by kernel_rfl) (fun _ _ _ h => h) (Or.inl ⟨by rfl, ?_⟩) ?_ ?_
        rotate_left
        · intro w'
          go_simp
          with_reducible rfl
        rotate_left
        · simp only [Act.put, List.setIfInBounds_toArray, List.set_cons_zero, List.set_cons_succ, i64_w, i32_w]
          rfl
        refine pure_ (i := 2) (N := some 53) (v := ?_) (a' := ?_) #[true, true, true, false, false, false, false, false, false] rfl rfl (by kernel_rfl) (fun _ _ _ h => h) (Or.inl ⟨by rfl, ?_⟩) ?_ ?_
        rotate_left
        · intro w'
          go_simp
          with_reducible rfl
        rotate_left
        · simp only [Act.put, List.setIfInBounds_toArray, List.set_cons_zero, List.set_cons_succ, i64_w, i32_w]
          rfl
        refine take_ (i := 3) (N := some 54) (v := _) (a' := ?_) #[true, true, true, true, false, false, false, false, false] rfl rfl (by kernel_rfl) (fun _ _ _ h => h) (row_if (by rfl) 53 _ rfl Bx rfl (.int .i64 (x.m : Int) :: bys x.1.f1) 53 _ (fun _ hS => hS.2.1) Try.underlying53 rfl HI17.out) hHeld ?_ ?_
        rotate_left
        · simp only [Act.put, List.setIfInBounds_toArray, List.set_cons_zero, List.set_cons_succ, i64_w, i32_w]
          rfl
        refine take_ (i := 5) (N := some 56) (v := _) (a' := ?_) #[true, true, true, true, false, true, false, false, false] rfl rfl (by kernel_rfl) (fun _ _ _ h => h) (row_if (by rfl) 53 _ rfl g7 rfl (.int .i64 (mp : Int) :: bys dp) 53 _ (fun _ hS => hS.2.2.1) Try.underlying53 rfl HI7.out) hHeld ?_ ?_
        rotate_left
        · simp only [Act.put, List.setIfInBounds_toArray, List.set_cons_zero, List.set_cons_succ, i64_w, i32_w]
          rfl
        refine one_ (i := 4) (N := some 55) #[true, true, true, true, true, true, false, false, false] rfl rfl (by kernel_rfl) (by decide) (fun K hK => ?_)
        refine goes_ Try.func32 (by kernel_rfl) rfl #[.agg (.int .i64 (x.m : Int) :: bys x.1.f1).toArray] (by rfl) rfl rfl (by simp only [List.map_toArray, List.map_cons, List.map_nil]; rfl) ?_
        refine (leading_calls x.m hmx _ _).mono ?_
        rintro e1 u1 ⟨rfl, hb⟩
        refine ⟨_, rfl, ?_⟩
        obtain ⟨s0, s1, s2, s3⟩ := hHeld
        have tt := s3.trans (hb.mono s3.size)
        refine hK.out _ _ ⟨(hb.cell (World.block_lt_of_cell? _ _ s0)).trans s0, (hb.block _ (Array.getElem?_eq_some_iff.1 s1).1).trans s1, (hb.block _ (Array.getElem?_eq_some_iff.1 s2).1).trans s2, tt⟩ (fun hHeld => ?_)
        clear hK K tt hb s0 s1 s2 s3
        refine norm_ (a' := ?_) ?_ ?_
        rotate_left
        · show Act.put _ (some 55) _ = _
          simp only [Act.put, List.setIfInBounds_toArray, List.set_cons_zero, List.set_cons_succ, i64_w, i32_w]
          rfl
        refine one_ (i := 6) (N := some 57) #[true, true, true, true, true, true, true, false, false] rfl rfl (by kernel_rfl) (by decide) (fun K hK => ?_)
        refine goes_ Try.func32 (by kernel_rfl) rfl #[.agg (.int .i64 (mp : Int) :: bys dp).toArray] (by rfl) rfl rfl (by simp only [List.map_toArray, List.map_cons, List.map_nil]; rfl) ?_
        refine (leading_calls mp hmp _ _).mono ?_
        rintro e2 u2 ⟨rfl, hb⟩
        refine ⟨_, rfl, ?_⟩
        obtain ⟨s0, s1, s2, s3⟩ := hHeld
        have tt := s3.trans (hb.mono s3.size)
        refine hK.out _ _ ⟨(hb.cell (World.block_lt_of_cell? _ _ s0)).trans s0, (hb.block _ (Array.getElem?_eq_some_iff.1 s1).1).trans s1, (hb.block _ (Array.getElem?_eq_some_iff.1 s2).1).trans s2, tt⟩ (fun hHeld => ?_)
        clear hK K tt hb s0 s1 s2 s3
        refine norm_ (a' := ?_) ?_ ?_
        rotate_left
        · show Act.put _ (some 57) _ = _
          simp only [Act.put, List.setIfInBounds_toArray, List.set_cons_zero, List.set_cons_succ, i64_w, i32_w]
          rfl
        refine pure_ (i := 7) (N := some 58) (v := ?_) (a' := ?_) #[true, true, true, true, true, true, true, true, false] rfl rfl (by kernel_rfl) (fun _ _ _ h => h) (Or.inl ⟨by rfl, ?_⟩) ?_ ?_
        rotate_left
        · intro w'
          go_simp
          with_reducible rfl
        rotate_left
        · simp only [Act.put, List.setIfInBounds_toArray, List.set_cons_zero, List.set_cons_succ, i64_w, i32_w]
          rfl
        refine pure_ (i := 8) (N := some 59) (v := ?_) (a' := ?_) #[true, true, true, true, true, true, true, true, true] rfl rfl (by kernel_rfl) (fun _ _ _ h => h) (Or.inl ⟨by rfl, ?_⟩) ?_ ?_
        rotate_left
        · intro w'
          go_simp
          with_reducible rfl
        rotate_left
        · simp only [Act.put, List.setIfInBounds_toArray, List.set_cons_zero, List.set_cons_succ, i64_w, i32_w]
          rfl
        refine done_ (by kernel_rfl) ?_
        obtain ⟨t0, t1, t2, t3⟩ := hHeld
        have hu2 := t3.size
        have hwu2 : w.heap.size ≤ u2.heap.size := by omega
        refine hK2 _ _ ?_
        by_cases hlt : lead x.m < lead mp
        · refine wpIn_cond_true (by show Value.bool _ = _; congr 1; simp; omega) ?_
          obtain ⟨v, hbv, hSv⟩ := outC_below HO.out t3
          have cO := hbv.cell
          have BV := Lib.hid hbv
          have HSV := Lib.hid hSv
          have T3 := Lib.hid t3
          have T2 := Lib.hid t2
          have T1 := Lib.hid t1
          clear hbv hSv t3 hout hout2
          have hout : ¬ LetsOut (Exit.then K1 (Exit.inBlock 4 (ownPostG W0.heap.size (Below w.heap.size)
            (fun (pre : List FRow) W => W.heap[g7]? = some (.cells (.int .i64 (mp : Int) :: bys dp).toArray 53 (0, 0)) ∧ Boxed W (g11 + 1) 4 (.bool (insL (mp, dp) (pre.map Subtype.val)).2) ∧ OutC w.heap.size g11 (insL (mp, dp) (pre.map Subtype.val)).1 W ∧ Below w.heap.size w W ∧ W0.heap.size ≤ W.heap.size)
            (fun _ _ _ => False) (pre ++ [x]) U))) := fun ⟨_, _, h⟩ => h
          refine start_in (m := 7) (S := (fun V => V.cell? ⟨g11, 0, none⟩ = some v ∧ V.heap[g7]? = some (.cells (.int .i64 (mp : Int) :: bys dp).toArray 53 (0, 0)) ∧ Below u2.heap.size u2 V)) (ds := [4, 5, 6]) #[false, false, false, false, false, false, false] (by kernel_rfl) (by rfl) hout rfl rfl ⟨cO, t2, (Below.refl _ _).drew⟩ (fun hHeld => ?_)
          refine take_ (i := 0) (N := some 60) (v := ?_) (a' := ?_) #[true, false, false, false, false, false, false] rfl rfl (by kernel_rfl) (fun _ _ _ h => h) (Or.inl ⟨by rfl, ?_⟩) hHeld ?_ ?_
          rotate_left
          · rintro w' ⟨s0, s1, s2⟩
            go_simp
            with_reducible rfl
          rotate_left
          · simp only [Act.put, List.setIfInBounds_toArray, List.set_cons_zero, List.set_cons_succ, i64_w, i32_w]
            rfl
          refine take_ (i := 1) (N := some 61) (v := _) (a' := ?_) #[true, true, false, false, false, false, false] rfl rfl (by kernel_rfl) (fun _ _ _ h => h) (row_if (by rfl) 53 _ rfl g7 rfl (.int .i64 (mp : Int) :: bys dp) 53 _ (fun _ hS => hS.2.1) Try.underlying53 rfl HI7.out) hHeld ?_ ?_
          rotate_left
          · simp only [Act.put, List.setIfInBounds_toArray, List.set_cons_zero, List.set_cons_succ, i64_w, i32_w]
            rfl
          refine one_ (i := 2) (N := some 62) #[true, true, true, false, false, false, false] rfl rfl (by kernel_rfl) (by decide) (fun K hK => ?_)
          refine goes_ Try.func31 (by kernel_rfl) rfl #[.agg (.int .i64 (mp : Int) :: bys dp).toArray] (by rfl) rfl rfl (by simp only [List.map_toArray, List.map_cons, List.map_nil]; rfl) ?_
          refine (row_calls (mp : Int) dp HDP.out _).mono ?_
          rintro e u ⟨gr, hg1, rfl, hg3, hb⟩
          refine ⟨_, rfl, ?_⟩
          obtain ⟨s0, s1, s2⟩ := hHeld
          have hgrU : u2.heap.size ≤ gr := Nat.le_trans s2.size hg1
          have t2 := s2.trans (hb.mono s2.size)
          have HG3 := Lib.hid hg3
          refine hK.out _ _ ⟨(hb.cell (World.block_lt_of_cell? _ _ s0)).trans s0, (hb.block _ (Array.getElem?_eq_some_iff.1 s1).1).trans s1, t2⟩ (fun hHeld => ?_)
          clear hK K s0 s1 s2 t2 hb hg1 hg3
          refine norm_ (a' := ?_) ?_ ?_
          rotate_left
          · show Act.put _ (some 62) _ = _
            simp only [Act.put, List.setIfInBounds_toArray, List.set_cons_zero, List.set_cons_succ, i64_w, i32_w]
            rfl
          refine one_ (i := 3) (N := some 63) #[true, true, true, true, false, false, false] rfl rfl (by kernel_rfl) (by decide) (fun K hK => ?_)
          obtain ⟨s0, s1, s2⟩ := hHeld
          refine event_step (by rfl) (exec_bs rfl (vs := #[(0, .agg #[.int .i64 (mp : Int), .slice (some ⟨gr, 0, none⟩) 16 16])]) (by simp only [List.map_toArray, List.map_cons, List.map_nil]; rfl) (run_bs _ gr u)) ?_
          have HU2 := Lib.hid s2
          have ha := (Below.refl u.heap.size u).alloc (Nat.le_refl _) (.cells #[.int .i64 (mp : Int), .slice (some ⟨gr, 0, none⟩) 16 16] 25)
          refine hK.out _ _ ⟨(ha.cell (World.block_lt_of_cell? _ _ s0)).trans s0, (ha.block _ (Array.getElem?_eq_some_iff.1 s1).1).trans s1, s2.trans (ha.mono s2.size)⟩ (fun hHeld => ?_)
          clear hK K s0 s1 s2 ha
          refine norm_ (a' := ?_) ?_ ?_
          rotate_left
          · show Act.put _ (some 63) _ = _
            simp only [Act.put, List.setIfInBounds_toArray, List.set_cons_zero, List.set_cons_succ, i64_w, i32_w]
            rfl
          refine last_ (i := 4) (N := some 64) #[true, true, true, true, true, false, false] rfl rfl (by kernel_rfl) (by decide) (fun K hK => ?_)
          have s2 := HU2.out
          have hus := s2.size
          refine app_step (by rfl) (.tmp 60) (.tmp 63) rfl u2 u w.heap.size v (xs0) (mp : Int) dp gr rfl rfl (Kd.S_mono (Kd.S_below (Kd.S_bound HSV.out) s2) (fun k hk => by have := hk.2.2.1; omega)) HG3.out (by omega) HDP.out (s2.mono hwu2) (by omega) (by omega) ?_
          intro v1 w1 h1 h2 h3 h4
          obtain ⟨A', c', rfl⟩ := Kd.R_slice (Kd.S_R h1)
          have bv1 : Boxed w1 g11 22 v := h4 _ _ (boxed_block BV.out s2) (fun cs e => by cases e)
          refine hK.out _ _ ?_
          clear hK K
          refine norm_ (a' := ?_) ?_ ?_
          rotate_left
          · show Act.put _ (some 64) _ = _
            simp only [Act.put, List.setIfInBounds_toArray, List.set_cons_zero, List.set_cons_succ, i64_w, i32_w]
            rfl
          refine last_ (i := 5) (N := none) #[true, true, true, true, true, true, false] rfl rfl (by kernel_rfl) (by decide) (fun K hK => ?_)
          refine store_step (by rfl) rfl rfl rfl rfl (run_st22 g11 v w1 A' _ c' bv1) ?_
          refine hK.out _ _ ?_
          clear hK K
          have bp1 : Boxed w1 (g11 + 1) 4 (.bool false) := h4 _ _ (boxed_block (boxed_block BP.out T3.out) s2) (fun cs e => by cases e)
          have bp2 := bp1.other (B' := g11) (by omega) (.slice A' (xs0 ++ [(⟨(mp : Int), dp⟩ : S25)]).length c')
          refine last_ (i := 6) (N := none) #[true, true, true, true, true, true, true] rfl rfl (by kernel_rfl) (by decide) (fun K hK => ?_)
          refine store_step (by rfl) rfl rfl rfl rfl (run_st4 (g11 + 1) (.bool false) _ true bp2) ?_
          refine hK.out _ _ ?_
          refine done_ (by kernel_rfl) ?_
          have hBf : Below w.heap.size u2 ((w1.setCell ⟨g11, 0, none⟩ (.slice A' (xs0 ++ [(⟨(mp : Int), dp⟩ : S25)]).length c')).setCell ⟨g11 + 1, 0, none⟩ (.bool true)) := (h2.setCell (p := ⟨g11, 0, none⟩) hg9 _).setCell (p := ⟨g11 + 1, 0, none⟩) (by simp; omega) _
          have hrow : ∀ (k : Nat) (c : Array Value), k < g11 ∨ g11 + 1 < k → u2.heap[k]? = some (.cells c 53 (0, 0)) → ((w1.setCell ⟨g11, 0, none⟩ (.slice A' (xs0 ++ [(⟨(mp : Int), dp⟩ : S25)]).length c')).setCell ⟨g11 + 1, 0, none⟩ (.bool true)).heap[k]? = some (.cells c 53 (0, 0)) := by
            intro k c hk hc
            rw [Below.heap_setCell _ _ _ _ (by simp; omega), Below.heap_setCell _ _ _ _ (by simp; omega)]
            exact h4 _ _ ((HU2.out.block _ (Array.getElem?_eq_some_iff.1 hc).1).trans hc) (fun cs e => by cases e)
          have hs1 := S_own h1 bv1 (.slice A' (xs0 ++ [(⟨(mp : Int), dp⟩ : S25)]).length c')
          refine HREST.out _ _ _ _ _ _ _ _ _ _ _ _ _ _ _ (xs0 ++ [(⟨(mp : Int), dp⟩ : S25)]) true ((keeps_of_below T3.out _).trans ((((keeps_of_below HU2.out _).trans (keeps_app h3 h4 _)).trans (keeps_set bv1 _ _)).trans (keeps_set bp2 _ _))) ((T3.out.mono hwW).trans hBf) (hrow _ _ (by omega) T2.out) (hrow _ _ (by omega) T1.out) (bp2.set _)
            (outC_write ⟨_, bv1.set _, hs1⟩ bp2 (by decide) (by decide) (by omega) (fun k hk => Below.heap_setCell _ _ _ _ hk)) (by simp; omega) (by rw [World.size_setCell, World.size_setCell]; have := HU2.out.size; omega) ?_
          rw [HSN.out]
          unfold insStep
          rw [if_pos ⟨rfl, hlt⟩]
          simp [rowE]
        · refine wpIn_cond_false (by show Value.bool _ = _; congr 1; simp; omega) (wpIn_skip ?_)
          refine HREST.out _ _ _ _ _ _ _ _ _ _ _ _ _ _ u2 xs0 false (keeps_of_below t3 _) (t3.mono hwW) t2 t1 (boxed_block BP.out t3) (outC_below HO.out t3) (by omega) (by omega) ?_
          rw [HSN.out]
          unfold insStep
          rw [if_neg (fun h => hlt h.2)]
      · refine start_in (m := 9) (S := (fun V => V.cell? ⟨g11 + 1, 0, none⟩ = some (.bool true) ∧ Below U.heap.size U V)) (ds := []) #[false, false, false, false, false, false, false, false, false] (by kernel_rfl) (by rfl) hout rfl rfl ⟨cP, (Below.refl _ _).drew⟩ (fun hHeld => ?_)
        refine take_ (i := 0) (N := some 51) (v := ?_) (a' := ?_) #[true, false, false, false, false, false, false, false, false] rfl rfl (by kernel_rfl) (fun _ _ _ h => h) (Or.inl ⟨by rfl, ?_⟩) hHeld ?_ ?_
        rotate_left
        · rintro w' ⟨s0, s1⟩
          go_simp
          with_reducible rfl
        rotate_left
        · simp only [Act.put, List.setIfInBounds_toArray, List.set_cons_zero, List.set_cons_succ, i64_w, i32_w]
          rfl
        refine pure_ (i := 1) (N := some 52) (v := ?_) (a' := ?_) #[true, true, false, false, false, false, false, false, false] rfl rfl (by kernel_rfl) (fun _ _ _ h => h) (Or.inl ⟨by rfl, ?_⟩) ?_ ?_
        rotate_left
        · intro w'
          go_simp
          with_reducible rfl
        rotate_left
        · simp only [Act.put, List.setIfInBounds_toArray, List.set_cons_zero, List.set_cons_succ, i64_w, i32_w]
          rfl
        refine pure_ (i := 2) (N := some 53) (v := ?_) (a' := ?_) #[true, true, true, false, false, false, false, false, false] rfl rfl (by kernel_rfl) (fun _ _ _ h => h) (Or.inl ⟨by rfl, ?_⟩) ?_ ?_
        rotate_left
        · intro w'
          go_simp
          with_reducible rfl
        rotate_left
        · simp only [Act.put, List.setIfInBounds_toArray, List.set_cons_zero, List.set_cons_succ, i64_w, i32_w]
          rfl
        refine pure_ (i := 3) (N := some 54) (v := undef) (a' := ?_) #[true, true, true, true, false, false, false, false, false] rfl rfl (by kernel_rfl) (fun _ _ _ h => h) (Or.inr ⟨by rfl, rfl⟩) ?_ ?_
        rotate_left
        · simp only [Act.put, List.setIfInBounds_toArray, List.set_cons_zero, List.set_cons_succ, i64_w, i32_w]
          rfl
        refine pure_ (i := 4) (N := some 55) (v := undef) (a' := ?_) #[true, true, true, true, true, false, false, false, false] rfl rfl (by kernel_rfl) (fun _ _ _ h => h) (Or.inr ⟨by rfl, rfl⟩) ?_ ?_
        rotate_left
        · simp only [Act.put, List.setIfInBounds_toArray, List.set_cons_zero, List.set_cons_succ, i64_w, i32_w]
          rfl
        refine pure_ (i := 5) (N := some 56) (v := undef) (a' := ?_) #[true, true, true, true, true, true, false, false, false] rfl rfl (by kernel_rfl) (fun _ _ _ h => h) (Or.inr ⟨by rfl, rfl⟩) ?_ ?_
        rotate_left
        · simp only [Act.put, List.setIfInBounds_toArray, List.set_cons_zero, List.set_cons_succ, i64_w, i32_w]
          rfl
        refine pure_ (i := 6) (N := some 57) (v := undef) (a' := ?_) #[true, true, true, true, true, true, true, false, false] rfl rfl (by kernel_rfl) (fun _ _ _ h => h) (Or.inr ⟨by rfl, rfl⟩) ?_ ?_
        rotate_left
        · simp only [Act.put, List.setIfInBounds_toArray, List.set_cons_zero, List.set_cons_succ, i64_w, i32_w]
          rfl
        refine pure_ (i := 7) (N := some 58) (v := undef) (a' := ?_) #[true, true, true, true, true, true, true, true, false] rfl rfl (by kernel_rfl) (fun _ _ _ h => h) (Or.inr ⟨by rfl, rfl⟩) ?_ ?_
        rotate_left
        · simp only [Act.put, List.setIfInBounds_toArray, List.set_cons_zero, List.set_cons_succ, i64_w, i32_w]
          rfl
        refine pure_ (i := 8) (N := some 59) (v := ?_) (a' := ?_) #[true, true, true, true, true, true, true, true, true] rfl rfl (by kernel_rfl) (fun _ _ _ h => h) (Or.inl ⟨by rfl, ?_⟩) ?_ ?_
        rotate_left
        · intro w'
          go_simp
          with_reducible rfl
        rotate_left
        · simp only [Act.put, List.setIfInBounds_toArray, List.set_cons_zero, List.set_cons_succ, i64_w, i32_w]
          rfl
        refine done_ (by kernel_rfl) ?_
        obtain ⟨t0, t1⟩ := hHeld
        refine hK2 _ _ (wpIn_cond_false rfl (wpIn_skip ?_))
        refine HREST.out _ _ _ _ _ _ _ _ _ _ _ _ _ _ _ xs0 true (keeps_of_below t1 _) (t1.mono hwW) ((t1.block _ (Array.getElem?_eq_some_iff.1 H7U.out).1).trans H7U.out) ((t1.block _ (Array.getElem?_eq_some_iff.1 HX.out).1).trans HX.out) (boxed_block BP.out t1) (outC_below HO.out t1) (by omega) (by have := t1.size; omega) ?_
        rw [HSN.out]
        unfold insStep
        rw [if_neg (fun h => by cases h.1)]
    case done =>
      rintro D xs U hD hxs ⟨h7D, hbP, hOut, hB2, hz2⟩ hKm
      have hx2 : xs.map Subtype.val = zs := by rw [hxs]; exact HFZ.out
      rw [hx2] at hbP hOut
      have hil := insL_len (mp, dp) zs
      generalize hst : insL (mp, dp) zs = st at hbP hOut hil
      obtain ⟨xs0, pl⟩ := st
      simp only at hbP hOut hil
      obtain ⟨v, hbv, hSv⟩ := hOut
      have hwW := hB2.size
      have cO := hbv.cell
      have cP := hbP.cell
      have BV := Lib.hid hbv
      have BP := Lib.hid hbP
      have HSV := Lib.hid hSv
      have H7D := Lib.hid h7D
      have HKm := Lib.hid hKm
      have HST := Lib.hid hst
      have hi17' : (Try.prog.info? 53).map (·.size) = some (Value.int .i64 (mp : Int) :: bys dp).length := by rw [HL2.out]; exact size53
      have HI7 := Lib.hid hi17'
      clear hxs hx2 hbv hbP hSv h7D hKm hst hi17' hO b5 hPP h7
      cases pl
      · go_wp2
        refine wp_normal ?_
        refine start_ (n := 6) (S := (fun V => V.cell? ⟨g11, 0, none⟩ = some v ∧ V.heap[g7]? = some (.cells (.int .i64 (mp : Int) :: bys dp).toArray 53 (0, 0)) ∧ Below U.heap.size U V)) (ds := [4, 5]) #[false, false, false, false, false, false] (by kernel_rfl) rfl rfl ⟨cO, H7D.out, (Below.refl _ _).drew⟩ (fun hHeld => ?_)
        refine take_ (i := 0) (N := some 89) (v := ?_) (a' := ?_) #[true, false, false, false, false, false] rfl rfl (by kernel_rfl) (fun _ _ _ h => h) (Or.inl ⟨by rfl, ?_⟩) hHeld ?_ ?_
        rotate_left
        · rintro w' ⟨s0, s1, s2⟩
          go_simp
          with_reducible rfl
        rotate_left
        · simp only [Act.put, List.setIfInBounds_toArray, List.set_cons_zero, List.set_cons_succ, i64_w, i32_w]
          rfl
        refine take_ (i := 1) (N := some 90) (v := _) (a' := ?_) #[true, true, false, false, false, false] rfl rfl (by kernel_rfl) (fun _ _ _ h => h) (row_if (by rfl) 53 _ rfl g7 rfl (.int .i64 (mp : Int) :: bys dp) 53 _ (fun _ hS => hS.2.1) Try.underlying53 rfl HI7.out) hHeld ?_ ?_
        rotate_left
        · simp only [Act.put, List.setIfInBounds_toArray, List.set_cons_zero, List.set_cons_succ, i64_w, i32_w]
          rfl
        refine one_ (i := 2) (N := some 91) #[true, true, true, false, false, false] rfl rfl (by kernel_rfl) (by decide) (fun K hK => ?_)
        refine goes_ Try.func31 (by kernel_rfl) rfl #[.agg (.int .i64 (mp : Int) :: bys dp).toArray] (by rfl) rfl rfl (by simp only [List.map_toArray, List.map_cons, List.map_nil]; rfl) ?_
        refine (row_calls (mp : Int) dp HDP.out _).mono ?_
        rintro e u ⟨gr, hg1, rfl, hg3, hb⟩
        refine ⟨_, rfl, ?_⟩
        obtain ⟨s0, s1, s2⟩ := hHeld
        have hgrU : U.heap.size ≤ gr := Nat.le_trans s2.size hg1
        have t2 := s2.trans (hb.mono s2.size)
        have HG3 := Lib.hid hg3
        refine hK.out _ _ ⟨(hb.cell (World.block_lt_of_cell? _ _ s0)).trans s0, (hb.block _ (Array.getElem?_eq_some_iff.1 s1).1).trans s1, t2⟩ (fun hHeld => ?_)
        clear hK K s0 s1 s2 t2 hb hg1 hg3
        refine norm_ (a' := ?_) ?_ ?_
        rotate_left
        · show Act.put _ (some 91) _ = _
          simp only [Act.put, List.setIfInBounds_toArray, List.set_cons_zero, List.set_cons_succ, i64_w, i32_w]
          rfl
        refine one_ (i := 3) (N := some 92) #[true, true, true, true, false, false] rfl rfl (by kernel_rfl) (by decide) (fun K hK => ?_)
        obtain ⟨s0, s1, s2⟩ := hHeld
        refine event_step (by rfl) (exec_bs rfl (vs := #[(0, .agg #[.int .i64 (mp : Int), .slice (some ⟨gr, 0, none⟩) 16 16])]) (by simp only [List.map_toArray, List.map_cons, List.map_nil]; rfl) (run_bs _ gr u)) ?_
        have HU2 := Lib.hid s2
        have ha := (Below.refl u.heap.size u).alloc (Nat.le_refl _) (.cells #[.int .i64 (mp : Int), .slice (some ⟨gr, 0, none⟩) 16 16] 25)
        refine hK.out _ _ ⟨(ha.cell (World.block_lt_of_cell? _ _ s0)).trans s0, (ha.block _ (Array.getElem?_eq_some_iff.1 s1).1).trans s1, s2.trans (ha.mono s2.size)⟩ (fun hHeld => ?_)
        clear hK K s0 s1 s2 ha
        refine norm_ (a' := ?_) ?_ ?_
        rotate_left
        · show Act.put _ (some 92) _ = _
          simp only [Act.put, List.setIfInBounds_toArray, List.set_cons_zero, List.set_cons_succ, i64_w, i32_w]
          rfl
        refine last_ (i := 4) (N := some 93) #[true, true, true, true, true, false] rfl rfl (by kernel_rfl) (by decide) (fun K hK => ?_)
        have s2 := HU2.out
        have hus := s2.size
        refine app_step (by rfl) (.tmp 89) (.tmp 92) rfl U u w.heap.size v (xs0) (mp : Int) dp gr rfl rfl (Kd.S_mono (Kd.S_below (Kd.S_bound HSV.out) s2) (fun k hk => by have := hk.2.2.1; omega)) HG3.out (by omega) HDP.out (s2.mono hwW) (by omega) (by omega) ?_
        intro v1 w1 h1 h2 h3 h4
        obtain ⟨A', c', rfl⟩ := Kd.R_slice (Kd.S_R h1)
        have bv1 : Boxed w1 g11 22 v := h4 _ _ (boxed_block BV.out s2) (fun cs e => by cases e)
        refine hK.out _ _ ?_
        clear hK K
        refine norm_ (a' := ?_) ?_ ?_
        rotate_left
        · show Act.put _ (some 93) _ = _
          simp only [Act.put, List.setIfInBounds_toArray, List.set_cons_zero, List.set_cons_succ, i64_w, i32_w]
          rfl
        refine last_ (i := 5) (N := none) #[true, true, true, true, true, true] rfl rfl (by kernel_rfl) (by decide) (fun K hK => ?_)
        refine store_step (by rfl) rfl rfl rfl rfl (run_st22 g11 v w1 A' _ c' bv1) ?_
        refine hK.out _ _ ?_
        refine done_ (by kernel_rfl) ?_
        have bvf := bv1.set (.slice A' (xs0 ++ [(⟨(mp : Int), dp⟩ : S25)]).length c')
        have hSf := S_own h1 bv1 (.slice A' (xs0 ++ [(⟨(mp : Int), dp⟩ : S25)]).length c')
        have hBf : Below w.heap.size U (w1.setCell ⟨g11, 0, none⟩ (.slice A' (xs0 ++ [(⟨(mp : Int), dp⟩ : S25)]).length c')) := h2.setCell (p := ⟨g11, 0, none⟩) hg9 _
        have hKf : (w1.setCell ⟨g11, 0, none⟩ (.slice A' (xs0 ++ [(⟨(mp : Int), dp⟩ : S25)]).length c')).heap[D]? = some (.deferred (some [])) := by
          rw [Below.heap_setCell _ _ _ _ (by simp; omega)]
          exact h4 _ _ ((HU2.out.block _ (Array.getElem?_eq_some_iff.1 HKm.out).1).trans HKm.out) (fun cs e => by cases e)
        have hans2 : insS (mp, dp) zs = xs0 ++ [(⟨(mp : Int), dp⟩ : S25)] := by
          unfold insS; rw [HST.out]; rfl
        generalize w1.setCell ⟨g11, 0, none⟩ (.slice A' (xs0 ++ [(⟨(mp : Int), dp⟩ : S25)]).length c') = V at *
        have cO2 := bvf.cell
        have HSF := Lib.hid hSf
        have HKF := Lib.hid hKf
        clear hSf hKf bvf h1 h2 h3 h4 bv1 cO cP
        go_wp2
        refine ⟨by simp, .inl ⟨_, _, rfl, run_takeDeferred HKF.out, ?_⟩⟩
        refine ⟨.tuple #[.slice A' (xs0 ++ [(⟨(mp : Int), dp⟩ : S25)]).length c', .bool true, .int .i64 0], by simp [results, Try.results12, go_sem], ?_⟩
        rw [HANS.out, hans2]
        exact add_fin HSF.out HKF.out (by omega) (hB2.trans hBf)
      · go_wp2
        have hans2 : insS (mp, dp) zs = xs0 := by
          unfold insS; rw [HST.out]; rfl
        obtain ⟨A', c', rfl⟩ := Kd.R_slice (Kd.S_R HSV.out)
        refine ⟨by simp, .inl ⟨_, _, rfl, run_takeDeferred HKm.out, ?_⟩⟩
        refine ⟨.tuple #[.slice A' xs0.length c', .bool true, .int .i64 0], by simp [results, Try.results12, go_sem], ?_⟩
        rw [HANS.out, hans2]
        exact add_fin HSV.out HKm.out (by omega) hB2
    case stop =>
      rintro D c pre W _ _ h _
      exact h.elim
end Go.Proofs.Ytknlbeojdmeljaa.H
namespace Go.Proofs.Ytknlbeojdmeljaa.P
open Go.RowKit Go.Proofs.YtknlbeojdmeljaaW.PrintWords Go.Proofs.YtknlbeojdmeljaaW.PrintLast Go.Proofs.YtknlbeojdmeljaaW.PrintMore
attribute [local go_sem] max2_int min2_int max_two min_two max_three min_three max_four min_four   -- for this text's walks alone
set_option linter.unusedVariables false
set_option linter.unusedSimpArgs false
mutual
def slotmeshref33_Valid.l0 : Nat → List (S25) → Int → Option (Bool)
  | 0, _, _ => none
  | k + 1, x0, x3 => if x3 < (x0.length : Int) then (if 0 ≤ x3 then ((slotmeshref33_Formed.f ((rd_T25 x0 x3).f0) ((rd_T25 x0 x3).f1)).bind fun t111 => (if t111 = true then (if x3 > 0 then (if 0 ≤ (wrap64 (x3 - 1)) then (if (wrap64 (x3 - 1)) < (x0.length : Int) then ((slotmeshref33_Leading.f k ((rd_T25 x0 (wrap64 (x3 - 1))).f0)).bind fun t113 => ((slotmeshref33_Leading.f k ((rd_T25 x0 x3).f0)).bind fun t115 => (if t113 ≤ t115 then (some false) else (slotmeshref33_Valid.l0 k x0 (wrap64 (x3 + 1)))))) else (none)) else (none)) else (slotmeshref33_Valid.l0 k x0 (wrap64 (x3 + 1)))) else (some false))) else (none)) else (slotmeshref33_Valid.l1 k x0 0)
def slotmeshref33_Valid.l1 : Nat → List (S25) → Int → Option (Bool)
  | 0, _, _ => none
  | k + 1, x0, x4 => if x4 < (x0.length : Int) then (slotmeshref33_Valid.l2 k x0 x4 0) else (some true)
def slotmeshref33_Valid.l2 : Nat → List (S25) → Int → Int → Option (Bool)
  | 0, _, _, _ => none
  | k + 1, x0, x4, x5 => if x5 < (x0.length : Int) then (if x4 = x5 then (slotmeshref33_Valid.l2 k x0 x4 (wrap64 (x5 + 1))) else (if 0 ≤ x5 then (if 0 ≤ x4 then (if x4 < (x0.length : Int) then ((slotmeshref33_Leading.f k ((rd_T25 x0 x4).f0)).bind fun t118 => (if (Go.bits .and .i64 ((rd_T25 x0 x5).f0) t118) = 0 then (slotmeshref33_Valid.l2 k x0 x4 (wrap64 (x5 + 1))) else (some false))) else (none)) else (none)) else (none))) else (slotmeshref33_Valid.l1 k x0 (wrap64 (x4 + 1)))
end
def slotmeshref33_Valid.f (k : Nat) (l0 : List (S25)) : Option (Bool) := slotmeshref33_Valid.l0 k l0 0
def slotmeshref33_Valid.T4 : Bool × List (List Nat × List Nat) := (true, [([], []), ([], []), ([0, 1], [0, 1]), ([2], [2]), ([3], [3]), ([4], [4]), ([5, 4], [5]), ([6], [6]), ([7, 6], [6, 7]), ([8, 6, 6], [6, 8]), ([9], [9]), ([9], [9]), ([11, 9], [9, 11]), ([10, 12, 9], [9, 10, 12]), ([13, 9], [9, 13]), ([14, 9], [9, 14]), ([15, 9, 9], [9, 15]), ([9], [9]), ([9], [9]), ([17, 18, 9], [9, 17, 18]), ([19, 9], [9, 19]), ([20, 9], [9, 20]), ([21, 16, 9], [9, 21]), ([16, 22, 9], [9, 16, 22]), ([9, 23, 6], [6, 9, 23]), ([6, 24], [6, 24])])
def slotmeshref33_Valid.B4 : List Nat := [0, 0, 3, 7, 15, 31, 63, 127, 255, 511, 1023, 1023, 3071, 8191, 16383, 32767, 65535, 1023, 1023, 394239, 918527, 1967103, 4194303, 8388607, 16777215, 33554431]
theorem slotmeshref33_Valid.tab4 : rtab .any (opsOf Try.f21 4) = slotmeshref33_Valid.T4 := by kernel_rfl
theorem slotmeshref33_Valid.bits4 : waitsOk slotmeshref33_Valid.T4.2 slotmeshref33_Valid.B4 = true := by kernel_rfl
def slotmeshref33_Valid.T12 : Bool × List (List Nat × List Nat) := (true, [([], []), ([], []), ([0, 1], [0, 1]), ([2], [2]), ([3], [3]), ([3], [3]), ([4, 5, 3], [3, 4, 5]), ([6, 3], [3, 6]), ([7, 3], [3, 7]), ([3], [3]), ([3], [3]), ([9, 10, 3], [3, 9, 10]), ([11, 3], [3, 11]), ([12, 3], [3, 12]), ([13, 3, 3], [3, 13]), ([8, 14, 3], [3, 8, 14]), ([15, 3], [3, 15]), ([3, 16], [3, 16])])
def slotmeshref33_Valid.B12 : List Nat := [0, 0, 3, 7, 15, 15, 63, 127, 255, 15, 15, 1551, 3599, 7695, 15887, 32767, 65535, 131071]
theorem slotmeshref33_Valid.tab12 : rtab .any (opsOf Try.f21 12) = slotmeshref33_Valid.T12 := by kernel_rfl
theorem slotmeshref33_Valid.bits12 : waitsOk slotmeshref33_Valid.T12.2 slotmeshref33_Valid.B12 = true := by kernel_rfl
set_option maxHeartbeats 8000000 in
set_option maxRecDepth 100000 in
theorem slotmeshref33_Valid.calls (k : Nat) (A0 : Option Addr) (c0 : Nat) (l0 : List (S25)) (r : Bool) (w : World) (hr0 : Kd.C k25 w A0 l0.length l0) (hc0 : l0.length ≤ c0) (h : slotmeshref33_Valid.f k l0 = some r) :
    Calls Try.prog 21 #[.slice A0 l0.length c0] w fun e w' => e = .returned (.bool r) ∧ Below w.heap.size w w' := by
  have hu25 := Try.underlying25
  have HR0 := Aside0.mk hr0
  have HC0 := Aside0.mk hc0
  clear hr0 hc0
  have HB := Aside0.mk (Below.refl w.heap.size w)
  have H : (slotmeshref33_Valid.l0 k l0 0) = some r := h
  clear h
  have H' := Aside0.mk H
  clear H
  go_enter Try.func21, Try.ntmps21
  go_wp2
  go_loopg [3] k (fun kq v3 w' => ∃ (x3_1 : Int), v3 = .int .i64 x3_1 ∧ Aside0 (slotmeshref33_Valid.l0 kq l0 x3_1 = some r) ∧ Aside0 (kq ≤ k) ∧ Aside0 (Below w.heap.size w w'))
  case atStart => exact ⟨(0), (by first | rfl | (simp; done) | (simp [*]; done)), H', ⟨Nat.le_refl _⟩, ⟨by repeat (first | (with_reducible first | exact HB.out | apply below_alloc | apply pw_below_drewN | apply below_drew1) | exact HB.out)⟩⟩
  case round =>
    clear H'
    obtain ⟨x3_1, rfl, HA, HK1, HB⟩ := hrel
    cases gk with
    | zero => exact absurd HA.out (by simp [slotmeshref33_Valid.l0])
    | succ k1 =>
      have H := HA.out
      clear HA
      simp only [slotmeshref33_Valid.l0] at H
      by_cases c2 : x3_1 < (l0.length : Int)
      · rw [if_pos c2] at H
        have c2b0 : decide (x3_1 < (l0.length : Int)) = true := decide_eq_true c2
        clear c2
        by_cases c3 : 0 ≤ x3_1
        · rw [if_pos c3] at H
          have c3b0 : decide (0 ≤ x3_1) = true := decide_eq_true c3
          clear c3
          replace H := Option.bind_eq_some_iff.mp H
          obtain ⟨t111, A40, H⟩ := H
          replace H : (if t111 = true then (if x3_1 > 0 then (if 0 ≤ (wrap64 (x3_1 - 1)) then (if (wrap64 (x3_1 - 1)) < (l0.length : Int) then ((slotmeshref33_Leading.f k1 ((rd_T25 l0 (wrap64 (x3_1 - 1))).f0)).bind fun t113 => ((slotmeshref33_Leading.f k1 ((rd_T25 l0 x3_1).f0)).bind fun t115 => (if t113 ≤ t115 then (some false) else (slotmeshref33_Valid.l0 k1 l0 (wrap64 (x3_1 + 1)))))) else (none)) else (none)) else (slotmeshref33_Valid.l0 k1 l0 (wrap64 (x3_1 + 1)))) else (some false)) = some r := H
          have A4 := Aside0.mk A40
          clear A40
          by_cases c5 : t111 = true
          · subst c5
            have H1 : (if x3_1 > 0 then (if 0 ≤ (wrap64 (x3_1 - 1)) then (if (wrap64 (x3_1 - 1)) < (l0.length : Int) then ((slotmeshref33_Leading.f k1 ((rd_T25 l0 (wrap64 (x3_1 - 1))).f0)).bind fun t113 => ((slotmeshref33_Leading.f k1 ((rd_T25 l0 x3_1).f0)).bind fun t115 => (if t113 ≤ t115 then (some false) else (slotmeshref33_Valid.l0 k1 l0 (wrap64 (x3_1 + 1)))))) else (none)) else (none)) else (slotmeshref33_Valid.l0 k1 l0 (wrap64 (x3_1 + 1)))) = some r := by rw [if_pos rfl] at H; exact H
            clear H
            have H := H1
            clear H1
            by_cases c6 : x3_1 > 0
            · rw [if_pos c6] at H
              have c6b0 : decide (0 < x3_1) = true := decide_eq_true c6
              clear c6
              obtain ⟨ji7, hji7⟩ : ∃ j_ : Int, (wrap64 (x3_1 - 1)) = j_ := ⟨_, rfl⟩
              replace H : (if 0 ≤ (ji7) then (if (ji7) < (l0.length : Int) then ((slotmeshref33_Leading.f k1 ((rd_T25 l0 (ji7)).f0)).bind fun t113 => ((slotmeshref33_Leading.f k1 ((rd_T25 l0 x3_1).f0)).bind fun t115 => (if t113 ≤ t115 then (some false) else (slotmeshref33_Valid.l0 k1 l0 (wrap64 (x3_1 + 1)))))) else (none)) else (none)) = some r := by first | (rw [hji7] at H; exact H) | (simp only [hji7] at H ⊢; exact H)
              (try rw [hji7] at A4)
              have hji7w : (IntKind.i64.wrap (x3_1 - 1)) = ji7 := (i64_w _).trans hji7
              by_cases c8 : 0 ≤ (ji7)
              · rw [if_pos c8] at H
                have c8b0 : decide (0 ≤ (ji7)) = true := decide_eq_true c8
                clear c8
                by_cases c9 : (ji7) < (l0.length : Int)
                · rw [if_pos c9] at H
                  have c9b0 : decide ((ji7) < (l0.length : Int)) = true := decide_eq_true c9
                  clear c9
                  replace H := Option.bind_eq_some_iff.mp H
                  obtain ⟨t113, A100, H⟩ := H
                  replace H : ((slotmeshref33_Leading.f k1 ((rd_T25 l0 x3_1).f0)).bind fun t115 => (if t113 ≤ t115 then (some false) else (slotmeshref33_Valid.l0 k1 l0 (wrap64 (x3_1 + 1))))) = some r := H
                  have A10 := Aside0.mk A100
                  clear A100
                  replace H := Option.bind_eq_some_iff.mp H
                  obtain ⟨t115, A110, H⟩ := H
                  replace H : (if t113 ≤ t115 then (some false) else (slotmeshref33_Valid.l0 k1 l0 (wrap64 (x3_1 + 1)))) = some r := H
                  have A11 := Aside0.mk A110
                  clear A110
                  by_cases c12 : t113 ≤ t115
                  · rw [if_pos c12] at H
                    have c12b0 : decide (t113 ≤ t115) = true := decide_eq_true c12
                    clear c12
                    obtain rfl := Option.some.inj H
                    try go_wp2
                    have n0_ := Aside0.mk (below_drew1 HB.out)
                    clear HB
                    have HB := n0_
                    clear n0_
                    have p110 : 0 ≤ (x3_1 : Int) := of_decide_eq_true (by first | (with_reducible assumption) | assumption)
                    have q110 : x3_1 < (l0.length : Int) := of_decide_eq_true (by first | (with_reducible assumption) | assumption)
                    obtain ⟨ad110, A110_1, c110_1, e110, hx110_0, hx110_1, hl110_1, hi110_1⟩ := at_T25 HR0.out x3_1 p110 q110
                    have hw110_1 := hx110_1
                    have hw110_0 := hx110_0
                    cases e110
                    replace hx110_0 := (HB.out.cell (World.block_lt_of_cell? w _ hx110_0)).trans hx110_0
                    replace hx110_1 := (HB.out.cell (World.block_lt_of_cell? w _ hx110_1)).trans hx110_1
                    have HR110_1 := Aside0.mk hi110_1
                    have HC110_1 := Aside0.mk hl110_1
                    clear hi110_1 hl110_1
                    replace p110 := eq_true p110
                    replace q110 := eq_true q110
                    have p112 : 0 ≤ ((ji7) : Int) := of_decide_eq_true (by first | (with_reducible assumption) | assumption)
                    have q112 : (ji7) < (l0.length : Int) := of_decide_eq_true (by first | (with_reducible assumption) | assumption)
                    obtain ⟨ad112, A112_1, c112_1, e112, hx112_0, hx112_1, hl112_1, hi112_1⟩ := at_T25 HR0.out (ji7) p112 q112
                    have hw112_1 := hx112_1
                    have hw112_0 := hx112_0
                    obtain rfl : ad110 = ad112 := (by injection e112)
                    replace hx112_0 := (HB.out.cell (World.block_lt_of_cell? w _ hx112_0)).trans hx112_0
                    replace hx112_1 := (HB.out.cell (World.block_lt_of_cell? w _ hx112_1)).trans hx112_1
                    have HR112_1 := Aside0.mk hi112_1
                    have HC112_1 := Aside0.mk hl112_1
                    clear hi112_1 hl112_1
                    replace p112 := eq_true p112
                    replace q112 := eq_true q112
                    have p114 : 0 ≤ (x3_1 : Int) := of_decide_eq_true (by first | (with_reducible assumption) | assumption)
                    have q114 : x3_1 < (l0.length : Int) := of_decide_eq_true (by first | (with_reducible assumption) | assumption)
                    obtain ⟨ad114, A114_1, c114_1, e114, hx114_0, hx114_1, hl114_1, hi114_1⟩ := at_T25 HR0.out x3_1 p114 q114
                    have hw114_1 := hx114_1
                    have hw114_0 := hx114_0
                    obtain rfl : ad110 = ad114 := (by injection e114)
                    replace hx114_0 := (HB.out.cell (World.block_lt_of_cell? w _ hx114_0)).trans hx114_0
                    replace hx114_1 := (HB.out.cell (World.block_lt_of_cell? w _ hx114_1)).trans hx114_1
                    have HR114_1 := Aside0.mk hi114_1
                    have HC114_1 := Aside0.mk hl114_1
                    clear hi114_1 hl114_1
                    replace p114 := eq_true p114
                    replace q114 := eq_true q114
                    refine start_ (n := 26) (S := fun w' => w'.cell? (ad110.add ((x3_1).toNat * 2)) = some (.int .i64 ((rd_T25 l0 x3_1).f0)) ∧ w'.cell? ⟨(ad110.add ((x3_1).toNat * 2)).block, (ad110.add ((x3_1).toNat * 2)).off + 1, none⟩ = some (.slice A110_1 ((rd_T25 l0 x3_1).f1).length c110_1) ∧ w'.cell? (ad110.add (((ji7)).toNat * 2)) = some (.int .i64 ((rd_T25 l0 (ji7)).f0)) ∧ w'.cell? ⟨(ad110.add (((ji7)).toNat * 2)).block, (ad110.add (((ji7)).toNat * 2)).off + 1, none⟩ = some (.slice A112_1 ((rd_T25 l0 (ji7)).f1).length c112_1) ∧ w'.cell? (ad110.add ((x3_1).toNat * 2)) = some (.int .i64 ((rd_T25 l0 x3_1).f0)) ∧ w'.cell? ⟨(ad110.add ((x3_1).toNat * 2)).block, (ad110.add ((x3_1).toNat * 2)).off + 1, none⟩ = some (.slice A114_1 ((rd_T25 l0 x3_1).f1).length c114_1)) (ds := []) #[false, false, false, false, false, false, false, false, false, false, false, false, false, false, false, false, false, false, false, false, false, false, false, false, false, false] (by kernel_rfl) rfl rfl ⟨((HB.out.cell (World.block_lt_of_cell? w _ hw110_0)).trans hw110_0), ((HB.out.cell (World.block_lt_of_cell? w _ hw110_1)).trans hw110_1), ((HB.out.cell (World.block_lt_of_cell? w _ hw112_0)).trans hw112_0), ((HB.out.cell (World.block_lt_of_cell? w _ hw112_1)).trans hw112_1), ((HB.out.cell (World.block_lt_of_cell? w _ hw114_0)).trans hw114_0), ((HB.out.cell (World.block_lt_of_cell? w _ hw114_1)).trans hw114_1)⟩ (fun hHeld => ?_); refine with_tabW slotmeshref33_Valid.tab4 slotmeshref33_Valid.bits4 (fun HT_ HW_ => ?_)
                    generalize wr.drew = w13 at HB HR110_1 HR112_1 HR114_1 hx110_0 hx110_1 hx112_0 hx112_1 hx114_0 hx114_1 hHeld ⊢
                    refine pure_ (i := 0) (N := some 12) (v := ?_) (a' := ?_) #[true, false, false, false, false, false, false, false, false, false, false, false, false, false, false, false, false, false, false, false, false, false, false, false, false, false] rfl rfl (any_of HT_.out (by kernel_rfl)) (fun _ _ _ h => h) (Or.inl ⟨by rfl, ?_⟩) ?_ ?_
                    rotate_left
                    · intro w'
                      go_simp
                      with_reducible rfl
                    rotate_left
                    · simp only [Act.put, List.setIfInBounds_toArray, List.set_cons_zero, List.set_cons_succ, i64_w, i32_w]
                      rfl
                    refine pure_ (i := 1) (N := some 13) (v := ?_) (a' := ?_) #[true, true, false, false, false, false, false, false, false, false, false, false, false, false, false, false, false, false, false, false, false, false, false, false, false, false] rfl rfl (any_of HT_.out (by kernel_rfl)) (fun _ _ _ h => h) (Or.inl ⟨by rfl, ?_⟩) ?_ ?_
                    rotate_left
                    · intro w'
                      go_simp
                      with_reducible rfl
                    rotate_left
                    · simp only [Act.put, List.setIfInBounds_toArray, List.set_cons_zero, List.set_cons_succ, i64_w, i32_w]
                      rfl
                    refine pure_ (i := 2) (N := some 14) (v := ?_) (a' := ?_) #[true, true, true, false, false, false, false, false, false, false, false, false, false, false, false, false, false, false, false, false, false, false, false, false, false, false] rfl rfl (any_of HT_.out (by kernel_rfl)) (fun _ _ _ h => h) (Or.inl ⟨by rfl, ?_⟩) ?_ ?_
                    rotate_left
                    · intro w'
                      go_simp
                      with_reducible rfl
                    rotate_left
                    · simp only [Act.put, List.setIfInBounds_toArray, List.set_cons_zero, List.set_cons_succ, i64_w, i32_w]
                      rfl
                    refine take_ (i := 3) (N := some 15) (v := ?_) (a' := ?_) #[true, true, true, true, false, false, false, false, false, false, false, false, false, false, false, false, false, false, false, false, false, false, false, false, false, false] rfl rfl (take_ofW HT_.out HW_.out (by kernel_rfl)) (fun _ _ _ h => h) (Or.inl ⟨by rfl, ?_⟩) hHeld ?_ ?_
                    rotate_left
                    · rintro w' ⟨s0, s1, s2, s3, s4, s5⟩
                      go_simp
                      with_reducible rfl
                    rotate_left
                    · simp only [Act.put, List.setIfInBounds_toArray, List.set_cons_zero, List.set_cons_succ, i64_w, i32_w]
                      rfl
                    refine one_ (i := 4) (N := some 16) #[true, true, true, true, true, false, false, false, false, false, false, false, false, false, false, false, false, false, false, false, false, false, false, false, false, false] rfl rfl (one_of HT_.out (by kernel_rfl)) (by decide) (fun K hK => ?_)
                    refine goes_ Try.func24 (by kernel_rfl) rfl #[.agg #[.int .i64 ((rd_T25 l0 x3_1).f0), .slice A110_1 ((rd_T25 l0 x3_1).f1).length c110_1]] (by rfl) rfl rfl (by (try simp only [List.map_toArray, List.map_cons, List.map_nil]); first | done | rfl | (simp only [List.length_drop, List.length_take]; rfl)) ?_
                    with_reducible refine (slotmeshref33_Formed.calls ((rd_T25 l0 x3_1).f0) _ _ ((rd_T25 l0 x3_1).f1) true _ ?side1 ?side2 A4.out).mono ?_
                    (case side1 => repeat (first | exact (Kd.C_below HR110_1.out HB.out) | (with_reducible refine Kd.C_alloc ?_ _) | (with_reducible refine Kd.C_drewN ?_ _) | (with_reducible refine Kd.C_drew ?_)))
                    (case side2 => exact HC110_1.out)
                    rintro e w14 ⟨rfl, hb⟩
                    refine ⟨_, rfl, ?_⟩
                    have n0_ := Aside0.mk (below_step (by repeat (first | (with_reducible first | exact HB.out | apply below_alloc | apply pw_below_drewN | apply below_drew1) | exact HB.out)) hb)
                    clear HB
                    have HB := n0_
                    clear n0_
                    (try clear hb)
                    (try clear hb2)
                    (try clear hk)
                    (try clear hi)
                    refine hK.out _ _ ⟨((HB.out.cell (World.block_lt_of_cell? w _ hw110_0)).trans hw110_0), ((HB.out.cell (World.block_lt_of_cell? w _ hw110_1)).trans hw110_1), ((HB.out.cell (World.block_lt_of_cell? w _ hw112_0)).trans hw112_0), ((HB.out.cell (World.block_lt_of_cell? w _ hw112_1)).trans hw112_1), ((HB.out.cell (World.block_lt_of_cell? w _ hw114_0)).trans hw114_0), ((HB.out.cell (World.block_lt_of_cell? w _ hw114_1)).trans hw114_1)⟩ (fun hHeld => ?_)
                    clear hK K
                    refine norm_ (a' := ?_) ?_ ?_
                    rotate_left
                    · show Act.put _ (some 16) _ = _
                      simp only [Act.put, List.setIfInBounds_toArray, List.set_cons_zero, List.set_cons_succ, i64_w, i32_w]
                      rfl
                    refine pure_ (i := 5) (N := some 17) (v := ?_) (a' := ?_) #[true, true, true, true, true, true, false, false, false, false, false, false, false, false, false, false, false, false, false, false, false, false, false, false, false, false] rfl rfl (any_of HT_.out (by kernel_rfl)) (fun _ _ _ h => h) (Or.inl ⟨by rfl, ?_⟩) ?_ ?_
                    rotate_left
                    · intro w'
                      go_simp
                      with_reducible rfl
                    rotate_left
                    · simp only [Act.put, List.setIfInBounds_toArray, List.set_cons_zero, List.set_cons_succ, i64_w, i32_w]
                      rfl
                    refine pure_ (i := 6) (N := some 18) (v := ?_) (a' := ?_) #[true, true, true, true, true, true, true, false, false, false, false, false, false, false, false, false, false, false, false, false, false, false, false, false, false, false] rfl rfl (any_of HT_.out (by kernel_rfl)) (fun _ _ _ h => h) (Or.inl ⟨by rfl, ?_⟩) ?_ ?_
                    rotate_left
                    · intro w'
                      go_simp
                      with_reducible rfl
                    rotate_left
                    · simp only [Act.put, List.setIfInBounds_toArray, List.set_cons_zero, List.set_cons_succ, i64_w, i32_w]
                      rfl
                    refine pure_ (i := 7) (N := some 19) (v := ?_) (a' := ?_) #[true, true, true, true, true, true, true, true, false, false, false, false, false, false, false, false, false, false, false, false, false, false, false, false, false, false] rfl rfl (any_of HT_.out (by kernel_rfl)) (fun _ _ _ h => h) (Or.inl ⟨by rfl, ?_⟩) ?_ ?_
                    rotate_left
                    · intro w'
                      go_simp
                      with_reducible rfl
                    rotate_left
                    · simp only [Act.put, List.setIfInBounds_toArray, List.set_cons_zero, List.set_cons_succ, i64_w, i32_w]
                      rfl
                    refine pure_ (i := 8) (N := some 20) (v := ?_) (a' := ?_) #[true, true, true, true, true, true, true, true, true, false, false, false, false, false, false, false, false, false, false, false, false, false, false, false, false, false] rfl rfl (any_of HT_.out (by kernel_rfl)) (fun _ _ _ h => h) (Or.inl ⟨by rfl, ?_⟩) ?_ ?_
                    rotate_left
                    · intro w'
                      go_simp
                      with_reducible rfl
                    rotate_left
                    · simp only [Act.put, List.setIfInBounds_toArray, List.set_cons_zero, List.set_cons_succ, i64_w, i32_w]
                      rfl
                    refine pure_ (i := 9) (N := some 21) (v := ?_) (a' := ?_) #[true, true, true, true, true, true, true, true, true, true, false, false, false, false, false, false, false, false, false, false, false, false, false, false, false, false] rfl rfl (any_of HT_.out (by kernel_rfl)) (fun _ _ _ h => h) (Or.inl ⟨by rfl, ?_⟩) ?_ ?_
                    rotate_left
                    · intro w'
                      go_simp
                      with_reducible rfl
                    rotate_left
                    · simp only [Act.put, List.setIfInBounds_toArray, List.set_cons_zero, List.set_cons_succ, i64_w, i32_w]
                      rfl
                    refine pure_ (i := 10) (N := some 22) (v := ?_) (a' := ?_) #[true, true, true, true, true, true, true, true, true, true, true, false, false, false, false, false, false, false, false, false, false, false, false, false, false, false] rfl rfl (any_of HT_.out (by kernel_rfl)) (fun _ _ _ h => h) (Or.inl ⟨by rfl, ?_⟩) ?_ ?_
                    rotate_left
                    · intro w'
                      go_simp
                      with_reducible rfl
                    rotate_left
                    · simp only [Act.put, List.setIfInBounds_toArray, List.set_cons_zero, List.set_cons_succ, i64_w, i32_w]
                      rfl
                    refine pure_ (i := 11) (N := some 23) (v := ?_) (a' := ?_) #[true, true, true, true, true, true, true, true, true, true, true, true, false, false, false, false, false, false, false, false, false, false, false, false, false, false] rfl rfl (any_of HT_.out (by kernel_rfl)) (fun _ _ _ h => h) (Or.inl ⟨by rfl, ?_⟩) ?_ ?_
                    rotate_left
                    · intro w'
                      go_simp
                      with_reducible rfl
                    rotate_left
                    · simp only [Act.put, List.setIfInBounds_toArray, List.set_cons_zero, List.set_cons_succ, i64_w, i32_w]
                      rfl
                    refine pure_ (i := 12) (N := some 24) (v := ?_) (a' := ?_) #[true, true, true, true, true, true, true, true, true, true, true, true, true, false, false, false, false, false, false, false, false, false, false, false, false, false] rfl rfl (any_of HT_.out (by kernel_rfl)) (fun _ _ _ h => h) (Or.inl ⟨by rfl, ?_⟩) ?_ ?_
                    rotate_left
                    · intro w'
                      go_simp
                      with_reducible rfl
                    rotate_left
                    · simp only [Act.put, List.setIfInBounds_toArray, List.set_cons_zero, List.set_cons_succ, i64_w, i32_w]
                      rfl
                    refine pure_ (i := 13) (N := some 25) (v := ?_) (a' := ?_) #[true, true, true, true, true, true, true, true, true, true, true, true, true, true, false, false, false, false, false, false, false, false, false, false, false, false] rfl rfl (any_of HT_.out (by kernel_rfl)) (fun _ _ _ h => h) (Or.inl ⟨by rfl, ?_⟩) ?_ ?_
                    rotate_left
                    · intro w'
                      go_simp
                      with_reducible rfl
                    rotate_left
                    · simp only [Act.put, List.setIfInBounds_toArray, List.set_cons_zero, List.set_cons_succ, i64_w, i32_w]
                      rfl
                    refine pure_ (i := 14) (N := some 26) (v := ?_) (a' := ?_) #[true, true, true, true, true, true, true, true, true, true, true, true, true, true, true, false, false, false, false, false, false, false, false, false, false, false] rfl rfl (any_of HT_.out (by kernel_rfl)) (fun _ _ _ h => h) (Or.inl ⟨by rfl, ?_⟩) ?_ ?_
                    rotate_left
                    · intro w'
                      go_simp
                      with_reducible rfl
                    rotate_left
                    · simp only [Act.put, List.setIfInBounds_toArray, List.set_cons_zero, List.set_cons_succ, i64_w, i32_w]
                      rfl
                    refine pure_ (i := 17) (N := some 29) (v := ?_) (a' := ?_) #[true, true, true, true, true, true, true, true, true, true, true, true, true, true, true, false, false, true, false, false, false, false, false, false, false, false] rfl rfl (any_of HT_.out (by kernel_rfl)) (fun _ _ _ h => h) (Or.inl ⟨by rfl, ?_⟩) ?_ ?_
                    rotate_left
                    · intro w'
                      go_simp
                      with_reducible rfl
                    rotate_left
                    · simp only [Act.put, List.setIfInBounds_toArray, List.set_cons_zero, List.set_cons_succ, i64_w, i32_w]
                      rfl
                    refine pure_ (i := 18) (N := some 30) (v := ?_) (a' := ?_) #[true, true, true, true, true, true, true, true, true, true, true, true, true, true, true, false, false, true, true, false, false, false, false, false, false, false] rfl rfl (any_of HT_.out (by kernel_rfl)) (fun _ _ _ h => h) (Or.inl ⟨by rfl, ?_⟩) ?_ ?_
                    rotate_left
                    · intro w'
                      go_simp
                      with_reducible rfl
                    rotate_left
                    · simp only [Act.put, List.setIfInBounds_toArray, List.set_cons_zero, List.set_cons_succ, i64_w, i32_w]
                      rfl
                    refine pure_ (i := 19) (N := some 31) (v := ?_) (a' := ?_) #[true, true, true, true, true, true, true, true, true, true, true, true, true, true, true, false, false, true, true, true, false, false, false, false, false, false] rfl rfl (any_of HT_.out (by kernel_rfl)) (fun _ _ _ h => h) (Or.inl ⟨by rfl, ?_⟩) ?_ ?_
                    rotate_left
                    · intro w'
                      go_simp
                      with_reducible rfl
                    rotate_left
                    · simp only [Act.put, List.setIfInBounds_toArray, List.set_cons_zero, List.set_cons_succ, i64_w, i32_w]
                      rfl
                    refine pure_ (i := 20) (N := some 32) (v := ?_) (a' := ?_) #[true, true, true, true, true, true, true, true, true, true, true, true, true, true, true, false, false, true, true, true, true, false, false, false, false, false] rfl rfl (any_of HT_.out (by kernel_rfl)) (fun _ _ _ h => h) (Or.inl ⟨by rfl, ?_⟩) ?_ ?_
                    rotate_left
                    · intro w'
                      go_simp
                      with_reducible rfl
                    rotate_left
                    · simp only [Act.put, List.setIfInBounds_toArray, List.set_cons_zero, List.set_cons_succ, i64_w, i32_w]
                      rfl
                    refine take_ (i := 15) (N := some 27) (v := ?_) (a' := ?_) #[true, true, true, true, true, true, true, true, true, true, true, true, true, true, true, true, false, true, true, true, true, false, false, false, false, false] rfl rfl (take_ofW HT_.out HW_.out (by kernel_rfl)) (fun _ _ _ h => h) (Or.inl ⟨by rfl, ?_⟩) hHeld ?_ ?_
                    rotate_left
                    · rintro w' ⟨s0, s1, s2, s3, s4, s5⟩
                      go_simp
                      with_reducible rfl
                    rotate_left
                    · simp only [Act.put, List.setIfInBounds_toArray, List.set_cons_zero, List.set_cons_succ, i64_w, i32_w]
                      rfl
                    refine take_ (i := 21) (N := some 33) (v := ?_) (a' := ?_) #[true, true, true, true, true, true, true, true, true, true, true, true, true, true, true, true, false, true, true, true, true, true, false, false, false, false] rfl rfl (take_ofW HT_.out HW_.out (by kernel_rfl)) (fun _ _ _ h => h) (Or.inl ⟨by rfl, ?_⟩) hHeld ?_ ?_
                    rotate_left
                    · rintro w' ⟨s0, s1, s2, s3, s4, s5⟩
                      go_simp
                      with_reducible rfl
                    rotate_left
                    · simp only [Act.put, List.setIfInBounds_toArray, List.set_cons_zero, List.set_cons_succ, i64_w, i32_w]
                      rfl
                    refine one_ (i := 16) (N := some 28) #[true, true, true, true, true, true, true, true, true, true, true, true, true, true, true, true, true, true, true, true, true, true, false, false, false, false] rfl rfl (one_of HT_.out (by kernel_rfl)) (by decide) (fun K hK => ?_)
                    refine goes_ Try.func37 (by kernel_rfl) rfl #[.int .i64 ((rd_T25 l0 (ji7)).f0)] (by rfl) rfl rfl (by (try simp only [List.map_toArray, List.map_cons, List.map_nil]); first | done | (simp only [hji7]; rfl) | rfl | (simp only [List.length_drop, List.length_take]; rfl)) ?_
                    with_reducible refine (slotmeshref33_Leading.calls k1 ((rd_T25 l0 (ji7)).f0) t113 _ A10.out).mono ?_
                    rintro e w' ⟨rfl, ⟨nd, rfl⟩⟩
                    refine ⟨_, rfl, ?_⟩
                    refine hK.out _ _ ⟨((HB.out.cell (World.block_lt_of_cell? w _ hw110_0)).trans hw110_0), ((HB.out.cell (World.block_lt_of_cell? w _ hw110_1)).trans hw110_1), ((HB.out.cell (World.block_lt_of_cell? w _ hw112_0)).trans hw112_0), ((HB.out.cell (World.block_lt_of_cell? w _ hw112_1)).trans hw112_1), ((HB.out.cell (World.block_lt_of_cell? w _ hw114_0)).trans hw114_0), ((HB.out.cell (World.block_lt_of_cell? w _ hw114_1)).trans hw114_1)⟩ (fun hHeld => ?_)
                    clear hK K
                    refine norm_ (a' := ?_) ?_ ?_
                    rotate_left
                    · show Act.put _ (some 28) _ = _
                      simp only [Act.put, List.setIfInBounds_toArray, List.set_cons_zero, List.set_cons_succ, i64_w, i32_w]
                      rfl
                    refine one_ (i := 22) (N := some 34) #[true, true, true, true, true, true, true, true, true, true, true, true, true, true, true, true, true, true, true, true, true, true, true, false, false, false] rfl rfl (one_of HT_.out (by kernel_rfl)) (by decide) (fun K hK => ?_)
                    refine goes_ Try.func37 (by kernel_rfl) rfl #[.int .i64 ((rd_T25 l0 x3_1).f0)] (by rfl) rfl rfl (by (try simp only [List.map_toArray, List.map_cons, List.map_nil]); first | done | rfl | (simp only [List.length_drop, List.length_take]; rfl)) ?_
                    with_reducible refine (slotmeshref33_Leading.calls k1 ((rd_T25 l0 x3_1).f0) t115 _ A11.out).mono ?_
                    rintro e w' ⟨rfl, ⟨nd, rfl⟩⟩
                    refine ⟨_, rfl, ?_⟩
                    refine hK.out _ _ ⟨((HB.out.cell (World.block_lt_of_cell? w _ hw110_0)).trans hw110_0), ((HB.out.cell (World.block_lt_of_cell? w _ hw110_1)).trans hw110_1), ((HB.out.cell (World.block_lt_of_cell? w _ hw112_0)).trans hw112_0), ((HB.out.cell (World.block_lt_of_cell? w _ hw112_1)).trans hw112_1), ((HB.out.cell (World.block_lt_of_cell? w _ hw114_0)).trans hw114_0), ((HB.out.cell (World.block_lt_of_cell? w _ hw114_1)).trans hw114_1)⟩ (fun hHeld => ?_)
                    clear hK K
                    refine norm_ (a' := ?_) ?_ ?_
                    rotate_left
                    · show Act.put _ (some 34) _ = _
                      simp only [Act.put, List.setIfInBounds_toArray, List.set_cons_zero, List.set_cons_succ, i64_w, i32_w]
                      rfl
                    refine pure_ (i := 23) (N := some 35) (v := ?_) (a' := ?_) #[true, true, true, true, true, true, true, true, true, true, true, true, true, true, true, true, true, true, true, true, true, true, true, true, false, false] rfl rfl (any_of HT_.out (by kernel_rfl)) (fun _ _ _ h => h) (Or.inl ⟨by rfl, ?_⟩) ?_ ?_
                    rotate_left
                    · intro w'
                      go_simp
                      with_reducible rfl
                    rotate_left
                    · simp only [Act.put, List.setIfInBounds_toArray, List.set_cons_zero, List.set_cons_succ, i64_w, i32_w]
                      rfl
                    refine pure_ (i := 24) (N := some 36) (v := ?_) (a' := ?_) #[true, true, true, true, true, true, true, true, true, true, true, true, true, true, true, true, true, true, true, true, true, true, true, true, true, false] rfl rfl (any_of HT_.out (by kernel_rfl)) (fun _ _ _ h => h) (Or.inl ⟨by rfl, ?_⟩) ?_ ?_
                    rotate_left
                    · intro w'
                      go_simp
                      with_reducible rfl
                    rotate_left
                    · simp only [Act.put, List.setIfInBounds_toArray, List.set_cons_zero, List.set_cons_succ, i64_w, i32_w]
                      rfl
                    refine pure_ (i := 25) (N := some 37) (v := ?_) (a' := ?_) #[true, true, true, true, true, true, true, true, true, true, true, true, true, true, true, true, true, true, true, true, true, true, true, true, true, true] rfl rfl (any_of HT_.out (by kernel_rfl)) (fun _ _ _ h => h) (Or.inl ⟨by rfl, ?_⟩) ?_ ?_
                    rotate_left
                    · intro w'
                      go_simp
                      with_reducible rfl
                    rotate_left
                    · simp only [Act.put, List.setIfInBounds_toArray, List.set_cons_zero, List.set_cons_succ, i64_w, i32_w]
                      rfl
                    refine done_ (done_of HT_.out (by kernel_rfl)) ?_
                    try go_wp2
                    go_ret
                    exact ⟨by first | rfl | (simp [errW_none, errW_some] <;> rfl) | (simp only [← hji7]; first | rfl | (simp [errW_none, errW_some] <;> rfl)) | (simp [*, errW_none, errW_some] <;> rfl), by repeat (first | (with_reducible first | exact HB.out | apply below_alloc | apply pw_below_drewN | apply below_drew1) | exact HB.out)⟩
                  · rw [if_neg c12] at H
                    have c12b0 : decide (t113 ≤ t115) = false := decide_eq_false c12
                    clear c12
                    have H' := Aside0.mk H
                    clear H
                    try go_wp2
                    have n0_ := Aside0.mk (below_drew1 HB.out)
                    clear HB
                    have HB := n0_
                    clear n0_
                    have p110 : 0 ≤ (x3_1 : Int) := of_decide_eq_true (by first | (with_reducible assumption) | assumption)
                    have q110 : x3_1 < (l0.length : Int) := of_decide_eq_true (by first | (with_reducible assumption) | assumption)
                    obtain ⟨ad110, A110_1, c110_1, e110, hx110_0, hx110_1, hl110_1, hi110_1⟩ := at_T25 HR0.out x3_1 p110 q110
                    have hw110_1 := hx110_1
                    have hw110_0 := hx110_0
                    cases e110
                    replace hx110_0 := (HB.out.cell (World.block_lt_of_cell? w _ hx110_0)).trans hx110_0
                    replace hx110_1 := (HB.out.cell (World.block_lt_of_cell? w _ hx110_1)).trans hx110_1
                    have HR110_1 := Aside0.mk hi110_1
                    have HC110_1 := Aside0.mk hl110_1
                    clear hi110_1 hl110_1
                    replace p110 := eq_true p110
                    replace q110 := eq_true q110
                    have p112 : 0 ≤ ((ji7) : Int) := of_decide_eq_true (by first | (with_reducible assumption) | assumption)
                    have q112 : (ji7) < (l0.length : Int) := of_decide_eq_true (by first | (with_reducible assumption) | assumption)
                    obtain ⟨ad112, A112_1, c112_1, e112, hx112_0, hx112_1, hl112_1, hi112_1⟩ := at_T25 HR0.out (ji7) p112 q112
                    have hw112_1 := hx112_1
                    have hw112_0 := hx112_0
                    obtain rfl : ad110 = ad112 := (by injection e112)
                    replace hx112_0 := (HB.out.cell (World.block_lt_of_cell? w _ hx112_0)).trans hx112_0
                    replace hx112_1 := (HB.out.cell (World.block_lt_of_cell? w _ hx112_1)).trans hx112_1
                    have HR112_1 := Aside0.mk hi112_1
                    have HC112_1 := Aside0.mk hl112_1
                    clear hi112_1 hl112_1
                    replace p112 := eq_true p112
                    replace q112 := eq_true q112
                    have p114 : 0 ≤ (x3_1 : Int) := of_decide_eq_true (by first | (with_reducible assumption) | assumption)
                    have q114 : x3_1 < (l0.length : Int) := of_decide_eq_true (by first | (with_reducible assumption) | assumption)
                    obtain ⟨ad114, A114_1, c114_1, e114, hx114_0, hx114_1, hl114_1, hi114_1⟩ := at_T25 HR0.out x3_1 p114 q114
                    have hw114_1 := hx114_1
                    have hw114_0 := hx114_0
                    obtain rfl : ad110 = ad114 := (by injection e114)
                    replace hx114_0 := (HB.out.cell (World.block_lt_of_cell? w _ hx114_0)).trans hx114_0
                    replace hx114_1 := (HB.out.cell (World.block_lt_of_cell? w _ hx114_1)).trans hx114_1
                    have HR114_1 := Aside0.mk hi114_1
                    have HC114_1 := Aside0.mk hl114_1
                    clear hi114_1 hl114_1
                    replace p114 := eq_true p114
                    replace q114 := eq_true q114
                    refine start_ (n := 26) (S := fun w' => w'.cell? (ad110.add ((x3_1).toNat * 2)) = some (.int .i64 ((rd_T25 l0 x3_1).f0)) ∧ w'.cell? ⟨(ad110.add ((x3_1).toNat * 2)).block, (ad110.add ((x3_1).toNat * 2)).off + 1, none⟩ = some (.slice A110_1 ((rd_T25 l0 x3_1).f1).length c110_1) ∧ w'.cell? (ad110.add (((ji7)).toNat * 2)) = some (.int .i64 ((rd_T25 l0 (ji7)).f0)) ∧ w'.cell? ⟨(ad110.add (((ji7)).toNat * 2)).block, (ad110.add (((ji7)).toNat * 2)).off + 1, none⟩ = some (.slice A112_1 ((rd_T25 l0 (ji7)).f1).length c112_1) ∧ w'.cell? (ad110.add ((x3_1).toNat * 2)) = some (.int .i64 ((rd_T25 l0 x3_1).f0)) ∧ w'.cell? ⟨(ad110.add ((x3_1).toNat * 2)).block, (ad110.add ((x3_1).toNat * 2)).off + 1, none⟩ = some (.slice A114_1 ((rd_T25 l0 x3_1).f1).length c114_1)) (ds := []) #[false, false, false, false, false, false, false, false, false, false, false, false, false, false, false, false, false, false, false, false, false, false, false, false, false, false] (by kernel_rfl) rfl rfl ⟨((HB.out.cell (World.block_lt_of_cell? w _ hw110_0)).trans hw110_0), ((HB.out.cell (World.block_lt_of_cell? w _ hw110_1)).trans hw110_1), ((HB.out.cell (World.block_lt_of_cell? w _ hw112_0)).trans hw112_0), ((HB.out.cell (World.block_lt_of_cell? w _ hw112_1)).trans hw112_1), ((HB.out.cell (World.block_lt_of_cell? w _ hw114_0)).trans hw114_0), ((HB.out.cell (World.block_lt_of_cell? w _ hw114_1)).trans hw114_1)⟩ (fun hHeld => ?_); refine with_tabW slotmeshref33_Valid.tab4 slotmeshref33_Valid.bits4 (fun HT_ HW_ => ?_)
                    generalize wr.drew = w15 at HB HR110_1 HR112_1 HR114_1 hx110_0 hx110_1 hx112_0 hx112_1 hx114_0 hx114_1 hHeld ⊢
                    refine pure_ (i := 0) (N := some 12) (v := ?_) (a' := ?_) #[true, false, false, false, false, false, false, false, false, false, false, false, false, false, false, false, false, false, false, false, false, false, false, false, false, false] rfl rfl (any_of HT_.out (by kernel_rfl)) (fun _ _ _ h => h) (Or.inl ⟨by rfl, ?_⟩) ?_ ?_
                    rotate_left
                    · intro w'
                      go_simp
                      with_reducible rfl
                    rotate_left
                    · simp only [Act.put, List.setIfInBounds_toArray, List.set_cons_zero, List.set_cons_succ, i64_w, i32_w]
                      rfl
                    refine pure_ (i := 1) (N := some 13) (v := ?_) (a' := ?_) #[true, true, false, false, false, false, false, false, false, false, false, false, false, false, false, false, false, false, false, false, false, false, false, false, false, false] rfl rfl (any_of HT_.out (by kernel_rfl)) (fun _ _ _ h => h) (Or.inl ⟨by rfl, ?_⟩) ?_ ?_
                    rotate_left
                    · intro w'
                      go_simp
                      with_reducible rfl
                    rotate_left
                    · simp only [Act.put, List.setIfInBounds_toArray, List.set_cons_zero, List.set_cons_succ, i64_w, i32_w]
                      rfl
                    refine pure_ (i := 2) (N := some 14) (v := ?_) (a' := ?_) #[true, true, true, false, false, false, false, false, false, false, false, false, false, false, false, false, false, false, false, false, false, false, false, false, false, false] rfl rfl (any_of HT_.out (by kernel_rfl)) (fun _ _ _ h => h) (Or.inl ⟨by rfl, ?_⟩) ?_ ?_
                    rotate_left
                    · intro w'
                      go_simp
                      with_reducible rfl
                    rotate_left
                    · simp only [Act.put, List.setIfInBounds_toArray, List.set_cons_zero, List.set_cons_succ, i64_w, i32_w]
                      rfl
                    refine take_ (i := 3) (N := some 15) (v := ?_) (a' := ?_) #[true, true, true, true, false, false, false, false, false, false, false, false, false, false, false, false, false, false, false, false, false, false, false, false, false, false] rfl rfl (take_ofW HT_.out HW_.out (by kernel_rfl)) (fun _ _ _ h => h) (Or.inl ⟨by rfl, ?_⟩) hHeld ?_ ?_
                    rotate_left
                    · rintro w' ⟨s0, s1, s2, s3, s4, s5⟩
                      go_simp
                      with_reducible rfl
                    rotate_left
                    · simp only [Act.put, List.setIfInBounds_toArray, List.set_cons_zero, List.set_cons_succ, i64_w, i32_w]
                      rfl
                    refine one_ (i := 4) (N := some 16) #[true, true, true, true, true, false, false, false, false, false, false, false, false, false, false, false, false, false, false, false, false, false, false, false, false, false] rfl rfl (one_of HT_.out (by kernel_rfl)) (by decide) (fun K hK => ?_)
                    refine goes_ Try.func24 (by kernel_rfl) rfl #[.agg #[.int .i64 ((rd_T25 l0 x3_1).f0), .slice A110_1 ((rd_T25 l0 x3_1).f1).length c110_1]] (by rfl) rfl rfl (by (try simp only [List.map_toArray, List.map_cons, List.map_nil]); first | done | rfl | (simp only [List.length_drop, List.length_take]; rfl)) ?_
                    with_reducible refine (slotmeshref33_Formed.calls ((rd_T25 l0 x3_1).f0) _ _ ((rd_T25 l0 x3_1).f1) true _ ?side1 ?side2 A4.out).mono ?_
                    (case side1 => repeat (first | exact (Kd.C_below HR110_1.out HB.out) | (with_reducible refine Kd.C_alloc ?_ _) | (with_reducible refine Kd.C_drewN ?_ _) | (with_reducible refine Kd.C_drew ?_)))
                    (case side2 => exact HC110_1.out)
                    rintro e w16 ⟨rfl, hb⟩
                    refine ⟨_, rfl, ?_⟩
                    have n0_ := Aside0.mk (below_step (by repeat (first | (with_reducible first | exact HB.out | apply below_alloc | apply pw_below_drewN | apply below_drew1) | exact HB.out)) hb)
                    clear HB
                    have HB := n0_
                    clear n0_
                    (try clear hb)
                    (try clear hb2)
                    (try clear hk)
                    (try clear hi)
                    refine hK.out _ _ ⟨((HB.out.cell (World.block_lt_of_cell? w _ hw110_0)).trans hw110_0), ((HB.out.cell (World.block_lt_of_cell? w _ hw110_1)).trans hw110_1), ((HB.out.cell (World.block_lt_of_cell? w _ hw112_0)).trans hw112_0), ((HB.out.cell (World.block_lt_of_cell? w _ hw112_1)).trans hw112_1), ((HB.out.cell (World.block_lt_of_cell? w _ hw114_0)).trans hw114_0), ((HB.out.cell (World.block_lt_of_cell? w _ hw114_1)).trans hw114_1)⟩ (fun hHeld => ?_)
                    clear hK K
                    refine norm_ (a' := ?_) ?_ ?_
                    rotate_left
                    · show Act.put _ (some 16) _ = _
                      simp only [Act.put, List.setIfInBounds_toArray, List.set_cons_zero, List.set_cons_succ, i64_w, i32_w]
                      rfl
                    refine pure_ (i := 5) (N := some 17) (v := ?_) (a' := ?_) #[true, true, true, true, true, true, false, false, false, false, false, false, false, false, false, false, false, false, false, false, false, false, false, false, false, false] rfl rfl (any_of HT_.out (by kernel_rfl)) (fun _ _ _ h => h) (Or.inl ⟨by rfl, ?_⟩) ?_ ?_
                    rotate_left
                    · intro w'
                      go_simp
                      with_reducible rfl
                    rotate_left
                    · simp only [Act.put, List.setIfInBounds_toArray, List.set_cons_zero, List.set_cons_succ, i64_w, i32_w]
                      rfl
                    refine pure_ (i := 6) (N := some 18) (v := ?_) (a' := ?_) #[true, true, true, true, true, true, true, false, false, false, false, false, false, false, false, false, false, false, false, false, false, false, false, false, false, false] rfl rfl (any_of HT_.out (by kernel_rfl)) (fun _ _ _ h => h) (Or.inl ⟨by rfl, ?_⟩) ?_ ?_
                    rotate_left
                    · intro w'
                      go_simp
                      with_reducible rfl
                    rotate_left
                    · simp only [Act.put, List.setIfInBounds_toArray, List.set_cons_zero, List.set_cons_succ, i64_w, i32_w]
                      rfl
                    refine pure_ (i := 7) (N := some 19) (v := ?_) (a' := ?_) #[true, true, true, true, true, true, true, true, false, false, false, false, false, false, false, false, false, false, false, false, false, false, false, false, false, false] rfl rfl (any_of HT_.out (by kernel_rfl)) (fun _ _ _ h => h) (Or.inl ⟨by rfl, ?_⟩) ?_ ?_
                    rotate_left
                    · intro w'
                      go_simp
                      with_reducible rfl
                    rotate_left
                    · simp only [Act.put, List.setIfInBounds_toArray, List.set_cons_zero, List.set_cons_succ, i64_w, i32_w]
                      rfl
                    refine pure_ (i := 8) (N := some 20) (v := ?_) (a' := ?_) #[true, true, true, true, true, true, true, true, true, false, false, false, false, false, false, false, false, false, false, false, false, false, false, false, false, false] rfl rfl (any_of HT_.out (by kernel_rfl)) (fun _ _ _ h => h) (Or.inl ⟨by rfl, ?_⟩) ?_ ?_
                    rotate_left
                    · intro w'
                      go_simp
                      with_reducible rfl
                    rotate_left
                    · simp only [Act.put, List.setIfInBounds_toArray, List.set_cons_zero, List.set_cons_succ, i64_w, i32_w]
                      rfl
                    refine pure_ (i := 9) (N := some 21) (v := ?_) (a' := ?_) #[true, true, true, true, true, true, true, true, true, true, false, false, false, false, false, false, false, false, false, false, false, false, false, false, false, false] rfl rfl (any_of HT_.out (by kernel_rfl)) (fun _ _ _ h => h) (Or.inl ⟨by rfl, ?_⟩) ?_ ?_
                    rotate_left
                    · intro w'
                      go_simp
                      with_reducible rfl
                    rotate_left
                    · simp only [Act.put, List.setIfInBounds_toArray, List.set_cons_zero, List.set_cons_succ, i64_w, i32_w]
                      rfl
                    refine pure_ (i := 10) (N := some 22) (v := ?_) (a' := ?_) #[true, true, true, true, true, true, true, true, true, true, true, false, false, false, false, false, false, false, false, false, false, false, false, false, false, false] rfl rfl (any_of HT_.out (by kernel_rfl)) (fun _ _ _ h => h) (Or.inl ⟨by rfl, ?_⟩) ?_ ?_
                    rotate_left
                    · intro w'
                      go_simp
                      with_reducible rfl
                    rotate_left
                    · simp only [Act.put, List.setIfInBounds_toArray, List.set_cons_zero, List.set_cons_succ, i64_w, i32_w]
                      rfl
                    refine pure_ (i := 11) (N := some 23) (v := ?_) (a' := ?_) #[true, true, true, true, true, true, true, true, true, true, true, true, false, false, false, false, false, false, false, false, false, false, false, false, false, false] rfl rfl (any_of HT_.out (by kernel_rfl)) (fun _ _ _ h => h) (Or.inl ⟨by rfl, ?_⟩) ?_ ?_
                    rotate_left
                    · intro w'
                      go_simp
                      with_reducible rfl
                    rotate_left
                    · simp only [Act.put, List.setIfInBounds_toArray, List.set_cons_zero, List.set_cons_succ, i64_w, i32_w]
                      rfl
                    refine pure_ (i := 12) (N := some 24) (v := ?_) (a' := ?_) #[true, true, true, true, true, true, true, true, true, true, true, true, true, false, false, false, false, false, false, false, false, false, false, false, false, false] rfl rfl (any_of HT_.out (by kernel_rfl)) (fun _ _ _ h => h) (Or.inl ⟨by rfl, ?_⟩) ?_ ?_
                    rotate_left
                    · intro w'
                      go_simp
                      with_reducible rfl
                    rotate_left
                    · simp only [Act.put, List.setIfInBounds_toArray, List.set_cons_zero, List.set_cons_succ, i64_w, i32_w]
                      rfl
                    refine pure_ (i := 13) (N := some 25) (v := ?_) (a' := ?_) #[true, true, true, true, true, true, true, true, true, true, true, true, true, true, false, false, false, false, false, false, false, false, false, false, false, false] rfl rfl (any_of HT_.out (by kernel_rfl)) (fun _ _ _ h => h) (Or.inl ⟨by rfl, ?_⟩) ?_ ?_
                    rotate_left
                    · intro w'
                      go_simp
                      with_reducible rfl
                    rotate_left
                    · simp only [Act.put, List.setIfInBounds_toArray, List.set_cons_zero, List.set_cons_succ, i64_w, i32_w]
                      rfl
                    refine pure_ (i := 14) (N := some 26) (v := ?_) (a' := ?_) #[true, true, true, true, true, true, true, true, true, true, true, true, true, true, true, false, false, false, false, false, false, false, false, false, false, false] rfl rfl (any_of HT_.out (by kernel_rfl)) (fun _ _ _ h => h) (Or.inl ⟨by rfl, ?_⟩) ?_ ?_
                    rotate_left
                    · intro w'
                      go_simp
                      with_reducible rfl
                    rotate_left
                    · simp only [Act.put, List.setIfInBounds_toArray, List.set_cons_zero, List.set_cons_succ, i64_w, i32_w]
                      rfl
                    refine pure_ (i := 17) (N := some 29) (v := ?_) (a' := ?_) #[true, true, true, true, true, true, true, true, true, true, true, true, true, true, true, false, false, true, false, false, false, false, false, false, false, false] rfl rfl (any_of HT_.out (by kernel_rfl)) (fun _ _ _ h => h) (Or.inl ⟨by rfl, ?_⟩) ?_ ?_
                    rotate_left
                    · intro w'
                      go_simp
                      with_reducible rfl
                    rotate_left
                    · simp only [Act.put, List.setIfInBounds_toArray, List.set_cons_zero, List.set_cons_succ, i64_w, i32_w]
                      rfl
                    refine pure_ (i := 18) (N := some 30) (v := ?_) (a' := ?_) #[true, true, true, true, true, true, true, true, true, true, true, true, true, true, true, false, false, true, true, false, false, false, false, false, false, false] rfl rfl (any_of HT_.out (by kernel_rfl)) (fun _ _ _ h => h) (Or.inl ⟨by rfl, ?_⟩) ?_ ?_
                    rotate_left
                    · intro w'
                      go_simp
                      with_reducible rfl
                    rotate_left
                    · simp only [Act.put, List.setIfInBounds_toArray, List.set_cons_zero, List.set_cons_succ, i64_w, i32_w]
                      rfl
                    refine pure_ (i := 19) (N := some 31) (v := ?_) (a' := ?_) #[true, true, true, true, true, true, true, true, true, true, true, true, true, true, true, false, false, true, true, true, false, false, false, false, false, false] rfl rfl (any_of HT_.out (by kernel_rfl)) (fun _ _ _ h => h) (Or.inl ⟨by rfl, ?_⟩) ?_ ?_
                    rotate_left
                    · intro w'
                      go_simp
                      with_reducible rfl
                    rotate_left
                    · simp only [Act.put, List.setIfInBounds_toArray, List.set_cons_zero, List.set_cons_succ, i64_w, i32_w]
                      rfl
                    refine pure_ (i := 20) (N := some 32) (v := ?_) (a' := ?_) #[true, true, true, true, true, true, true, true, true, true, true, true, true, true, true, false, false, true, true, true, true, false, false, false, false, false] rfl rfl (any_of HT_.out (by kernel_rfl)) (fun _ _ _ h => h) (Or.inl ⟨by rfl, ?_⟩) ?_ ?_
                    rotate_left
                    · intro w'
                      go_simp
                      with_reducible rfl
                    rotate_left
                    · simp only [Act.put, List.setIfInBounds_toArray, List.set_cons_zero, List.set_cons_succ, i64_w, i32_w]
                      rfl
                    refine take_ (i := 15) (N := some 27) (v := ?_) (a' := ?_) #[true, true, true, true, true, true, true, true, true, true, true, true, true, true, true, true, false, true, true, true, true, false, false, false, false, false] rfl rfl (take_ofW HT_.out HW_.out (by kernel_rfl)) (fun _ _ _ h => h) (Or.inl ⟨by rfl, ?_⟩) hHeld ?_ ?_
                    rotate_left
                    · rintro w' ⟨s0, s1, s2, s3, s4, s5⟩
                      go_simp
                      with_reducible rfl
                    rotate_left
                    · simp only [Act.put, List.setIfInBounds_toArray, List.set_cons_zero, List.set_cons_succ, i64_w, i32_w]
                      rfl
                    refine take_ (i := 21) (N := some 33) (v := ?_) (a' := ?_) #[true, true, true, true, true, true, true, true, true, true, true, true, true, true, true, true, false, true, true, true, true, true, false, false, false, false] rfl rfl (take_ofW HT_.out HW_.out (by kernel_rfl)) (fun _ _ _ h => h) (Or.inl ⟨by rfl, ?_⟩) hHeld ?_ ?_
                    rotate_left
                    · rintro w' ⟨s0, s1, s2, s3, s4, s5⟩
                      go_simp
                      with_reducible rfl
                    rotate_left
                    · simp only [Act.put, List.setIfInBounds_toArray, List.set_cons_zero, List.set_cons_succ, i64_w, i32_w]
                      rfl
                    refine one_ (i := 16) (N := some 28) #[true, true, true, true, true, true, true, true, true, true, true, true, true, true, true, true, true, true, true, true, true, true, false, false, false, false] rfl rfl (one_of HT_.out (by kernel_rfl)) (by decide) (fun K hK => ?_)
                    refine goes_ Try.func37 (by kernel_rfl) rfl #[.int .i64 ((rd_T25 l0 (ji7)).f0)] (by rfl) rfl rfl (by (try simp only [List.map_toArray, List.map_cons, List.map_nil]); first | done | (simp only [hji7]; rfl) | rfl | (simp only [List.length_drop, List.length_take]; rfl)) ?_
                    with_reducible refine (slotmeshref33_Leading.calls k1 ((rd_T25 l0 (ji7)).f0) t113 _ A10.out).mono ?_
                    rintro e w' ⟨rfl, ⟨nd, rfl⟩⟩
                    refine ⟨_, rfl, ?_⟩
                    refine hK.out _ _ ⟨((HB.out.cell (World.block_lt_of_cell? w _ hw110_0)).trans hw110_0), ((HB.out.cell (World.block_lt_of_cell? w _ hw110_1)).trans hw110_1), ((HB.out.cell (World.block_lt_of_cell? w _ hw112_0)).trans hw112_0), ((HB.out.cell (World.block_lt_of_cell? w _ hw112_1)).trans hw112_1), ((HB.out.cell (World.block_lt_of_cell? w _ hw114_0)).trans hw114_0), ((HB.out.cell (World.block_lt_of_cell? w _ hw114_1)).trans hw114_1)⟩ (fun hHeld => ?_)
                    clear hK K
                    refine norm_ (a' := ?_) ?_ ?_
                    rotate_left
                    · show Act.put _ (some 28) _ = _
                      simp only [Act.put, List.setIfInBounds_toArray, List.set_cons_zero, List.set_cons_succ, i64_w, i32_w]
                      rfl
                    refine one_ (i := 22) (N := some 34) #[true, true, true, true, true, true, true, true, true, true, true, true, true, true, true, true, true, true, true, true, true, true, true, false, false, false] rfl rfl (one_of HT_.out (by kernel_rfl)) (by decide) (fun K hK => ?_)
                    refine goes_ Try.func37 (by kernel_rfl) rfl #[.int .i64 ((rd_T25 l0 x3_1).f0)] (by rfl) rfl rfl (by (try simp only [List.map_toArray, List.map_cons, List.map_nil]); first | done | rfl | (simp only [List.length_drop, List.length_take]; rfl)) ?_
                    with_reducible refine (slotmeshref33_Leading.calls k1 ((rd_T25 l0 x3_1).f0) t115 _ A11.out).mono ?_
                    rintro e w' ⟨rfl, ⟨nd, rfl⟩⟩
                    refine ⟨_, rfl, ?_⟩
                    refine hK.out _ _ ⟨((HB.out.cell (World.block_lt_of_cell? w _ hw110_0)).trans hw110_0), ((HB.out.cell (World.block_lt_of_cell? w _ hw110_1)).trans hw110_1), ((HB.out.cell (World.block_lt_of_cell? w _ hw112_0)).trans hw112_0), ((HB.out.cell (World.block_lt_of_cell? w _ hw112_1)).trans hw112_1), ((HB.out.cell (World.block_lt_of_cell? w _ hw114_0)).trans hw114_0), ((HB.out.cell (World.block_lt_of_cell? w _ hw114_1)).trans hw114_1)⟩ (fun hHeld => ?_)
                    clear hK K
                    refine norm_ (a' := ?_) ?_ ?_
                    rotate_left
                    · show Act.put _ (some 34) _ = _
                      simp only [Act.put, List.setIfInBounds_toArray, List.set_cons_zero, List.set_cons_succ, i64_w, i32_w]
                      rfl
                    refine pure_ (i := 23) (N := some 35) (v := ?_) (a' := ?_) #[true, true, true, true, true, true, true, true, true, true, true, true, true, true, true, true, true, true, true, true, true, true, true, true, false, false] rfl rfl (any_of HT_.out (by kernel_rfl)) (fun _ _ _ h => h) (Or.inl ⟨by rfl, ?_⟩) ?_ ?_
                    rotate_left
                    · intro w'
                      go_simp
                      with_reducible rfl
                    rotate_left
                    · simp only [Act.put, List.setIfInBounds_toArray, List.set_cons_zero, List.set_cons_succ, i64_w, i32_w]
                      rfl
                    refine pure_ (i := 24) (N := some 36) (v := ?_) (a' := ?_) #[true, true, true, true, true, true, true, true, true, true, true, true, true, true, true, true, true, true, true, true, true, true, true, true, true, false] rfl rfl (any_of HT_.out (by kernel_rfl)) (fun _ _ _ h => h) (Or.inl ⟨by rfl, ?_⟩) ?_ ?_
                    rotate_left
                    · intro w'
                      go_simp
                      with_reducible rfl
                    rotate_left
                    · simp only [Act.put, List.setIfInBounds_toArray, List.set_cons_zero, List.set_cons_succ, i64_w, i32_w]
                      rfl
                    refine pure_ (i := 25) (N := some 37) (v := ?_) (a' := ?_) #[true, true, true, true, true, true, true, true, true, true, true, true, true, true, true, true, true, true, true, true, true, true, true, true, true, true] rfl rfl (any_of HT_.out (by kernel_rfl)) (fun _ _ _ h => h) (Or.inl ⟨by rfl, ?_⟩) ?_ ?_
                    rotate_left
                    · intro w'
                      go_simp
                      with_reducible rfl
                    rotate_left
                    · simp only [Act.put, List.setIfInBounds_toArray, List.set_cons_zero, List.set_cons_succ, i64_w, i32_w]
                      rfl
                    refine done_ (done_of HT_.out (by kernel_rfl)) ?_
                    try go_wp2
                    go_roundg k1
                    case measure => have := HK1.out; omega
                    case rel => exact ⟨(wrap64 (x3_1 + 1)), (by first | rfl | (simp; done) | (simp [*]; done)), H', ⟨by have := HK1.out; omega⟩, ⟨by repeat (first | (with_reducible first | exact HB.out | apply below_alloc | apply pw_below_drewN | apply below_drew1) | exact HB.out)⟩⟩
                · rw [if_neg c9] at H
                  exact absurd H (by simp)
              · rw [if_neg c8] at H
                exact absurd H (by simp)
            · rw [if_neg c6] at H
              have c6b0 : decide (0 < x3_1) = false := decide_eq_false c6
              clear c6
              have H' := Aside0.mk H
              clear H
              try go_wp2
              have n0_ := Aside0.mk (below_drew1 HB.out)
              clear HB
              have HB := n0_
              clear n0_
              have p110 : 0 ≤ (x3_1 : Int) := of_decide_eq_true (by first | (with_reducible assumption) | assumption)
              have q110 : x3_1 < (l0.length : Int) := of_decide_eq_true (by first | (with_reducible assumption) | assumption)
              obtain ⟨ad110, A110_1, c110_1, e110, hx110_0, hx110_1, hl110_1, hi110_1⟩ := at_T25 HR0.out x3_1 p110 q110
              have hw110_1 := hx110_1
              have hw110_0 := hx110_0
              cases e110
              replace hx110_0 := (HB.out.cell (World.block_lt_of_cell? w _ hx110_0)).trans hx110_0
              replace hx110_1 := (HB.out.cell (World.block_lt_of_cell? w _ hx110_1)).trans hx110_1
              have HR110_1 := Aside0.mk hi110_1
              have HC110_1 := Aside0.mk hl110_1
              clear hi110_1 hl110_1
              replace p110 := eq_true p110
              replace q110 := eq_true q110
              refine start_ (n := 26) (S := fun w' => w'.cell? (ad110.add ((x3_1).toNat * 2)) = some (.int .i64 ((rd_T25 l0 x3_1).f0)) ∧ w'.cell? ⟨(ad110.add ((x3_1).toNat * 2)).block, (ad110.add ((x3_1).toNat * 2)).off + 1, none⟩ = some (.slice A110_1 ((rd_T25 l0 x3_1).f1).length c110_1)) (ds := []) #[false, false, false, false, false, false, false, false, false, false, false, false, false, false, false, false, false, false, false, false, false, false, false, false, false, false] (by kernel_rfl) rfl rfl ⟨((HB.out.cell (World.block_lt_of_cell? w _ hw110_0)).trans hw110_0), ((HB.out.cell (World.block_lt_of_cell? w _ hw110_1)).trans hw110_1)⟩ (fun hHeld => ?_); refine with_tabW slotmeshref33_Valid.tab4 slotmeshref33_Valid.bits4 (fun HT_ HW_ => ?_)
              generalize wr.drew = w17 at HB HR110_1 hx110_0 hx110_1 hHeld ⊢
              refine pure_ (i := 0) (N := some 12) (v := ?_) (a' := ?_) #[true, false, false, false, false, false, false, false, false, false, false, false, false, false, false, false, false, false, false, false, false, false, false, false, false, false] rfl rfl (any_of HT_.out (by kernel_rfl)) (fun _ _ _ h => h) (Or.inl ⟨by rfl, ?_⟩) ?_ ?_
              rotate_left
              · intro w'
                go_simp
                with_reducible rfl
              rotate_left
              · simp only [Act.put, List.setIfInBounds_toArray, List.set_cons_zero, List.set_cons_succ, i64_w, i32_w]
                rfl
              refine pure_ (i := 1) (N := some 13) (v := ?_) (a' := ?_) #[true, true, false, false, false, false, false, false, false, false, false, false, false, false, false, false, false, false, false, false, false, false, false, false, false, false] rfl rfl (any_of HT_.out (by kernel_rfl)) (fun _ _ _ h => h) (Or.inl ⟨by rfl, ?_⟩) ?_ ?_
              rotate_left
              · intro w'
                go_simp
                with_reducible rfl
              rotate_left
              · simp only [Act.put, List.setIfInBounds_toArray, List.set_cons_zero, List.set_cons_succ, i64_w, i32_w]
                rfl
              refine pure_ (i := 2) (N := some 14) (v := ?_) (a' := ?_) #[true, true, true, false, false, false, false, false, false, false, false, false, false, false, false, false, false, false, false, false, false, false, false, false, false, false] rfl rfl (any_of HT_.out (by kernel_rfl)) (fun _ _ _ h => h) (Or.inl ⟨by rfl, ?_⟩) ?_ ?_
              rotate_left
              · intro w'
                go_simp
                with_reducible rfl
              rotate_left
              · simp only [Act.put, List.setIfInBounds_toArray, List.set_cons_zero, List.set_cons_succ, i64_w, i32_w]
                rfl
              refine take_ (i := 3) (N := some 15) (v := ?_) (a' := ?_) #[true, true, true, true, false, false, false, false, false, false, false, false, false, false, false, false, false, false, false, false, false, false, false, false, false, false] rfl rfl (take_ofW HT_.out HW_.out (by kernel_rfl)) (fun _ _ _ h => h) (Or.inl ⟨by rfl, ?_⟩) hHeld ?_ ?_
              rotate_left
              · rintro w' ⟨s0, s1⟩
                go_simp
                with_reducible rfl
              rotate_left
              · simp only [Act.put, List.setIfInBounds_toArray, List.set_cons_zero, List.set_cons_succ, i64_w, i32_w]
                rfl
              refine one_ (i := 4) (N := some 16) #[true, true, true, true, true, false, false, false, false, false, false, false, false, false, false, false, false, false, false, false, false, false, false, false, false, false] rfl rfl (one_of HT_.out (by kernel_rfl)) (by decide) (fun K hK => ?_)
              refine goes_ Try.func24 (by kernel_rfl) rfl #[.agg #[.int .i64 ((rd_T25 l0 x3_1).f0), .slice A110_1 ((rd_T25 l0 x3_1).f1).length c110_1]] (by rfl) rfl rfl (by (try simp only [List.map_toArray, List.map_cons, List.map_nil]); first | done | rfl | (simp only [List.length_drop, List.length_take]; rfl)) ?_
              with_reducible refine (slotmeshref33_Formed.calls ((rd_T25 l0 x3_1).f0) _ _ ((rd_T25 l0 x3_1).f1) true _ ?side1 ?side2 A4.out).mono ?_
              (case side1 => repeat (first | exact (Kd.C_below HR110_1.out HB.out) | (with_reducible refine Kd.C_alloc ?_ _) | (with_reducible refine Kd.C_drewN ?_ _) | (with_reducible refine Kd.C_drew ?_)))
              (case side2 => exact HC110_1.out)
              rintro e w18 ⟨rfl, hb⟩
              refine ⟨_, rfl, ?_⟩
              have n0_ := Aside0.mk (below_step (by repeat (first | (with_reducible first | exact HB.out | apply below_alloc | apply pw_below_drewN | apply below_drew1) | exact HB.out)) hb)
              clear HB
              have HB := n0_
              clear n0_
              (try clear hb)
              (try clear hb2)
              (try clear hk)
              (try clear hi)
              refine hK.out _ _ ⟨((HB.out.cell (World.block_lt_of_cell? w _ hw110_0)).trans hw110_0), ((HB.out.cell (World.block_lt_of_cell? w _ hw110_1)).trans hw110_1)⟩ (fun hHeld => ?_)
              clear hK K
              refine norm_ (a' := ?_) ?_ ?_
              rotate_left
              · show Act.put _ (some 16) _ = _
                simp only [Act.put, List.setIfInBounds_toArray, List.set_cons_zero, List.set_cons_succ, i64_w, i32_w]
                rfl
              refine pure_ (i := 5) (N := some 17) (v := ?_) (a' := ?_) #[true, true, true, true, true, true, false, false, false, false, false, false, false, false, false, false, false, false, false, false, false, false, false, false, false, false] rfl rfl (any_of HT_.out (by kernel_rfl)) (fun _ _ _ h => h) (Or.inl ⟨by rfl, ?_⟩) ?_ ?_
              rotate_left
              · intro w'
                go_simp
                with_reducible rfl
              rotate_left
              · simp only [Act.put, List.setIfInBounds_toArray, List.set_cons_zero, List.set_cons_succ, i64_w, i32_w]
                rfl
              refine pure_ (i := 6) (N := some 18) (v := ?_) (a' := ?_) #[true, true, true, true, true, true, true, false, false, false, false, false, false, false, false, false, false, false, false, false, false, false, false, false, false, false] rfl rfl (any_of HT_.out (by kernel_rfl)) (fun _ _ _ h => h) (Or.inl ⟨by rfl, ?_⟩) ?_ ?_
              rotate_left
              · intro w'
                go_simp
                with_reducible rfl
              rotate_left
              · simp only [Act.put, List.setIfInBounds_toArray, List.set_cons_zero, List.set_cons_succ, i64_w, i32_w]
                rfl
              refine pure_ (i := 7) (N := some 19) (v := ?_) (a' := ?_) #[true, true, true, true, true, true, true, true, false, false, false, false, false, false, false, false, false, false, false, false, false, false, false, false, false, false] rfl rfl (any_of HT_.out (by kernel_rfl)) (fun _ _ _ h => h) (Or.inl ⟨by rfl, ?_⟩) ?_ ?_
              rotate_left
              · intro w'
                go_simp
                with_reducible rfl
              rotate_left
              · simp only [Act.put, List.setIfInBounds_toArray, List.set_cons_zero, List.set_cons_succ, i64_w, i32_w]
                rfl
              refine pure_ (i := 8) (N := some 20) (v := ?_) (a' := ?_) #[true, true, true, true, true, true, true, true, true, false, false, false, false, false, false, false, false, false, false, false, false, false, false, false, false, false] rfl rfl (any_of HT_.out (by kernel_rfl)) (fun _ _ _ h => h) (Or.inl ⟨by rfl, ?_⟩) ?_ ?_
              rotate_left
              · intro w'
                go_simp
                with_reducible rfl
              rotate_left
              · simp only [Act.put, List.setIfInBounds_toArray, List.set_cons_zero, List.set_cons_succ, i64_w, i32_w]
                rfl
              refine pure_ (i := 9) (N := some 21) (v := ?_) (a' := ?_) #[true, true, true, true, true, true, true, true, true, true, false, false, false, false, false, false, false, false, false, false, false, false, false, false, false, false] rfl rfl (any_of HT_.out (by kernel_rfl)) (fun _ _ _ h => h) (Or.inl ⟨by rfl, ?_⟩) ?_ ?_
              rotate_left
              · intro w'
                go_simp
                with_reducible rfl
              rotate_left
              · simp only [Act.put, List.setIfInBounds_toArray, List.set_cons_zero, List.set_cons_succ, i64_w, i32_w]
                rfl
              refine pure_ (i := 10) (N := some 22) (v := undef) (a' := ?_) #[true, true, true, true, true, true, true, true, true, true, true, false, false, false, false, false, false, false, false, false, false, false, false, false, false, false] rfl rfl (any_of HT_.out (by kernel_rfl)) (fun _ _ _ h => h) (Or.inr ⟨by rfl, rfl⟩) ?_ ?_
              rotate_left
              · simp only [Act.put, List.setIfInBounds_toArray, List.set_cons_zero, List.set_cons_succ, i64_w, i32_w]
                rfl
              refine pure_ (i := 11) (N := some 23) (v := undef) (a' := ?_) #[true, true, true, true, true, true, true, true, true, true, true, true, false, false, false, false, false, false, false, false, false, false, false, false, false, false] rfl rfl (any_of HT_.out (by kernel_rfl)) (fun _ _ _ h => h) (Or.inr ⟨by rfl, rfl⟩) ?_ ?_
              rotate_left
              · simp only [Act.put, List.setIfInBounds_toArray, List.set_cons_zero, List.set_cons_succ, i64_w, i32_w]
                rfl
              refine pure_ (i := 12) (N := some 24) (v := undef) (a' := ?_) #[true, true, true, true, true, true, true, true, true, true, true, true, true, false, false, false, false, false, false, false, false, false, false, false, false, false] rfl rfl (any_of HT_.out (by kernel_rfl)) (fun _ _ _ h => h) (Or.inr ⟨by rfl, rfl⟩) ?_ ?_
              rotate_left
              · simp only [Act.put, List.setIfInBounds_toArray, List.set_cons_zero, List.set_cons_succ, i64_w, i32_w]
                rfl
              refine pure_ (i := 13) (N := some 25) (v := undef) (a' := ?_) #[true, true, true, true, true, true, true, true, true, true, true, true, true, true, false, false, false, false, false, false, false, false, false, false, false, false] rfl rfl (any_of HT_.out (by kernel_rfl)) (fun _ _ _ h => h) (Or.inr ⟨by rfl, rfl⟩) ?_ ?_
              rotate_left
              · simp only [Act.put, List.setIfInBounds_toArray, List.set_cons_zero, List.set_cons_succ, i64_w, i32_w]
                rfl
              refine pure_ (i := 14) (N := some 26) (v := undef) (a' := ?_) #[true, true, true, true, true, true, true, true, true, true, true, true, true, true, true, false, false, false, false, false, false, false, false, false, false, false] rfl rfl (any_of HT_.out (by kernel_rfl)) (fun _ _ _ h => h) (Or.inr ⟨by rfl, rfl⟩) ?_ ?_
              rotate_left
              · simp only [Act.put, List.setIfInBounds_toArray, List.set_cons_zero, List.set_cons_succ, i64_w, i32_w]
                rfl
              refine pure_ (i := 15) (N := some 27) (v := undef) (a' := ?_) #[true, true, true, true, true, true, true, true, true, true, true, true, true, true, true, true, false, false, false, false, false, false, false, false, false, false] rfl rfl (any_of HT_.out (by kernel_rfl)) (fun _ _ _ h => h) (Or.inr ⟨by rfl, rfl⟩) ?_ ?_
              rotate_left
              · simp only [Act.put, List.setIfInBounds_toArray, List.set_cons_zero, List.set_cons_succ, i64_w, i32_w]
                rfl
              refine pure_ (i := 16) (N := some 28) (v := undef) (a' := ?_) #[true, true, true, true, true, true, true, true, true, true, true, true, true, true, true, true, true, false, false, false, false, false, false, false, false, false] rfl rfl (any_of HT_.out (by kernel_rfl)) (fun _ _ _ h => h) (Or.inr ⟨by rfl, rfl⟩) ?_ ?_
              rotate_left
              · simp only [Act.put, List.setIfInBounds_toArray, List.set_cons_zero, List.set_cons_succ, i64_w, i32_w]
                rfl
              refine pure_ (i := 17) (N := some 29) (v := undef) (a' := ?_) #[true, true, true, true, true, true, true, true, true, true, true, true, true, true, true, true, true, true, false, false, false, false, false, false, false, false] rfl rfl (any_of HT_.out (by kernel_rfl)) (fun _ _ _ h => h) (Or.inr ⟨by rfl, rfl⟩) ?_ ?_
              rotate_left
              · simp only [Act.put, List.setIfInBounds_toArray, List.set_cons_zero, List.set_cons_succ, i64_w, i32_w]
                rfl
              refine pure_ (i := 18) (N := some 30) (v := undef) (a' := ?_) #[true, true, true, true, true, true, true, true, true, true, true, true, true, true, true, true, true, true, true, false, false, false, false, false, false, false] rfl rfl (any_of HT_.out (by kernel_rfl)) (fun _ _ _ h => h) (Or.inr ⟨by rfl, rfl⟩) ?_ ?_
              rotate_left
              · simp only [Act.put, List.setIfInBounds_toArray, List.set_cons_zero, List.set_cons_succ, i64_w, i32_w]
                rfl
              refine pure_ (i := 19) (N := some 31) (v := undef) (a' := ?_) #[true, true, true, true, true, true, true, true, true, true, true, true, true, true, true, true, true, true, true, true, false, false, false, false, false, false] rfl rfl (any_of HT_.out (by kernel_rfl)) (fun _ _ _ h => h) (Or.inr ⟨by rfl, rfl⟩) ?_ ?_
              rotate_left
              · simp only [Act.put, List.setIfInBounds_toArray, List.set_cons_zero, List.set_cons_succ, i64_w, i32_w]
                rfl
              refine pure_ (i := 20) (N := some 32) (v := undef) (a' := ?_) #[true, true, true, true, true, true, true, true, true, true, true, true, true, true, true, true, true, true, true, true, true, false, false, false, false, false] rfl rfl (any_of HT_.out (by kernel_rfl)) (fun _ _ _ h => h) (Or.inr ⟨by rfl, rfl⟩) ?_ ?_
              rotate_left
              · simp only [Act.put, List.setIfInBounds_toArray, List.set_cons_zero, List.set_cons_succ, i64_w, i32_w]
                rfl
              refine pure_ (i := 21) (N := some 33) (v := undef) (a' := ?_) #[true, true, true, true, true, true, true, true, true, true, true, true, true, true, true, true, true, true, true, true, true, true, false, false, false, false] rfl rfl (any_of HT_.out (by kernel_rfl)) (fun _ _ _ h => h) (Or.inr ⟨by rfl, rfl⟩) ?_ ?_
              rotate_left
              · simp only [Act.put, List.setIfInBounds_toArray, List.set_cons_zero, List.set_cons_succ, i64_w, i32_w]
                rfl
              refine pure_ (i := 22) (N := some 34) (v := undef) (a' := ?_) #[true, true, true, true, true, true, true, true, true, true, true, true, true, true, true, true, true, true, true, true, true, true, true, false, false, false] rfl rfl (any_of HT_.out (by kernel_rfl)) (fun _ _ _ h => h) (Or.inr ⟨by rfl, rfl⟩) ?_ ?_
              rotate_left
              · simp only [Act.put, List.setIfInBounds_toArray, List.set_cons_zero, List.set_cons_succ, i64_w, i32_w]
                rfl
              refine pure_ (i := 23) (N := some 35) (v := undef) (a' := ?_) #[true, true, true, true, true, true, true, true, true, true, true, true, true, true, true, true, true, true, true, true, true, true, true, true, false, false] rfl rfl (any_of HT_.out (by kernel_rfl)) (fun _ _ _ h => h) (Or.inr ⟨by rfl, rfl⟩) ?_ ?_
              rotate_left
              · simp only [Act.put, List.setIfInBounds_toArray, List.set_cons_zero, List.set_cons_succ, i64_w, i32_w]
                rfl
              refine pure_ (i := 24) (N := some 36) (v := ?_) (a' := ?_) #[true, true, true, true, true, true, true, true, true, true, true, true, true, true, true, true, true, true, true, true, true, true, true, true, true, false] rfl rfl (any_of HT_.out (by kernel_rfl)) (fun _ _ _ h => h) (Or.inl ⟨by rfl, ?_⟩) ?_ ?_
              rotate_left
              · intro w'
                go_simp
                with_reducible rfl
              rotate_left
              · simp only [Act.put, List.setIfInBounds_toArray, List.set_cons_zero, List.set_cons_succ, i64_w, i32_w]
                rfl
              refine pure_ (i := 25) (N := some 37) (v := ?_) (a' := ?_) #[true, true, true, true, true, true, true, true, true, true, true, true, true, true, true, true, true, true, true, true, true, true, true, true, true, true] rfl rfl (any_of HT_.out (by kernel_rfl)) (fun _ _ _ h => h) (Or.inl ⟨by rfl, ?_⟩) ?_ ?_
              rotate_left
              · intro w'
                go_simp
                with_reducible rfl
              rotate_left
              · simp only [Act.put, List.setIfInBounds_toArray, List.set_cons_zero, List.set_cons_succ, i64_w, i32_w]
                rfl
              refine done_ (done_of HT_.out (by kernel_rfl)) ?_
              try go_wp2
              go_roundg k1
              case measure => have := HK1.out; omega
              case rel => exact ⟨(wrap64 (x3_1 + 1)), (by first | rfl | (simp; done) | (simp [*]; done)), H', ⟨by have := HK1.out; omega⟩, ⟨by repeat (first | (with_reducible first | exact HB.out | apply below_alloc | apply pw_below_drewN | apply below_drew1) | exact HB.out)⟩⟩
          · replace c5 := Bool.eq_false_iff.mpr c5
            subst c5
            have H1 : (some false) = some r := by rw [if_neg (show ¬ (false = true) by decide)] at H; exact H
            clear H
            have H := H1
            clear H1
            obtain rfl := Option.some.inj H
            try go_wp2
            have n0_ := Aside0.mk (below_drew1 HB.out)
            clear HB
            have HB := n0_
            clear n0_
            have p110 : 0 ≤ (x3_1 : Int) := of_decide_eq_true (by first | (with_reducible assumption) | assumption)
            have q110 : x3_1 < (l0.length : Int) := of_decide_eq_true (by first | (with_reducible assumption) | assumption)
            obtain ⟨ad110, A110_1, c110_1, e110, hx110_0, hx110_1, hl110_1, hi110_1⟩ := at_T25 HR0.out x3_1 p110 q110
            have hw110_1 := hx110_1
            have hw110_0 := hx110_0
            cases e110
            replace hx110_0 := (HB.out.cell (World.block_lt_of_cell? w _ hx110_0)).trans hx110_0
            replace hx110_1 := (HB.out.cell (World.block_lt_of_cell? w _ hx110_1)).trans hx110_1
            have HR110_1 := Aside0.mk hi110_1
            have HC110_1 := Aside0.mk hl110_1
            clear hi110_1 hl110_1
            replace p110 := eq_true p110
            replace q110 := eq_true q110
            refine start_ (n := 26) (S := fun w' => w'.cell? (ad110.add ((x3_1).toNat * 2)) = some (.int .i64 ((rd_T25 l0 x3_1).f0)) ∧ w'.cell? ⟨(ad110.add ((x3_1).toNat * 2)).block, (ad110.add ((x3_1).toNat * 2)).off + 1, none⟩ = some (.slice A110_1 ((rd_T25 l0 x3_1).f1).length c110_1)) (ds := []) #[false, false, false, false, false, false, false, false, false, false, false, false, false, false, false, false, false, false, false, false, false, false, false, false, false, false] (by kernel_rfl) rfl rfl ⟨((HB.out.cell (World.block_lt_of_cell? w _ hw110_0)).trans hw110_0), ((HB.out.cell (World.block_lt_of_cell? w _ hw110_1)).trans hw110_1)⟩ (fun hHeld => ?_); refine with_tabW slotmeshref33_Valid.tab4 slotmeshref33_Valid.bits4 (fun HT_ HW_ => ?_)
            generalize wr.drew = w19 at HB HR110_1 hx110_0 hx110_1 hHeld ⊢
            refine pure_ (i := 0) (N := some 12) (v := ?_) (a' := ?_) #[true, false, false, false, false, false, false, false, false, false, false, false, false, false, false, false, false, false, false, false, false, false, false, false, false, false] rfl rfl (any_of HT_.out (by kernel_rfl)) (fun _ _ _ h => h) (Or.inl ⟨by rfl, ?_⟩) ?_ ?_
            rotate_left
            · intro w'
              go_simp
              with_reducible rfl
            rotate_left
            · simp only [Act.put, List.setIfInBounds_toArray, List.set_cons_zero, List.set_cons_succ, i64_w, i32_w]
              rfl
            refine pure_ (i := 1) (N := some 13) (v := ?_) (a' := ?_) #[true, true, false, false, false, false, false, false, false, false, false, false, false, false, false, false, false, false, false, false, false, false, false, false, false, false] rfl rfl (any_of HT_.out (by kernel_rfl)) (fun _ _ _ h => h) (Or.inl ⟨by rfl, ?_⟩) ?_ ?_
            rotate_left
            · intro w'
              go_simp
              with_reducible rfl
            rotate_left
            · simp only [Act.put, List.setIfInBounds_toArray, List.set_cons_zero, List.set_cons_succ, i64_w, i32_w]
              rfl
            refine pure_ (i := 2) (N := some 14) (v := ?_) (a' := ?_) #[true, true, true, false, false, false, false, false, false, false, false, false, false, false, false, false, false, false, false, false, false, false, false, false, false, false] rfl rfl (any_of HT_.out (by kernel_rfl)) (fun _ _ _ h => h) (Or.inl ⟨by rfl, ?_⟩) ?_ ?_
            rotate_left
            · intro w'
              go_simp
              with_reducible rfl
            rotate_left
            · simp only [Act.put, List.setIfInBounds_toArray, List.set_cons_zero, List.set_cons_succ, i64_w, i32_w]
              rfl
            refine take_ (i := 3) (N := some 15) (v := ?_) (a' := ?_) #[true, true, true, true, false, false, false, false, false, false, false, false, false, false, false, false, false, false, false, false, false, false, false, false, false, false] rfl rfl (take_ofW HT_.out HW_.out (by kernel_rfl)) (fun _ _ _ h => h) (Or.inl ⟨by rfl, ?_⟩) hHeld ?_ ?_
            rotate_left
            · rintro w' ⟨s0, s1⟩
              go_simp
              with_reducible rfl
            rotate_left
            · simp only [Act.put, List.setIfInBounds_toArray, List.set_cons_zero, List.set_cons_succ, i64_w, i32_w]
              rfl
            refine one_ (i := 4) (N := some 16) #[true, true, true, true, true, false, false, false, false, false, false, false, false, false, false, false, false, false, false, false, false, false, false, false, false, false] rfl rfl (one_of HT_.out (by kernel_rfl)) (by decide) (fun K hK => ?_)
            refine goes_ Try.func24 (by kernel_rfl) rfl #[.agg #[.int .i64 ((rd_T25 l0 x3_1).f0), .slice A110_1 ((rd_T25 l0 x3_1).f1).length c110_1]] (by rfl) rfl rfl (by (try simp only [List.map_toArray, List.map_cons, List.map_nil]); first | done | rfl | (simp only [List.length_drop, List.length_take]; rfl)) ?_
            with_reducible refine (slotmeshref33_Formed.calls ((rd_T25 l0 x3_1).f0) _ _ ((rd_T25 l0 x3_1).f1) false _ ?side1 ?side2 A4.out).mono ?_
            (case side1 => repeat (first | exact (Kd.C_below HR110_1.out HB.out) | (with_reducible refine Kd.C_alloc ?_ _) | (with_reducible refine Kd.C_drewN ?_ _) | (with_reducible refine Kd.C_drew ?_)))
            (case side2 => exact HC110_1.out)
            rintro e w20 ⟨rfl, hb⟩
            refine ⟨_, rfl, ?_⟩
            have n0_ := Aside0.mk (below_step (by repeat (first | (with_reducible first | exact HB.out | apply below_alloc | apply pw_below_drewN | apply below_drew1) | exact HB.out)) hb)
            clear HB
            have HB := n0_
            clear n0_
            (try clear hb)
            (try clear hb2)
            (try clear hk)
            (try clear hi)
            refine hK.out _ _ ⟨((HB.out.cell (World.block_lt_of_cell? w _ hw110_0)).trans hw110_0), ((HB.out.cell (World.block_lt_of_cell? w _ hw110_1)).trans hw110_1)⟩ (fun hHeld => ?_)
            clear hK K
            refine norm_ (a' := ?_) ?_ ?_
            rotate_left
            · show Act.put _ (some 16) _ = _
              simp only [Act.put, List.setIfInBounds_toArray, List.set_cons_zero, List.set_cons_succ, i64_w, i32_w]
              rfl
            refine pure_ (i := 5) (N := some 17) (v := ?_) (a' := ?_) #[true, true, true, true, true, true, false, false, false, false, false, false, false, false, false, false, false, false, false, false, false, false, false, false, false, false] rfl rfl (any_of HT_.out (by kernel_rfl)) (fun _ _ _ h => h) (Or.inl ⟨by rfl, ?_⟩) ?_ ?_
            rotate_left
            · intro w'
              go_simp
              with_reducible rfl
            rotate_left
            · simp only [Act.put, List.setIfInBounds_toArray, List.set_cons_zero, List.set_cons_succ, i64_w, i32_w]
              rfl
            refine pure_ (i := 6) (N := some 18) (v := ?_) (a' := ?_) #[true, true, true, true, true, true, true, false, false, false, false, false, false, false, false, false, false, false, false, false, false, false, false, false, false, false] rfl rfl (any_of HT_.out (by kernel_rfl)) (fun _ _ _ h => h) (Or.inl ⟨by rfl, ?_⟩) ?_ ?_
            rotate_left
            · intro w'
              go_simp
              with_reducible rfl
            rotate_left
            · simp only [Act.put, List.setIfInBounds_toArray, List.set_cons_zero, List.set_cons_succ, i64_w, i32_w]
              rfl
            refine pure_ (i := 7) (N := some 19) (v := undef) (a' := ?_) #[true, true, true, true, true, true, true, true, false, false, false, false, false, false, false, false, false, false, false, false, false, false, false, false, false, false] rfl rfl (any_of HT_.out (by kernel_rfl)) (fun _ _ _ h => h) (Or.inr ⟨by rfl, rfl⟩) ?_ ?_
            rotate_left
            · simp only [Act.put, List.setIfInBounds_toArray, List.set_cons_zero, List.set_cons_succ, i64_w, i32_w]
              rfl
            refine pure_ (i := 8) (N := some 20) (v := undef) (a' := ?_) #[true, true, true, true, true, true, true, true, true, false, false, false, false, false, false, false, false, false, false, false, false, false, false, false, false, false] rfl rfl (any_of HT_.out (by kernel_rfl)) (fun _ _ _ h => h) (Or.inr ⟨by rfl, rfl⟩) ?_ ?_
            rotate_left
            · simp only [Act.put, List.setIfInBounds_toArray, List.set_cons_zero, List.set_cons_succ, i64_w, i32_w]
              rfl
            refine pure_ (i := 9) (N := some 21) (v := undef) (a' := ?_) #[true, true, true, true, true, true, true, true, true, true, false, false, false, false, false, false, false, false, false, false, false, false, false, false, false, false] rfl rfl (any_of HT_.out (by kernel_rfl)) (fun _ _ _ h => h) (Or.inr ⟨by rfl, rfl⟩) ?_ ?_
            rotate_left
            · simp only [Act.put, List.setIfInBounds_toArray, List.set_cons_zero, List.set_cons_succ, i64_w, i32_w]
              rfl
            refine pure_ (i := 10) (N := some 22) (v := undef) (a' := ?_) #[true, true, true, true, true, true, true, true, true, true, true, false, false, false, false, false, false, false, false, false, false, false, false, false, false, false] rfl rfl (any_of HT_.out (by kernel_rfl)) (fun _ _ _ h => h) (Or.inr ⟨by rfl, rfl⟩) ?_ ?_
            rotate_left
            · simp only [Act.put, List.setIfInBounds_toArray, List.set_cons_zero, List.set_cons_succ, i64_w, i32_w]
              rfl
            refine pure_ (i := 11) (N := some 23) (v := undef) (a' := ?_) #[true, true, true, true, true, true, true, true, true, true, true, true, false, false, false, false, false, false, false, false, false, false, false, false, false, false] rfl rfl (any_of HT_.out (by kernel_rfl)) (fun _ _ _ h => h) (Or.inr ⟨by rfl, rfl⟩) ?_ ?_
            rotate_left
            · simp only [Act.put, List.setIfInBounds_toArray, List.set_cons_zero, List.set_cons_succ, i64_w, i32_w]
              rfl
            refine pure_ (i := 12) (N := some 24) (v := undef) (a' := ?_) #[true, true, true, true, true, true, true, true, true, true, true, true, true, false, false, false, false, false, false, false, false, false, false, false, false, false] rfl rfl (any_of HT_.out (by kernel_rfl)) (fun _ _ _ h => h) (Or.inr ⟨by rfl, rfl⟩) ?_ ?_
            rotate_left
            · simp only [Act.put, List.setIfInBounds_toArray, List.set_cons_zero, List.set_cons_succ, i64_w, i32_w]
              rfl
            refine pure_ (i := 13) (N := some 25) (v := undef) (a' := ?_) #[true, true, true, true, true, true, true, true, true, true, true, true, true, true, false, false, false, false, false, false, false, false, false, false, false, false] rfl rfl (any_of HT_.out (by kernel_rfl)) (fun _ _ _ h => h) (Or.inr ⟨by rfl, rfl⟩) ?_ ?_
            rotate_left
            · simp only [Act.put, List.setIfInBounds_toArray, List.set_cons_zero, List.set_cons_succ, i64_w, i32_w]
              rfl
            refine pure_ (i := 14) (N := some 26) (v := undef) (a' := ?_) #[true, true, true, true, true, true, true, true, true, true, true, true, true, true, true, false, false, false, false, false, false, false, false, false, false, false] rfl rfl (any_of HT_.out (by kernel_rfl)) (fun _ _ _ h => h) (Or.inr ⟨by rfl, rfl⟩) ?_ ?_
            rotate_left
            · simp only [Act.put, List.setIfInBounds_toArray, List.set_cons_zero, List.set_cons_succ, i64_w, i32_w]
              rfl
            refine pure_ (i := 15) (N := some 27) (v := undef) (a' := ?_) #[true, true, true, true, true, true, true, true, true, true, true, true, true, true, true, true, false, false, false, false, false, false, false, false, false, false] rfl rfl (any_of HT_.out (by kernel_rfl)) (fun _ _ _ h => h) (Or.inr ⟨by rfl, rfl⟩) ?_ ?_
            rotate_left
            · simp only [Act.put, List.setIfInBounds_toArray, List.set_cons_zero, List.set_cons_succ, i64_w, i32_w]
              rfl
            refine pure_ (i := 16) (N := some 28) (v := undef) (a' := ?_) #[true, true, true, true, true, true, true, true, true, true, true, true, true, true, true, true, true, false, false, false, false, false, false, false, false, false] rfl rfl (any_of HT_.out (by kernel_rfl)) (fun _ _ _ h => h) (Or.inr ⟨by rfl, rfl⟩) ?_ ?_
            rotate_left
            · simp only [Act.put, List.setIfInBounds_toArray, List.set_cons_zero, List.set_cons_succ, i64_w, i32_w]
              rfl
            refine pure_ (i := 17) (N := some 29) (v := undef) (a' := ?_) #[true, true, true, true, true, true, true, true, true, true, true, true, true, true, true, true, true, true, false, false, false, false, false, false, false, false] rfl rfl (any_of HT_.out (by kernel_rfl)) (fun _ _ _ h => h) (Or.inr ⟨by rfl, rfl⟩) ?_ ?_
            rotate_left
            · simp only [Act.put, List.setIfInBounds_toArray, List.set_cons_zero, List.set_cons_succ, i64_w, i32_w]
              rfl
            refine pure_ (i := 18) (N := some 30) (v := undef) (a' := ?_) #[true, true, true, true, true, true, true, true, true, true, true, true, true, true, true, true, true, true, true, false, false, false, false, false, false, false] rfl rfl (any_of HT_.out (by kernel_rfl)) (fun _ _ _ h => h) (Or.inr ⟨by rfl, rfl⟩) ?_ ?_
            rotate_left
            · simp only [Act.put, List.setIfInBounds_toArray, List.set_cons_zero, List.set_cons_succ, i64_w, i32_w]
              rfl
            refine pure_ (i := 19) (N := some 31) (v := undef) (a' := ?_) #[true, true, true, true, true, true, true, true, true, true, true, true, true, true, true, true, true, true, true, true, false, false, false, false, false, false] rfl rfl (any_of HT_.out (by kernel_rfl)) (fun _ _ _ h => h) (Or.inr ⟨by rfl, rfl⟩) ?_ ?_
            rotate_left
            · simp only [Act.put, List.setIfInBounds_toArray, List.set_cons_zero, List.set_cons_succ, i64_w, i32_w]
              rfl
            refine pure_ (i := 20) (N := some 32) (v := undef) (a' := ?_) #[true, true, true, true, true, true, true, true, true, true, true, true, true, true, true, true, true, true, true, true, true, false, false, false, false, false] rfl rfl (any_of HT_.out (by kernel_rfl)) (fun _ _ _ h => h) (Or.inr ⟨by rfl, rfl⟩) ?_ ?_
            rotate_left
            · simp only [Act.put, List.setIfInBounds_toArray, List.set_cons_zero, List.set_cons_succ, i64_w, i32_w]
              rfl
            refine pure_ (i := 21) (N := some 33) (v := undef) (a' := ?_) #[true, true, true, true, true, true, true, true, true, true, true, true, true, true, true, true, true, true, true, true, true, true, false, false, false, false] rfl rfl (any_of HT_.out (by kernel_rfl)) (fun _ _ _ h => h) (Or.inr ⟨by rfl, rfl⟩) ?_ ?_
            rotate_left
            · simp only [Act.put, List.setIfInBounds_toArray, List.set_cons_zero, List.set_cons_succ, i64_w, i32_w]
              rfl
            refine pure_ (i := 22) (N := some 34) (v := undef) (a' := ?_) #[true, true, true, true, true, true, true, true, true, true, true, true, true, true, true, true, true, true, true, true, true, true, true, false, false, false] rfl rfl (any_of HT_.out (by kernel_rfl)) (fun _ _ _ h => h) (Or.inr ⟨by rfl, rfl⟩) ?_ ?_
            rotate_left
            · simp only [Act.put, List.setIfInBounds_toArray, List.set_cons_zero, List.set_cons_succ, i64_w, i32_w]
              rfl
            refine pure_ (i := 23) (N := some 35) (v := undef) (a' := ?_) #[true, true, true, true, true, true, true, true, true, true, true, true, true, true, true, true, true, true, true, true, true, true, true, true, false, false] rfl rfl (any_of HT_.out (by kernel_rfl)) (fun _ _ _ h => h) (Or.inr ⟨by rfl, rfl⟩) ?_ ?_
            rotate_left
            · simp only [Act.put, List.setIfInBounds_toArray, List.set_cons_zero, List.set_cons_succ, i64_w, i32_w]
              rfl
            refine pure_ (i := 24) (N := some 36) (v := undef) (a' := ?_) #[true, true, true, true, true, true, true, true, true, true, true, true, true, true, true, true, true, true, true, true, true, true, true, true, true, false] rfl rfl (any_of HT_.out (by kernel_rfl)) (fun _ _ _ h => h) (Or.inr ⟨by rfl, rfl⟩) ?_ ?_
            rotate_left
            · simp only [Act.put, List.setIfInBounds_toArray, List.set_cons_zero, List.set_cons_succ, i64_w, i32_w]
              rfl
            refine pure_ (i := 25) (N := some 37) (v := ?_) (a' := ?_) #[true, true, true, true, true, true, true, true, true, true, true, true, true, true, true, true, true, true, true, true, true, true, true, true, true, true] rfl rfl (any_of HT_.out (by kernel_rfl)) (fun _ _ _ h => h) (Or.inl ⟨by rfl, ?_⟩) ?_ ?_
            rotate_left
            · intro w'
              go_simp
              with_reducible rfl
            rotate_left
            · simp only [Act.put, List.setIfInBounds_toArray, List.set_cons_zero, List.set_cons_succ, i64_w, i32_w]
              rfl
            refine done_ (done_of HT_.out (by kernel_rfl)) ?_
            try go_wp2
            go_ret
            exact ⟨by first | rfl | (simp [errW_none, errW_some] <;> rfl) | (simp [*, errW_none, errW_some] <;> rfl), by repeat (first | (with_reducible first | exact HB.out | apply below_alloc | apply pw_below_drewN | apply below_drew1) | exact HB.out)⟩
        · rw [if_neg c3] at H
          exact absurd H (by simp)
      · rw [if_neg c2] at H
        have c2b0 : decide (x3_1 < (l0.length : Int)) = false := decide_eq_false c2
        clear c2
        have H' := Aside0.mk H
        clear H
        go_wp2
        go_loopg [4] k1 (fun kq v4 w' => ∃ (x4_2 : Int), v4 = .int .i64 x4_2 ∧ Aside0 (slotmeshref33_Valid.l1 kq l0 x4_2 = some r) ∧ Aside0 (kq ≤ k1) ∧ Aside0 (Below w.heap.size w w'))
        case atStart => exact ⟨(0), (by first | rfl | (simp; done) | (simp [*]; done)), H', ⟨Nat.le_refl _⟩, ⟨by repeat (first | (with_reducible first | exact HB.out | apply below_alloc | apply pw_below_drewN | apply below_drew1) | exact HB.out)⟩⟩
        case round =>
          clear H'
          try clear c1
          try clear p1
          try clear q1
          try clear hx1
          try clear c2
          try clear c2b0
          try clear p2
          try clear c3
          try clear c5
          try clear c6
          try clear c6b0
          try clear p6
          try clear c8
          try clear c9
          try clear c11
          try clear p11
          try clear q11
          try clear hx11
          try clear hx110_0
          try clear hx110_1
          try clear p110
          try clear q110
          obtain ⟨x4_2, rfl, HA, HK2, HB⟩ := hrel
          cases gk with
          | zero => exact absurd HA.out (by simp [slotmeshref33_Valid.l1])
          | succ k2 =>
            have H := HA.out
            clear HA
            simp only [slotmeshref33_Valid.l1] at H
            by_cases c21 : x4_2 < (l0.length : Int)
            · rw [if_pos c21] at H
              have c21b0 : decide (x4_2 < (l0.length : Int)) = true := decide_eq_true c21
              clear c21
              have H' := Aside0.mk H
              clear H
              go_wp2
              go_loopg [5] k2 (fun kq v5 w' => ∃ (x5_3 : Int), v5 = .int .i64 x5_3 ∧ Aside0 (slotmeshref33_Valid.l2 kq l0 x4_2 x5_3 = some r) ∧ Aside0 (kq ≤ k2) ∧ Aside0 (Below w.heap.size w w'))
              case atStart => exact ⟨(0), (by first | rfl | (simp; done) | (simp [*]; done)), H', ⟨Nat.le_refl _⟩, ⟨by repeat (first | (with_reducible first | exact HB.out | apply below_alloc | apply pw_below_drewN | apply below_drew1) | exact HB.out)⟩⟩
              case round =>
                clear H'
                try clear c1
                try clear p1
                try clear q1
                try clear hx1
                try clear c2
                try clear c2b0
                try clear p2
                try clear c3
                try clear c5
                try clear c6
                try clear c6b0
                try clear p6
                try clear c8
                try clear c9
                try clear c11
                try clear p11
                try clear q11
                try clear hx11
                try clear c21
                try clear c21b0
                try clear hx110_0
                try clear hx110_1
                try clear p1
                try clear p11
                try clear p110
                try clear p2
                try clear p6
                try clear q1
                try clear q11
                try clear q110
                obtain ⟨x5_3, rfl, HA, HK3, HB⟩ := hrel
                cases gk with
                | zero => exact absurd HA.out (by simp [slotmeshref33_Valid.l2])
                | succ k3 =>
                  have H := HA.out
                  clear HA
                  simp only [slotmeshref33_Valid.l2] at H
                  by_cases c22 : x5_3 < (l0.length : Int)
                  · rw [if_pos c22] at H
                    have c22b0 : decide (x5_3 < (l0.length : Int)) = true := decide_eq_true c22
                    clear c22
                    by_cases c23 : x4_2 = x5_3
                    · rw [if_pos c23] at H
                      have c23b0 : (x4_2 == x5_3) = true := beq_iff_eq.mpr c23
                      have c23b1 : (x4_2 != x5_3) = false := bne_eq_false_iff_eq.mpr c23
                      clear c23
                      have H' := Aside0.mk H
                      clear H
                      try go_wp2
                      have n0_ := Aside0.mk (below_drew1 HB.out)
                      clear HB
                      have HB := n0_
                      clear n0_
                      refine start_ (n := 18) (S := fun w' => True) (ds := []) #[false, false, false, false, false, false, false, false, false, false, false, false, false, false, false, false, false, false] (by kernel_rfl) rfl rfl trivial (fun hHeld => ?_); refine with_tabW slotmeshref33_Valid.tab12 slotmeshref33_Valid.bits12 (fun HT_ HW_ => ?_)
                      generalize wr.drew = w24 at HB hHeld ⊢
                      refine pure_ (i := 0) (N := some 50) (v := ?_) (a' := ?_) #[true, false, false, false, false, false, false, false, false, false, false, false, false, false, false, false, false, false] rfl rfl (any_of HT_.out (by kernel_rfl)) (fun _ _ _ h => h) (Or.inl ⟨by rfl, ?_⟩) ?_ ?_
                      rotate_left
                      · intro w'
                        go_simp
                        with_reducible rfl
                      rotate_left
                      · simp only [Act.put, List.setIfInBounds_toArray, List.set_cons_zero, List.set_cons_succ, i64_w, i32_w]
                        rfl
                      refine pure_ (i := 1) (N := some 51) (v := ?_) (a' := ?_) #[true, true, false, false, false, false, false, false, false, false, false, false, false, false, false, false, false, false] rfl rfl (any_of HT_.out (by kernel_rfl)) (fun _ _ _ h => h) (Or.inl ⟨by rfl, ?_⟩) ?_ ?_
                      rotate_left
                      · intro w'
                        go_simp
                        with_reducible rfl
                      rotate_left
                      · simp only [Act.put, List.setIfInBounds_toArray, List.set_cons_zero, List.set_cons_succ, i64_w, i32_w]
                        rfl
                      refine pure_ (i := 2) (N := some 52) (v := ?_) (a' := ?_) #[true, true, true, false, false, false, false, false, false, false, false, false, false, false, false, false, false, false] rfl rfl (any_of HT_.out (by kernel_rfl)) (fun _ _ _ h => h) (Or.inl ⟨by rfl, ?_⟩) ?_ ?_
                      rotate_left
                      · intro w'
                        go_simp
                        with_reducible rfl
                      rotate_left
                      · simp only [Act.put, List.setIfInBounds_toArray, List.set_cons_zero, List.set_cons_succ, i64_w, i32_w]
                        rfl
                      refine pure_ (i := 3) (N := some 53) (v := ?_) (a' := ?_) #[true, true, true, true, false, false, false, false, false, false, false, false, false, false, false, false, false, false] rfl rfl (any_of HT_.out (by kernel_rfl)) (fun _ _ _ h => h) (Or.inl ⟨by rfl, ?_⟩) ?_ ?_
                      rotate_left
                      · intro w'
                        go_simp
                        with_reducible rfl
                      rotate_left
                      · simp only [Act.put, List.setIfInBounds_toArray, List.set_cons_zero, List.set_cons_succ, i64_w, i32_w]
                        rfl
                      refine pure_ (i := 4) (N := some 54) (v := undef) (a' := ?_) #[true, true, true, true, true, false, false, false, false, false, false, false, false, false, false, false, false, false] rfl rfl (any_of HT_.out (by kernel_rfl)) (fun _ _ _ h => h) (Or.inr ⟨by rfl, rfl⟩) ?_ ?_
                      rotate_left
                      · simp only [Act.put, List.setIfInBounds_toArray, List.set_cons_zero, List.set_cons_succ, i64_w, i32_w]
                        rfl
                      refine pure_ (i := 5) (N := some 55) (v := undef) (a' := ?_) #[true, true, true, true, true, true, false, false, false, false, false, false, false, false, false, false, false, false] rfl rfl (any_of HT_.out (by kernel_rfl)) (fun _ _ _ h => h) (Or.inr ⟨by rfl, rfl⟩) ?_ ?_
                      rotate_left
                      · simp only [Act.put, List.setIfInBounds_toArray, List.set_cons_zero, List.set_cons_succ, i64_w, i32_w]
                        rfl
                      refine pure_ (i := 6) (N := some 56) (v := undef) (a' := ?_) #[true, true, true, true, true, true, true, false, false, false, false, false, false, false, false, false, false, false] rfl rfl (any_of HT_.out (by kernel_rfl)) (fun _ _ _ h => h) (Or.inr ⟨by rfl, rfl⟩) ?_ ?_
                      rotate_left
                      · simp only [Act.put, List.setIfInBounds_toArray, List.set_cons_zero, List.set_cons_succ, i64_w, i32_w]
                        rfl
                      refine pure_ (i := 7) (N := some 57) (v := undef) (a' := ?_) #[true, true, true, true, true, true, true, true, false, false, false, false, false, false, false, false, false, false] rfl rfl (any_of HT_.out (by kernel_rfl)) (fun _ _ _ h => h) (Or.inr ⟨by rfl, rfl⟩) ?_ ?_
                      rotate_left
                      · simp only [Act.put, List.setIfInBounds_toArray, List.set_cons_zero, List.set_cons_succ, i64_w, i32_w]
                        rfl
                      refine pure_ (i := 8) (N := some 58) (v := undef) (a' := ?_) #[true, true, true, true, true, true, true, true, true, false, false, false, false, false, false, false, false, false] rfl rfl (any_of HT_.out (by kernel_rfl)) (fun _ _ _ h => h) (Or.inr ⟨by rfl, rfl⟩) ?_ ?_
                      rotate_left
                      · simp only [Act.put, List.setIfInBounds_toArray, List.set_cons_zero, List.set_cons_succ, i64_w, i32_w]
                        rfl
                      refine pure_ (i := 9) (N := some 59) (v := undef) (a' := ?_) #[true, true, true, true, true, true, true, true, true, true, false, false, false, false, false, false, false, false] rfl rfl (any_of HT_.out (by kernel_rfl)) (fun _ _ _ h => h) (Or.inr ⟨by rfl, rfl⟩) ?_ ?_
                      rotate_left
                      · simp only [Act.put, List.setIfInBounds_toArray, List.set_cons_zero, List.set_cons_succ, i64_w, i32_w]
                        rfl
                      refine pure_ (i := 10) (N := some 60) (v := undef) (a' := ?_) #[true, true, true, true, true, true, true, true, true, true, true, false, false, false, false, false, false, false] rfl rfl (any_of HT_.out (by kernel_rfl)) (fun _ _ _ h => h) (Or.inr ⟨by rfl, rfl⟩) ?_ ?_
                      rotate_left
                      · simp only [Act.put, List.setIfInBounds_toArray, List.set_cons_zero, List.set_cons_succ, i64_w, i32_w]
                        rfl
                      refine pure_ (i := 11) (N := some 61) (v := undef) (a' := ?_) #[true, true, true, true, true, true, true, true, true, true, true, true, false, false, false, false, false, false] rfl rfl (any_of HT_.out (by kernel_rfl)) (fun _ _ _ h => h) (Or.inr ⟨by rfl, rfl⟩) ?_ ?_
                      rotate_left
                      · simp only [Act.put, List.setIfInBounds_toArray, List.set_cons_zero, List.set_cons_succ, i64_w, i32_w]
                        rfl
                      refine pure_ (i := 12) (N := some 62) (v := undef) (a' := ?_) #[true, true, true, true, true, true, true, true, true, true, true, true, true, false, false, false, false, false] rfl rfl (any_of HT_.out (by kernel_rfl)) (fun _ _ _ h => h) (Or.inr ⟨by rfl, rfl⟩) ?_ ?_
                      rotate_left
                      · simp only [Act.put, List.setIfInBounds_toArray, List.set_cons_zero, List.set_cons_succ, i64_w, i32_w]
                        rfl
                      refine pure_ (i := 13) (N := some 63) (v := undef) (a' := ?_) #[true, true, true, true, true, true, true, true, true, true, true, true, true, true, false, false, false, false] rfl rfl (any_of HT_.out (by kernel_rfl)) (fun _ _ _ h => h) (Or.inr ⟨by rfl, rfl⟩) ?_ ?_
                      rotate_left
                      · simp only [Act.put, List.setIfInBounds_toArray, List.set_cons_zero, List.set_cons_succ, i64_w, i32_w]
                        rfl
                      refine pure_ (i := 14) (N := some 64) (v := undef) (a' := ?_) #[true, true, true, true, true, true, true, true, true, true, true, true, true, true, true, false, false, false] rfl rfl (any_of HT_.out (by kernel_rfl)) (fun _ _ _ h => h) (Or.inr ⟨by rfl, rfl⟩) ?_ ?_
                      rotate_left
                      · simp only [Act.put, List.setIfInBounds_toArray, List.set_cons_zero, List.set_cons_succ, i64_w, i32_w]
                        rfl
                      refine pure_ (i := 15) (N := some 65) (v := undef) (a' := ?_) #[true, true, true, true, true, true, true, true, true, true, true, true, true, true, true, true, false, false] rfl rfl (any_of HT_.out (by kernel_rfl)) (fun _ _ _ h => h) (Or.inr ⟨by rfl, rfl⟩) ?_ ?_
                      rotate_left
                      · simp only [Act.put, List.setIfInBounds_toArray, List.set_cons_zero, List.set_cons_succ, i64_w, i32_w]
                        rfl
                      refine pure_ (i := 16) (N := some 66) (v := undef) (a' := ?_) #[true, true, true, true, true, true, true, true, true, true, true, true, true, true, true, true, true, false] rfl rfl (any_of HT_.out (by kernel_rfl)) (fun _ _ _ h => h) (Or.inr ⟨by rfl, rfl⟩) ?_ ?_
                      rotate_left
                      · simp only [Act.put, List.setIfInBounds_toArray, List.set_cons_zero, List.set_cons_succ, i64_w, i32_w]
                        rfl
                      refine pure_ (i := 17) (N := some 67) (v := ?_) (a' := ?_) #[true, true, true, true, true, true, true, true, true, true, true, true, true, true, true, true, true, true] rfl rfl (any_of HT_.out (by kernel_rfl)) (fun _ _ _ h => h) (Or.inl ⟨by rfl, ?_⟩) ?_ ?_
                      rotate_left
                      · intro w'
                        go_simp
                        with_reducible rfl
                      rotate_left
                      · simp only [Act.put, List.setIfInBounds_toArray, List.set_cons_zero, List.set_cons_succ, i64_w, i32_w]
                        rfl
                      refine done_ (done_of HT_.out (by kernel_rfl)) ?_
                      try go_wp2
                      go_roundg k3
                      case measure => have := HK1.out; have := HK2.out; have := HK3.out; omega
                      case rel => exact ⟨(wrap64 (x5_3 + 1)), (by first | rfl | (simp; done) | (simp [*]; done)), H', ⟨by have := HK1.out; have := HK2.out; have := HK3.out; omega⟩, ⟨by repeat (first | (with_reducible first | exact HB.out | apply below_alloc | apply pw_below_drewN | apply below_drew1) | exact HB.out)⟩⟩
                    · rw [if_neg c23] at H
                      have c23b0 : (x4_2 == x5_3) = false := beq_eq_false_iff_ne.mpr c23
                      have c23b1 : (x4_2 != x5_3) = true := bne_iff_ne.mpr c23
                      by_cases c25 : 0 ≤ x5_3
                      · rw [if_pos c25] at H
                        have c25b0 : decide (0 ≤ x5_3) = true := decide_eq_true c25
                        clear c25
                        by_cases c26 : 0 ≤ x4_2
                        · rw [if_pos c26] at H
                          have c26b0 : decide (0 ≤ x4_2) = true := decide_eq_true c26
                          clear c26
                          by_cases c27 : x4_2 < (l0.length : Int)
                          · rw [if_pos c27] at H
                            have c27b0 : decide (x4_2 < (l0.length : Int)) = true := decide_eq_true c27
                            clear c27
                            replace H := Option.bind_eq_some_iff.mp H
                            obtain ⟨t118, A280, H⟩ := H
                            replace H : (if (Go.bits .and .i64 ((rd_T25 l0 x5_3).f0) t118) = 0 then (slotmeshref33_Valid.l2 k3 l0 x4_2 (wrap64 (x5_3 + 1))) else (some false)) = some r := H
                            have A28 := Aside0.mk A280
                            clear A280
                            by_cases c29 : (Go.bits .and .i64 ((rd_T25 l0 x5_3).f0) t118) = 0
                            · rw [if_pos c29] at H
                              have c29b0 : ((Go.bits .and .i64 ((rd_T25 l0 x5_3).f0) t118) == 0) = true := beq_iff_eq.mpr c29
                              have c29b1 : ((Go.bits .and .i64 ((rd_T25 l0 x5_3).f0) t118) != 0) = false := bne_eq_false_iff_eq.mpr c29
                              clear c29
                              have H' := Aside0.mk H
                              clear H
                              try go_wp2
                              have n0_ := Aside0.mk (below_drew1 HB.out)
                              clear HB
                              have HB := n0_
                              clear n0_
                              have p116 : 0 ≤ (x5_3 : Int) := of_decide_eq_true (by first | (with_reducible assumption) | assumption)
                              have q116 : x5_3 < (l0.length : Int) := of_decide_eq_true (by first | (with_reducible assumption) | assumption)
                              obtain ⟨ad116, A116_1, c116_1, e116, hx116_0, hx116_1, hl116_1, hi116_1⟩ := at_T25 HR0.out x5_3 p116 q116
                              have hw116_1 := hx116_1
                              have hw116_0 := hx116_0
                              cases e116
                              replace hx116_0 := (HB.out.cell (World.block_lt_of_cell? w _ hx116_0)).trans hx116_0
                              replace hx116_1 := (HB.out.cell (World.block_lt_of_cell? w _ hx116_1)).trans hx116_1
                              have HR116_1 := Aside0.mk hi116_1
                              have HC116_1 := Aside0.mk hl116_1
                              clear hi116_1 hl116_1
                              replace p116 := eq_true p116
                              replace q116 := eq_true q116
                              have p117 : 0 ≤ (x4_2 : Int) := of_decide_eq_true (by first | (with_reducible assumption) | assumption)
                              have q117 : x4_2 < (l0.length : Int) := of_decide_eq_true (by first | (with_reducible assumption) | assumption)
                              obtain ⟨ad117, A117_1, c117_1, e117, hx117_0, hx117_1, hl117_1, hi117_1⟩ := at_T25 HR0.out x4_2 p117 q117
                              have hw117_1 := hx117_1
                              have hw117_0 := hx117_0
                              obtain rfl : ad116 = ad117 := (by injection e117)
                              replace hx117_0 := (HB.out.cell (World.block_lt_of_cell? w _ hx117_0)).trans hx117_0
                              replace hx117_1 := (HB.out.cell (World.block_lt_of_cell? w _ hx117_1)).trans hx117_1
                              have HR117_1 := Aside0.mk hi117_1
                              have HC117_1 := Aside0.mk hl117_1
                              clear hi117_1 hl117_1
                              replace p117 := eq_true p117
                              replace q117 := eq_true q117
                              refine start_ (n := 18) (S := fun w' => w'.cell? (ad116.add ((x5_3).toNat * 2)) = some (.int .i64 ((rd_T25 l0 x5_3).f0)) ∧ w'.cell? ⟨(ad116.add ((x5_3).toNat * 2)).block, (ad116.add ((x5_3).toNat * 2)).off + 1, none⟩ = some (.slice A116_1 ((rd_T25 l0 x5_3).f1).length c116_1) ∧ w'.cell? (ad116.add ((x4_2).toNat * 2)) = some (.int .i64 ((rd_T25 l0 x4_2).f0)) ∧ w'.cell? ⟨(ad116.add ((x4_2).toNat * 2)).block, (ad116.add ((x4_2).toNat * 2)).off + 1, none⟩ = some (.slice A117_1 ((rd_T25 l0 x4_2).f1).length c117_1)) (ds := []) #[false, false, false, false, false, false, false, false, false, false, false, false, false, false, false, false, false, false] (by kernel_rfl) rfl rfl ⟨((HB.out.cell (World.block_lt_of_cell? w _ hw116_0)).trans hw116_0), ((HB.out.cell (World.block_lt_of_cell? w _ hw116_1)).trans hw116_1), ((HB.out.cell (World.block_lt_of_cell? w _ hw117_0)).trans hw117_0), ((HB.out.cell (World.block_lt_of_cell? w _ hw117_1)).trans hw117_1)⟩ (fun hHeld => ?_); refine with_tabW slotmeshref33_Valid.tab12 slotmeshref33_Valid.bits12 (fun HT_ HW_ => ?_)
                              generalize wr.drew = w30 at HB HR116_1 HR117_1 hx116_0 hx116_1 hx117_0 hx117_1 hHeld ⊢
                              refine pure_ (i := 0) (N := some 50) (v := ?_) (a' := ?_) #[true, false, false, false, false, false, false, false, false, false, false, false, false, false, false, false, false, false] rfl rfl (any_of HT_.out (by kernel_rfl)) (fun _ _ _ h => h) (Or.inl ⟨by rfl, ?_⟩) ?_ ?_
                              rotate_left
                              · intro w'
                                go_simp
                                with_reducible rfl
                              rotate_left
                              · simp only [Act.put, List.setIfInBounds_toArray, List.set_cons_zero, List.set_cons_succ, i64_w, i32_w]
                                rfl
                              refine pure_ (i := 1) (N := some 51) (v := ?_) (a' := ?_) #[true, true, false, false, false, false, false, false, false, false, false, false, false, false, false, false, false, false] rfl rfl (any_of HT_.out (by kernel_rfl)) (fun _ _ _ h => h) (Or.inl ⟨by rfl, ?_⟩) ?_ ?_
                              rotate_left
                              · intro w'
                                go_simp
                                with_reducible rfl
                              rotate_left
                              · simp only [Act.put, List.setIfInBounds_toArray, List.set_cons_zero, List.set_cons_succ, i64_w, i32_w]
                                rfl
                              refine pure_ (i := 2) (N := some 52) (v := ?_) (a' := ?_) #[true, true, true, false, false, false, false, false, false, false, false, false, false, false, false, false, false, false] rfl rfl (any_of HT_.out (by kernel_rfl)) (fun _ _ _ h => h) (Or.inl ⟨by rfl, ?_⟩) ?_ ?_
                              rotate_left
                              · intro w'
                                go_simp
                                with_reducible rfl
                              rotate_left
                              · simp only [Act.put, List.setIfInBounds_toArray, List.set_cons_zero, List.set_cons_succ, i64_w, i32_w]
                                rfl
                              refine pure_ (i := 3) (N := some 53) (v := ?_) (a' := ?_) #[true, true, true, true, false, false, false, false, false, false, false, false, false, false, false, false, false, false] rfl rfl (any_of HT_.out (by kernel_rfl)) (fun _ _ _ h => h) (Or.inl ⟨by rfl, ?_⟩) ?_ ?_
                              rotate_left
                              · intro w'
                                go_simp
                                with_reducible rfl
                              rotate_left
                              · simp only [Act.put, List.setIfInBounds_toArray, List.set_cons_zero, List.set_cons_succ, i64_w, i32_w]
                                rfl
                              refine pure_ (i := 4) (N := some 54) (v := ?_) (a' := ?_) #[true, true, true, true, true, false, false, false, false, false, false, false, false, false, false, false, false, false] rfl rfl (any_of HT_.out (by kernel_rfl)) (fun _ _ _ h => h) (Or.inl ⟨by rfl, ?_⟩) ?_ ?_
                              rotate_left
                              · intro w'
                                go_simp
                                with_reducible rfl
                              rotate_left
                              · simp only [Act.put, List.setIfInBounds_toArray, List.set_cons_zero, List.set_cons_succ, i64_w, i32_w]
                                rfl
                              refine pure_ (i := 5) (N := some 55) (v := ?_) (a' := ?_) #[true, true, true, true, true, true, false, false, false, false, false, false, false, false, false, false, false, false] rfl rfl (any_of HT_.out (by kernel_rfl)) (fun _ _ _ h => h) (Or.inl ⟨by rfl, ?_⟩) ?_ ?_
                              rotate_left
                              · intro w'
                                go_simp
                                with_reducible rfl
                              rotate_left
                              · simp only [Act.put, List.setIfInBounds_toArray, List.set_cons_zero, List.set_cons_succ, i64_w, i32_w]
                                rfl
                              refine pure_ (i := 6) (N := some 56) (v := ?_) (a' := ?_) #[true, true, true, true, true, true, true, false, false, false, false, false, false, false, false, false, false, false] rfl rfl (any_of HT_.out (by kernel_rfl)) (fun _ _ _ h => h) (Or.inl ⟨by rfl, ?_⟩) ?_ ?_
                              rotate_left
                              · intro w'
                                go_simp
                                with_reducible rfl
                              rotate_left
                              · simp only [Act.put, List.setIfInBounds_toArray, List.set_cons_zero, List.set_cons_succ, i64_w, i32_w]
                                rfl
                              refine pure_ (i := 7) (N := some 57) (v := ?_) (a' := ?_) #[true, true, true, true, true, true, true, true, false, false, false, false, false, false, false, false, false, false] rfl rfl (any_of HT_.out (by kernel_rfl)) (fun _ _ _ h => h) (Or.inl ⟨by rfl, ?_⟩) ?_ ?_
                              rotate_left
                              · intro w'
                                go_simp
                                with_reducible rfl
                              rotate_left
                              · simp only [Act.put, List.setIfInBounds_toArray, List.set_cons_zero, List.set_cons_succ, i64_w, i32_w]
                                rfl
                              refine pure_ (i := 9) (N := some 59) (v := ?_) (a' := ?_) #[true, true, true, true, true, true, true, true, false, true, false, false, false, false, false, false, false, false] rfl rfl (any_of HT_.out (by kernel_rfl)) (fun _ _ _ h => h) (Or.inl ⟨by rfl, ?_⟩) ?_ ?_
                              rotate_left
                              · intro w'
                                go_simp
                                with_reducible rfl
                              rotate_left
                              · simp only [Act.put, List.setIfInBounds_toArray, List.set_cons_zero, List.set_cons_succ, i64_w, i32_w]
                                rfl
                              refine pure_ (i := 10) (N := some 60) (v := ?_) (a' := ?_) #[true, true, true, true, true, true, true, true, false, true, true, false, false, false, false, false, false, false] rfl rfl (any_of HT_.out (by kernel_rfl)) (fun _ _ _ h => h) (Or.inl ⟨by rfl, ?_⟩) ?_ ?_
                              rotate_left
                              · intro w'
                                go_simp
                                with_reducible rfl
                              rotate_left
                              · simp only [Act.put, List.setIfInBounds_toArray, List.set_cons_zero, List.set_cons_succ, i64_w, i32_w]
                                rfl
                              refine pure_ (i := 11) (N := some 61) (v := ?_) (a' := ?_) #[true, true, true, true, true, true, true, true, false, true, true, true, false, false, false, false, false, false] rfl rfl (any_of HT_.out (by kernel_rfl)) (fun _ _ _ h => h) (Or.inl ⟨by rfl, ?_⟩) ?_ ?_
                              rotate_left
                              · intro w'
                                go_simp
                                with_reducible rfl
                              rotate_left
                              · simp only [Act.put, List.setIfInBounds_toArray, List.set_cons_zero, List.set_cons_succ, i64_w, i32_w]
                                rfl
                              refine pure_ (i := 12) (N := some 62) (v := ?_) (a' := ?_) #[true, true, true, true, true, true, true, true, false, true, true, true, true, false, false, false, false, false] rfl rfl (any_of HT_.out (by kernel_rfl)) (fun _ _ _ h => h) (Or.inl ⟨by rfl, ?_⟩) ?_ ?_
                              rotate_left
                              · intro w'
                                go_simp
                                with_reducible rfl
                              rotate_left
                              · simp only [Act.put, List.setIfInBounds_toArray, List.set_cons_zero, List.set_cons_succ, i64_w, i32_w]
                                rfl
                              refine take_ (i := 8) (N := some 58) (v := ?_) (a' := ?_) #[true, true, true, true, true, true, true, true, true, true, true, true, true, false, false, false, false, false] rfl rfl (take_ofW HT_.out HW_.out (by kernel_rfl)) (fun _ _ _ h => h) (Or.inl ⟨by rfl, ?_⟩) hHeld ?_ ?_
                              rotate_left
                              · rintro w' ⟨s0, s1, s2, s3⟩
                                go_simp
                                with_reducible rfl
                              rotate_left
                              · simp only [Act.put, List.setIfInBounds_toArray, List.set_cons_zero, List.set_cons_succ, i64_w, i32_w]
                                rfl
                              refine take_ (i := 13) (N := some 63) (v := ?_) (a' := ?_) #[true, true, true, true, true, true, true, true, true, true, true, true, true, true, false, false, false, false] rfl rfl (take_ofW HT_.out HW_.out (by kernel_rfl)) (fun _ _ _ h => h) (Or.inl ⟨by rfl, ?_⟩) hHeld ?_ ?_
                              rotate_left
                              · rintro w' ⟨s0, s1, s2, s3⟩
                                go_simp
                                with_reducible rfl
                              rotate_left
                              · simp only [Act.put, List.setIfInBounds_toArray, List.set_cons_zero, List.set_cons_succ, i64_w, i32_w]
                                rfl
                              refine one_ (i := 14) (N := some 64) #[true, true, true, true, true, true, true, true, true, true, true, true, true, true, true, false, false, false] rfl rfl (one_of HT_.out (by kernel_rfl)) (by decide) (fun K hK => ?_)
                              refine goes_ Try.func37 (by kernel_rfl) rfl #[.int .i64 ((rd_T25 l0 x4_2).f0)] (by rfl) rfl rfl (by (try simp only [List.map_toArray, List.map_cons, List.map_nil]); first | done | rfl | (simp only [List.length_drop, List.length_take]; rfl)) ?_
                              with_reducible refine (slotmeshref33_Leading.calls k3 ((rd_T25 l0 x4_2).f0) t118 _ A28.out).mono ?_
                              rintro e w' ⟨rfl, ⟨nd, rfl⟩⟩
                              refine ⟨_, rfl, ?_⟩
                              refine hK.out _ _ ⟨((HB.out.cell (World.block_lt_of_cell? w _ hw116_0)).trans hw116_0), ((HB.out.cell (World.block_lt_of_cell? w _ hw116_1)).trans hw116_1), ((HB.out.cell (World.block_lt_of_cell? w _ hw117_0)).trans hw117_0), ((HB.out.cell (World.block_lt_of_cell? w _ hw117_1)).trans hw117_1)⟩ (fun hHeld => ?_)
                              clear hK K
                              refine norm_ (a' := ?_) ?_ ?_
                              rotate_left
                              · show Act.put _ (some 64) _ = _
                                simp only [Act.put, List.setIfInBounds_toArray, List.set_cons_zero, List.set_cons_succ, i64_w, i32_w]
                                rfl
                              refine pure_ (i := 15) (N := some 65) (v := ?_) (a' := ?_) #[true, true, true, true, true, true, true, true, true, true, true, true, true, true, true, true, false, false] rfl rfl (any_of HT_.out (by kernel_rfl)) (fun _ _ _ h => h) (Or.inl ⟨by rfl, ?_⟩) ?_ ?_
                              rotate_left
                              · intro w'
                                go_simp
                                with_reducible rfl
                              rotate_left
                              · simp only [Act.put, List.setIfInBounds_toArray, List.set_cons_zero, List.set_cons_succ, i64_w, i32_w]
                                rfl
                              refine pure_ (i := 16) (N := some 66) (v := ?_) (a' := ?_) #[true, true, true, true, true, true, true, true, true, true, true, true, true, true, true, true, true, false] rfl rfl (any_of HT_.out (by kernel_rfl)) (fun _ _ _ h => h) (Or.inl ⟨by rfl, ?_⟩) ?_ ?_
                              rotate_left
                              · intro w'
                                go_simp
                                with_reducible rfl
                              rotate_left
                              · simp only [Act.put, List.setIfInBounds_toArray, List.set_cons_zero, List.set_cons_succ, i64_w, i32_w]
                                rfl
                              refine pure_ (i := 17) (N := some 67) (v := ?_) (a' := ?_) #[true, true, true, true, true, true, true, true, true, true, true, true, true, true, true, true, true, true] rfl rfl (any_of HT_.out (by kernel_rfl)) (fun _ _ _ h => h) (Or.inl ⟨by rfl, ?_⟩) ?_ ?_
                              rotate_left
                              · intro w'
                                go_simp
                                with_reducible rfl
                              rotate_left
                              · simp only [Act.put, List.setIfInBounds_toArray, List.set_cons_zero, List.set_cons_succ, i64_w, i32_w]
                                rfl
                              refine done_ (done_of HT_.out (by kernel_rfl)) ?_
                              try go_wp2
                              go_roundg k3
                              case measure => have := HK1.out; have := HK2.out; have := HK3.out; omega
                              case rel => exact ⟨(wrap64 (x5_3 + 1)), (by first | rfl | (simp; done) | (simp [*]; done)), H', ⟨by have := HK1.out; have := HK2.out; have := HK3.out; omega⟩, ⟨by repeat (first | (with_reducible first | exact HB.out | apply below_alloc | apply pw_below_drewN | apply below_drew1) | exact HB.out)⟩⟩
                            · rw [if_neg c29] at H
                              have c29b0 : ((Go.bits .and .i64 ((rd_T25 l0 x5_3).f0) t118) == 0) = false := beq_eq_false_iff_ne.mpr c29
                              have c29b1 : ((Go.bits .and .i64 ((rd_T25 l0 x5_3).f0) t118) != 0) = true := bne_iff_ne.mpr c29
                              obtain rfl := Option.some.inj H
                              try go_wp2
                              have n0_ := Aside0.mk (below_drew1 HB.out)
                              clear HB
                              have HB := n0_
                              clear n0_
                              have p116 : 0 ≤ (x5_3 : Int) := of_decide_eq_true (by first | (with_reducible assumption) | assumption)
                              have q116 : x5_3 < (l0.length : Int) := of_decide_eq_true (by first | (with_reducible assumption) | assumption)
                              obtain ⟨ad116, A116_1, c116_1, e116, hx116_0, hx116_1, hl116_1, hi116_1⟩ := at_T25 HR0.out x5_3 p116 q116
                              have hw116_1 := hx116_1
                              have hw116_0 := hx116_0
                              cases e116
                              replace hx116_0 := (HB.out.cell (World.block_lt_of_cell? w _ hx116_0)).trans hx116_0
                              replace hx116_1 := (HB.out.cell (World.block_lt_of_cell? w _ hx116_1)).trans hx116_1
                              have HR116_1 := Aside0.mk hi116_1
                              have HC116_1 := Aside0.mk hl116_1
                              clear hi116_1 hl116_1
                              replace p116 := eq_true p116
                              replace q116 := eq_true q116
                              have p117 : 0 ≤ (x4_2 : Int) := of_decide_eq_true (by first | (with_reducible assumption) | assumption)
                              have q117 : x4_2 < (l0.length : Int) := of_decide_eq_true (by first | (with_reducible assumption) | assumption)
                              obtain ⟨ad117, A117_1, c117_1, e117, hx117_0, hx117_1, hl117_1, hi117_1⟩ := at_T25 HR0.out x4_2 p117 q117
                              have hw117_1 := hx117_1
                              have hw117_0 := hx117_0
                              obtain rfl : ad116 = ad117 := (by injection e117)
                              replace hx117_0 := (HB.out.cell (World.block_lt_of_cell? w _ hx117_0)).trans hx117_0
                              replace hx117_1 := (HB.out.cell (World.block_lt_of_cell? w _ hx117_1)).trans hx117_1
                              have HR117_1 := Aside0.mk hi117_1
                              have HC117_1 := Aside0.mk hl117_1
                              clear hi117_1 hl117_1
                              replace p117 := eq_true p117
                              replace q117 := eq_true q117
                              refine start_ (n := 18) (S := fun w' => w'.cell? (ad116.add ((x5_3).toNat * 2)) = some (.int .i64 ((rd_T25 l0 x5_3).f0)) ∧ w'.cell? ⟨(ad116.add ((x5_3).toNat * 2)).block, (ad116.add ((x5_3).toNat * 2)).off + 1, none⟩ = some (.slice A116_1 ((rd_T25 l0 x5_3).f1).length c116_1) ∧ w'.cell? (ad116.add ((x4_2).toNat * 2)) = some (.int .i64 ((rd_T25 l0 x4_2).f0)) ∧ w'.cell? ⟨(ad116.add ((x4_2).toNat * 2)).block, (ad116.add ((x4_2).toNat * 2)).off + 1, none⟩ = some (.slice A117_1 ((rd_T25 l0 x4_2).f1).length c117_1)) (ds := []) #[false, false, false, false, false, false, false, false, false, false, false, false, false, false, false, false, false, false] (by kernel_rfl) rfl rfl ⟨((HB.out.cell (World.block_lt_of_cell? w _ hw116_0)).trans hw116_0), ((HB.out.cell (World.block_lt_of_cell? w _ hw116_1)).trans hw116_1), ((HB.out.cell (World.block_lt_of_cell? w _ hw117_0)).trans hw117_0), ((HB.out.cell (World.block_lt_of_cell? w _ hw117_1)).trans hw117_1)⟩ (fun hHeld => ?_); refine with_tabW slotmeshref33_Valid.tab12 slotmeshref33_Valid.bits12 (fun HT_ HW_ => ?_)
                              generalize wr.drew = w31 at HB HR116_1 HR117_1 hx116_0 hx116_1 hx117_0 hx117_1 hHeld ⊢
                              refine pure_ (i := 0) (N := some 50) (v := ?_) (a' := ?_) #[true, false, false, false, false, false, false, false, false, false, false, false, false, false, false, false, false, false] rfl rfl (any_of HT_.out (by kernel_rfl)) (fun _ _ _ h => h) (Or.inl ⟨by rfl, ?_⟩) ?_ ?_
                              rotate_left
                              · intro w'
                                go_simp
                                with_reducible rfl
                              rotate_left
                              · simp only [Act.put, List.setIfInBounds_toArray, List.set_cons_zero, List.set_cons_succ, i64_w, i32_w]
                                rfl
                              refine pure_ (i := 1) (N := some 51) (v := ?_) (a' := ?_) #[true, true, false, false, false, false, false, false, false, false, false, false, false, false, false, false, false, false] rfl rfl (any_of HT_.out (by kernel_rfl)) (fun _ _ _ h => h) (Or.inl ⟨by rfl, ?_⟩) ?_ ?_
                              rotate_left
                              · intro w'
                                go_simp
                                with_reducible rfl
                              rotate_left
                              · simp only [Act.put, List.setIfInBounds_toArray, List.set_cons_zero, List.set_cons_succ, i64_w, i32_w]
                                rfl
                              refine pure_ (i := 2) (N := some 52) (v := ?_) (a' := ?_) #[true, true, true, false, false, false, false, false, false, false, false, false, false, false, false, false, false, false] rfl rfl (any_of HT_.out (by kernel_rfl)) (fun _ _ _ h => h) (Or.inl ⟨by rfl, ?_⟩) ?_ ?_
                              rotate_left
                              · intro w'
                                go_simp
                                with_reducible rfl
                              rotate_left
                              · simp only [Act.put, List.setIfInBounds_toArray, List.set_cons_zero, List.set_cons_succ, i64_w, i32_w]
                                rfl
                              refine pure_ (i := 3) (N := some 53) (v := ?_) (a' := ?_) #[true, true, true, true, false, false, false, false, false, false, false, false, false, false, false, false, false, false] rfl rfl (any_of HT_.out (by kernel_rfl)) (fun _ _ _ h => h) (Or.inl ⟨by rfl, ?_⟩) ?_ ?_
                              rotate_left
                              · intro w'
                                go_simp
                                with_reducible rfl
                              rotate_left
                              · simp only [Act.put, List.setIfInBounds_toArray, List.set_cons_zero, List.set_cons_succ, i64_w, i32_w]
                                rfl
                              refine pure_ (i := 4) (N := some 54) (v := ?_) (a' := ?_) #[true, true, true, true, true, false, false, false, false, false, false, false, false, false, false, false, false, false] rfl rfl (any_of HT_.out (by kernel_rfl)) (fun _ _ _ h => h) (Or.inl ⟨by rfl, ?_⟩) ?_ ?_
                              rotate_left
                              · intro w'
                                go_simp
                                with_reducible rfl
                              rotate_left
                              · simp only [Act.put, List.setIfInBounds_toArray, List.set_cons_zero, List.set_cons_succ, i64_w, i32_w]
                                rfl
                              refine pure_ (i := 5) (N := some 55) (v := ?_) (a' := ?_) #[true, true, true, true, true, true, false, false, false, false, false, false, false, false, false, false, false, false] rfl rfl (any_of HT_.out (by kernel_rfl)) (fun _ _ _ h => h) (Or.inl ⟨by rfl, ?_⟩) ?_ ?_
                              rotate_left
                              · intro w'
                                go_simp
                                with_reducible rfl
                              rotate_left
                              · simp only [Act.put, List.setIfInBounds_toArray, List.set_cons_zero, List.set_cons_succ, i64_w, i32_w]
                                rfl
                              refine pure_ (i := 6) (N := some 56) (v := ?_) (a' := ?_) #[true, true, true, true, true, true, true, false, false, false, false, false, false, false, false, false, false, false] rfl rfl (any_of HT_.out (by kernel_rfl)) (fun _ _ _ h => h) (Or.inl ⟨by rfl, ?_⟩) ?_ ?_
                              rotate_left
                              · intro w'
                                go_simp
                                with_reducible rfl
                              rotate_left
                              · simp only [Act.put, List.setIfInBounds_toArray, List.set_cons_zero, List.set_cons_succ, i64_w, i32_w]
                                rfl
                              refine pure_ (i := 7) (N := some 57) (v := ?_) (a' := ?_) #[true, true, true, true, true, true, true, true, false, false, false, false, false, false, false, false, false, false] rfl rfl (any_of HT_.out (by kernel_rfl)) (fun _ _ _ h => h) (Or.inl ⟨by rfl, ?_⟩) ?_ ?_
                              rotate_left
                              · intro w'
                                go_simp
                                with_reducible rfl
                              rotate_left
                              · simp only [Act.put, List.setIfInBounds_toArray, List.set_cons_zero, List.set_cons_succ, i64_w, i32_w]
                                rfl
                              refine pure_ (i := 9) (N := some 59) (v := ?_) (a' := ?_) #[true, true, true, true, true, true, true, true, false, true, false, false, false, false, false, false, false, false] rfl rfl (any_of HT_.out (by kernel_rfl)) (fun _ _ _ h => h) (Or.inl ⟨by rfl, ?_⟩) ?_ ?_
                              rotate_left
                              · intro w'
                                go_simp
                                with_reducible rfl
                              rotate_left
                              · simp only [Act.put, List.setIfInBounds_toArray, List.set_cons_zero, List.set_cons_succ, i64_w, i32_w]
                                rfl
                              refine pure_ (i := 10) (N := some 60) (v := ?_) (a' := ?_) #[true, true, true, true, true, true, true, true, false, true, true, false, false, false, false, false, false, false] rfl rfl (any_of HT_.out (by kernel_rfl)) (fun _ _ _ h => h) (Or.inl ⟨by rfl, ?_⟩) ?_ ?_
                              rotate_left
                              · intro w'
                                go_simp
                                with_reducible rfl
                              rotate_left
                              · simp only [Act.put, List.setIfInBounds_toArray, List.set_cons_zero, List.set_cons_succ, i64_w, i32_w]
                                rfl
                              refine pure_ (i := 11) (N := some 61) (v := ?_) (a' := ?_) #[true, true, true, true, true, true, true, true, false, true, true, true, false, false, false, false, false, false] rfl rfl (any_of HT_.out (by kernel_rfl)) (fun _ _ _ h => h) (Or.inl ⟨by rfl, ?_⟩) ?_ ?_
                              rotate_left
                              · intro w'
                                go_simp
                                with_reducible rfl
                              rotate_left
                              · simp only [Act.put, List.setIfInBounds_toArray, List.set_cons_zero, List.set_cons_succ, i64_w, i32_w]
                                rfl
                              refine pure_ (i := 12) (N := some 62) (v := ?_) (a' := ?_) #[true, true, true, true, true, true, true, true, false, true, true, true, true, false, false, false, false, false] rfl rfl (any_of HT_.out (by kernel_rfl)) (fun _ _ _ h => h) (Or.inl ⟨by rfl, ?_⟩) ?_ ?_
                              rotate_left
                              · intro w'
                                go_simp
                                with_reducible rfl
                              rotate_left
                              · simp only [Act.put, List.setIfInBounds_toArray, List.set_cons_zero, List.set_cons_succ, i64_w, i32_w]
                                rfl
                              refine take_ (i := 8) (N := some 58) (v := ?_) (a' := ?_) #[true, true, true, true, true, true, true, true, true, true, true, true, true, false, false, false, false, false] rfl rfl (take_ofW HT_.out HW_.out (by kernel_rfl)) (fun _ _ _ h => h) (Or.inl ⟨by rfl, ?_⟩) hHeld ?_ ?_
                              rotate_left
                              · rintro w' ⟨s0, s1, s2, s3⟩
                                go_simp
                                with_reducible rfl
                              rotate_left
                              · simp only [Act.put, List.setIfInBounds_toArray, List.set_cons_zero, List.set_cons_succ, i64_w, i32_w]
                                rfl
                              refine take_ (i := 13) (N := some 63) (v := ?_) (a' := ?_) #[true, true, true, true, true, true, true, true, true, true, true, true, true, true, false, false, false, false] rfl rfl (take_ofW HT_.out HW_.out (by kernel_rfl)) (fun _ _ _ h => h) (Or.inl ⟨by rfl, ?_⟩) hHeld ?_ ?_
                              rotate_left
                              · rintro w' ⟨s0, s1, s2, s3⟩
                                go_simp
                                with_reducible rfl
                              rotate_left
                              · simp only [Act.put, List.setIfInBounds_toArray, List.set_cons_zero, List.set_cons_succ, i64_w, i32_w]
                                rfl
                              refine one_ (i := 14) (N := some 64) #[true, true, true, true, true, true, true, true, true, true, true, true, true, true, true, false, false, false] rfl rfl (one_of HT_.out (by kernel_rfl)) (by decide) (fun K hK => ?_)
                              refine goes_ Try.func37 (by kernel_rfl) rfl #[.int .i64 ((rd_T25 l0 x4_2).f0)] (by rfl) rfl rfl (by (try simp only [List.map_toArray, List.map_cons, List.map_nil]); first | done | rfl | (simp only [List.length_drop, List.length_take]; rfl)) ?_
                              with_reducible refine (slotmeshref33_Leading.calls k3 ((rd_T25 l0 x4_2).f0) t118 _ A28.out).mono ?_
                              rintro e w' ⟨rfl, ⟨nd, rfl⟩⟩
                              refine ⟨_, rfl, ?_⟩
                              refine hK.out _ _ ⟨((HB.out.cell (World.block_lt_of_cell? w _ hw116_0)).trans hw116_0), ((HB.out.cell (World.block_lt_of_cell? w _ hw116_1)).trans hw116_1), ((HB.out.cell (World.block_lt_of_cell? w _ hw117_0)).trans hw117_0), ((HB.out.cell (World.block_lt_of_cell? w _ hw117_1)).trans hw117_1)⟩ (fun hHeld => ?_)
                              clear hK K
                              refine norm_ (a' := ?_) ?_ ?_
                              rotate_left
                              · show Act.put _ (some 64) _ = _
                                simp only [Act.put, List.setIfInBounds_toArray, List.set_cons_zero, List.set_cons_succ, i64_w, i32_w]
                                rfl
                              refine pure_ (i := 15) (N := some 65) (v := ?_) (a' := ?_) #[true, true, true, true, true, true, true, true, true, true, true, true, true, true, true, true, false, false] rfl rfl (any_of HT_.out (by kernel_rfl)) (fun _ _ _ h => h) (Or.inl ⟨by rfl, ?_⟩) ?_ ?_
                              rotate_left
                              · intro w'
                                go_simp
                                with_reducible rfl
                              rotate_left
                              · simp only [Act.put, List.setIfInBounds_toArray, List.set_cons_zero, List.set_cons_succ, i64_w, i32_w]
                                rfl
                              refine pure_ (i := 16) (N := some 66) (v := ?_) (a' := ?_) #[true, true, true, true, true, true, true, true, true, true, true, true, true, true, true, true, true, false] rfl rfl (any_of HT_.out (by kernel_rfl)) (fun _ _ _ h => h) (Or.inl ⟨by rfl, ?_⟩) ?_ ?_
                              rotate_left
                              · intro w'
                                go_simp
                                with_reducible rfl
                              rotate_left
                              · simp only [Act.put, List.setIfInBounds_toArray, List.set_cons_zero, List.set_cons_succ, i64_w, i32_w]
                                rfl
                              refine pure_ (i := 17) (N := some 67) (v := ?_) (a' := ?_) #[true, true, true, true, true, true, true, true, true, true, true, true, true, true, true, true, true, true] rfl rfl (any_of HT_.out (by kernel_rfl)) (fun _ _ _ h => h) (Or.inl ⟨by rfl, ?_⟩) ?_ ?_
                              rotate_left
                              · intro w'
                                go_simp
                                with_reducible rfl
                              rotate_left
                              · simp only [Act.put, List.setIfInBounds_toArray, List.set_cons_zero, List.set_cons_succ, i64_w, i32_w]
                                rfl
                              refine done_ (done_of HT_.out (by kernel_rfl)) ?_
                              try go_wp2
                              go_ret
                              exact ⟨by first | rfl | (simp [errW_none, errW_some] <;> rfl) | (simp [*, errW_none, errW_some] <;> rfl), by repeat (first | (with_reducible first | exact HB.out | apply below_alloc | apply pw_below_drewN | apply below_drew1) | exact HB.out)⟩
                          · rw [if_neg c27] at H
                            exact absurd H (by simp)
                        · rw [if_neg c26] at H
                          exact absurd H (by simp)
                      · rw [if_neg c25] at H
                        exact absurd H (by simp)
                  · rw [if_neg c22] at H
                    have c22b0 : decide (x5_3 < (l0.length : Int)) = false := decide_eq_false c22
                    clear c22
                    have H' := Aside0.mk H
                    clear H
                    go_wp2
                    go_roundg k3
                    case measure => have := HK1.out; have := HK2.out; have := HK3.out; omega
                    case rel => exact ⟨(wrap64 (x4_2 + 1)), (by first | rfl | (simp; done) | (simp [*]; done)), H', ⟨by have := HK1.out; have := HK2.out; have := HK3.out; omega⟩, ⟨by repeat (first | (with_reducible first | exact HB.out | apply below_alloc | apply pw_below_drewN | apply below_drew1) | exact HB.out)⟩⟩
            · rw [if_neg c21] at H
              have c21b0 : decide (x4_2 < (l0.length : Int)) = false := decide_eq_false c21
              clear c21
              obtain rfl := Option.some.inj H
              go_wp2
              go_ret
              exact ⟨by first | rfl | (simp [errW_none, errW_some] <;> rfl) | (simp [*, errW_none, errW_some] <;> rfl), by repeat (first | (with_reducible first | exact HB.out | apply below_alloc | apply pw_below_drewN | apply below_drew1) | exact HB.out)⟩
end Go.Proofs.Ytknlbeojdmeljaa.P
