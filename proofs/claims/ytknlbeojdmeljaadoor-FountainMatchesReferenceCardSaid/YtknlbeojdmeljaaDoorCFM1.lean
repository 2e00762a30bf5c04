-- cut by shake.py (own program) out of this session's texts
import Derived.Test.YtknlbeojdmeljaaDoorCFM0
namespace Go.Proofs.YtknlbeojdmeljaaDoor.H
open Go.RowKit Go.Proofs.YtknlbeojdmeljaaDoorW.PrintWords Go.Proofs.YtknlbeojdmeljaaDoorW.PrintLast Go.Proofs.YtknlbeojdmeljaaDoorW.PrintMore Go.Proofs.YtknlbeojdmeljaaDoor.P
set_option linter.unusedVariables false
set_option linter.unusedSimpArgs false
def mixE (e : Nat × List Int) (r : S25) : S25 := if r.f0.toNat &&& lead e.1 ≠ 0 then ⟨((r.f0.toNat ^^^ e.1 : Nat) : Int), xorD r.f1 e.2⟩ else r
def rowE (e : Nat × List Int) : S25 := ⟨(e.1 : Int), e.2⟩
def insStep (e : Nat × List Int) (s : List S25 × Bool) (r : S25) : List S25 × Bool :=
  if s.2 = false ∧ lead r.f0.toNat < lead e.1 then (s.1 ++ [rowE e, mixE e r], true) else (s.1 ++ [mixE e r], s.2)
def insL (e : Nat × List Int) (l : List S25) : List S25 × Bool := l.foldl (insStep e) ([], false)
def insS (e : Nat × List Int) (l : List S25) : List S25 := if (insL e l).2 = true then (insL e l).1 else (insL e l).1 ++ [rowE e]
def addS (l : List S25) (m : Int) (d : List Int) : List S25 × Bool × Int :=
  if validS l = false ∨ fineB m d = false then ([], false, 1)
  else if redS l (m.toNat, d) = (0, z16) then (l, false, 0)
  else if (redS l (m.toNat, d)).1 = 0 then ([], false, 12)
  else (insS (redS l (m.toNat, d)) l, true, 0)
theorem all_range_int : ∀ (xs ys : List Int), xs.length = ys.length → ((List.range xs.length).all fun i => xs.getD i 0 == ys.getD i 0) = (xs == ys)
  | [], [], _ => rfl
  | x :: xs, y :: ys, h => by
    have ih := all_range_int xs ys (by simpa using h)
    rw [List.length_cons, List.range_succ_eq_map, List.all_cons, List.all_map]
    simp only [List.getD_cons_zero, Function.comp_def, List.getD_cons_succ, ih]
    simp [List.cons_beq_cons]
  | [], _ :: _, h => by simp at h
  | _ :: _, [], h => by simp at h
theorem equalIn_bys {P : Program} (w : World) (d : Nat) (t e : TypeId) (n : Nat) (ht : P.underlying t = some (.array n e)) (he : P.underlying e = some (.int .u8)) (hsz : ∀ w, (sizeOf e).run P w = .ok 1 w)
    (xs ys : List Int) (hx : xs.length = n) (hy : ys.length = n) :
    (Op.equalIn (d + 2) t (.agg (bys xs).toArray) (.agg (bys ys).toArray)).run P w = .ok (xs == ys) w := by
  rw [← all_range_int xs ys (hx.trans hy.symm), hx, List.range_eq_range', Op.equalIn]
  simp only [Sem.run_bind, run_underlying ht, Result.andThen_ok, hsz, Std.Legacy.Range.forIn_eq_forIn_range', Std.Legacy.Range.size, Nat.sub_zero, Nat.add_sub_cancel, Nat.div_one]
  have hl : ∀ i ∈ List.range' 0 n 1, i < n := fun i hi => by simpa using (List.mem_range'_1.1 hi).2
  generalize List.range' 0 n 1 = l at hl ⊢
  induction l with
  | nil => simp
  | cons i l ih =>
    have hi : i < n := hl i (by simp)
    have px : (part e (bys xs).toArray (i * 1)).run P w = .ok (.int .u8 (xs.getD i 0)) w := by
      simp [bys, part, isAgg, run_underlying he, List.getD, List.getElem?_eq_getElem (show i < xs.length by omega)]
    have py : (part e (bys ys).toArray (i * 1)).run P w = .ok (.int .u8 (ys.getD i 0)) w := by
      simp [bys, part, isAgg, run_underlying he, List.getD, List.getElem?_eq_getElem (show i < ys.length by omega)]
    have pe : (Op.equalIn (d + 1) e (.int .u8 (xs.getD i 0)) (.int .u8 (ys.getD i 0))).run P w = .ok (xs.getD i 0 == ys.getD i 0) w := by
      rw [run_equalIn_int w d e .u8 .u8 _ _ he]
    simp only [List.forIn_cons, Sem.run_bind, px, py, pe, Result.andThen_ok, List.all_cons]
    cases hb : (xs.getD i 0 == ys.getD i 0)
    · simp
    · simp only [Bool.not_true, Bool.false_eq_true, if_false, Sem.run_pure, Result.andThen_ok, Bool.true_and]
      exact ih fun j hj => hl j (by simp [hj])
theorem part53 (m a0 a1 a2 a3 a4 a5 a6 a7 a8 a9 a10 a11 a12 a13 a14 a15 : Int) (w : World) : (part 74 #[.int .i64 m, .int .u8 a0, .int .u8 a1, .int .u8 a2, .int .u8 a3, .int .u8 a4, .int .u8 a5, .int .u8 a6, .int .u8 a7, .int .u8 a8, .int .u8 a9, .int .u8 a10, .int .u8 a11, .int .u8 a12, .int .u8 a13, .int .u8 a14, .int .u8 a15] 1).run Tryd.prog w = .ok (.agg #[.int .u8 a0, .int .u8 a1, .int .u8 a2, .int .u8 a3, .int .u8 a4, .int .u8 a5, .int .u8 a6, .int .u8 a7, .int .u8 a8, .int .u8 a9, .int .u8 a10, .int .u8 a11, .int .u8 a12, .int .u8 a13, .int .u8 a14, .int .u8 a15]) w := by
  kernel_rfl
theorem part53b (m : Int) (d : List Int) (hd : d.length = 16) (w : World) : (part 74 (.int .i64 m :: bys d).toArray 1).run Tryd.prog w = .ok (.agg (bys d).toArray) w := by
  match d, hd with
  | [a0, a1, a2, a3, a4, a5, a6, a7, a8, a9, a10, a11, a12, a13, a14, a15], _ => exact part53 m a0 a1 a2 a3 a4 a5 a6 a7 a8 a9 a10 a11 a12 a13 a14 a15 w
theorem part53a (m : Int) (d : List Int) (w : World) : (part 3 (.int .i64 m :: bys d).toArray 0).run Tryd.prog w = .ok (.int .i64 m) w := by
  simp [part, isAgg, run_underlying Tryd.underlying3]
theorem size5 (w : World) : (sizeOf 5).run Tryd.prog w = .ok 1 w := by kernel_rfl
theorem eq53 (m : Int) (d : List Int) (hd : d.length = 16) (w : World) : (Go.binOp .eql 76 (.agg (.int .i64 m :: bys d).toArray) (.agg (.int .i64 0 :: bys z16).toArray)).run Tryd.prog w = .ok (.bool (m == 0 && d == z16)) w := by
  rw [run_eql_struct, eqA_of (d := 9999) Tryd.underlying76 (by kernel_rfl) (eqf_cons rfl (part53a m d w) (part53a 0 z16 w) (run_equalIn_int w 9998 3 .i64 .i64 _ _ Tryd.underlying3) (eqf_last rfl (part53b m d hd w) (part53b 0 z16 rfl w) (equalIn_bys w 9997 74 5 16 Tryd.underlying74 Tryd.underlying5 size5 d z16 hd rfl)))]
  rfl
def OutC (base g : Nat) (xs : List S25) (W : World) : Prop := ∃ v, Boxed W g 23 v ∧ Kd.S k25 52 W base (fun _ => True) v xs
theorem S_keepc {A B : World} {row : Option Nat} {base : Nat} {v : Value} {xs : List S25} (h : Kd.S k25 52 A base (fun _ => True) v xs) (hg : A.grownBy B row)
    (hr : ∀ r, row = some r → ∃ o : Obj, A.heap[r]? = some o ∧ o.isCells = false) : Kd.S k25 52 B base (fun _ => True) v xs :=
  Kd.S_mono (Kd.S_grown (Kd.S_bound h) hg (fun k hk e => by
    obtain ⟨o, ho, hc⟩ := hr k e.symm
    obtain ⟨_, _, _, q, _, cells, hcell⟩ := hk
    rw [hcell] at ho
    cases ho
    cases hc)) (fun _ _ => trivial)
theorem outC_round {A B : World} {row : Option Nat} {base g b : Nat} {xs : List S25} (h : OutC base g xs A) (hg : A.grownBy B row)
    (hr : ∀ r, row = some r → b ≤ r ∧ ∃ o : Obj, A.heap[r]? = some o ∧ o.isCells = false) : OutC base g xs B := by
  obtain ⟨v, h1, h2⟩ := h
  exact ⟨v, boxed_keep h1 hg hr, S_keepc h2 hg (fun r e => (hr r e).2)⟩
theorem outC_below {A B : World} {base g : Nat} {xs : List S25} (h : OutC base g xs A) (hb : Below A.heap.size A B) : OutC base g xs B := by
  obtain ⟨v, h1, h2⟩ := h
  exact ⟨v, boxed_block h1 hb, Kd.S_below h2 hb⟩
theorem E25 (q : Nat) (h : q ∈ 52 :: k25.E) : q = 52 ∨ q = 5 := by
  have : k25.E = [5] := rfl
  rw [this] at h
  simpa using h
/-- one block, of no type of the rows, was written -/
theorem outC_write {A B : World} {base g b t : Nat} {cells : Array Value} {xs : List S25} (h : OutC base g xs A) (hb : A.heap[b]? = some (.cells cells t (0, 0))) (h25 : t ≠ 52) (h5 : t ≠ 5) (hgb : g ≠ b)
    (hk : ∀ k, k ≠ b → B.heap[k]? = A.heap[k]?) : OutC base g xs B := by
  obtain ⟨v, h1, h2⟩ := h
  refine ⟨v, (hk g hgb).trans h1, Kd.S_mono (Kd.S_step (Kd.S_types h2 hb (fun q hq e => ?_)) (fun k hk' _ => hk k hk'.2)) (fun _ _ => trivial)⟩
  rcases E25 q hq with rfl | rfl
  · exact h25 e.symm
  · exact h5 e.symm
theorem S_own {A : World} {base g : Nat} {v u : Value} {xs : List S25} (h : Kd.S k25 52 A base (fun _ => True) v xs) (hb : Boxed A g 23 u) (z : Value) : Kd.S k25 52 (A.setCell ⟨g, 0, none⟩ z) base (fun _ => True) v xs :=
  Kd.S_set h hb (fun q hq e => by rcases E25 q hq with rfl | rfl <;> cases e) 0 z
section
variable {P : Program} {ops : Array Oper} {o : Oper} {a : Act} {Q : Exit → Act → World → Prop} {Kc : Act → World → Prop}
theorem app_step (hw : Region.wanted o (yielded ops a.tmps) = true) (s x : Operand) (ho : o.op = .call { callee := .builtin .append, args := #[s, x], argTypes := #[23, 23] })
    (w0 W : World) (base : Nat) (v : Value) (xs : List S25) (m : Int) (d : List Int) (gr : Nat) (hs : a.eval s = v) (hx : a.eval x = .slice (some ⟨W.heap.size, 0, none⟩) 1 1)
    (HS : Kd.S k25 52 W base (fun k => k ≠ gr) v xs) (hgr : W.heap[gr]? = some (.cells (bys d).toArray 5 (0, 0))) (hb : base ≤ gr) (hd : d.length = 16) (HB : Below base w0 W) (hbase : base ≤ W.heap.size) (hl : xs.length ≤ 2147483648)
    (h : ∀ (v1 : Value) (w1 : World), Kd.S k25 52 w1 base (fun _ => True) v1 (xs ++ [⟨m, d⟩]) → Below base w0 w1 → W.heap.size ≤ w1.heap.size → (∀ (k : Nat) (ob : Obj), W.heap[k]? = some ob → (∀ cs, ob ≠ Obj.cells cs 52 (0, 0)) → w1.heap[k]? = some ob) → Kc (a.put o.dst v1) w1) :
    if Region.wanted o (yielded ops a.tmps) = true then Oper.wp Tryd.prog o a (W.alloc (.cells #[.int .i64 m, .slice (some ⟨gr, 0, none⟩) 16 16] 52)) Kc Q else Kc (a.put o.dst undef) (W.alloc (.cells #[.int .i64 m, .slice (some ⟨gr, 0, none⟩) 16 16] 52)) := by
  refine Kd.S_append_step (w0 := w0) k25 base hw s x 23 52 (.agg #[(.int .i64 0), (.slice none 0 0)]) 32 ho Tryd.underlying23 info25 rfl (by decide) (by decide) v xs ⟨m, d⟩ [.int .i64 m, .slice (some ⟨gr, 0, none⟩) 16 16] (fun _ => True) (fun k => k = gr) hs hx ?_ ?_ (fun _ _ => trivial) ?_ HB hbase (by omega) ?_
  · exact k25_mkM W base _ ⟨m, d⟩ (row_R base _ hd hb rfl hgr)
  · rintro k rfl
    exact ⟨trivial, fun e => (Kd.S_R HS).1 k e.symm rfl⟩
  · exact Kd.S_mono HS (fun k hk => ⟨trivial, hk⟩)
  · intro v1 w1 h1 h2 h3 h4
    refine h v1 w1 h1 h2 h3.size (fun k ob hk hn => ?_)
    have hlt := (Array.getElem?_eq_some_iff.1 hk).1
    rw [h3.block k hlt (fun e => ?_)]
    · exact hk
    · obtain ⟨cells, hc⟩ := Kd.S_typed HS k e.symm
      rw [hk] at hc
      cases hc
      exact hn _ rfl
theorem run_bs (m : Int) (gr : Nat) (w : World) : (Instr.buildSlice 23 1 #[(0, .agg #[.int .i64 m, .slice (some ⟨gr, 0, none⟩) 16 16])]).run Tryd.prog w = .ok (.slice (some ⟨w.heap.size, 0, none⟩) 1 1) (w.alloc (.cells #[.int .i64 m, .slice (some ⟨gr, 0, none⟩) 16 16] 52)) := by
  kernel_rfl
theorem exec_bs {t : TypeId} {n : Nat} {parts : Array (Nat × Operand)} {vs : Array (Nat × Value)} {v : Value} {w w1 : World} (ho : o.op = .buildSlice t n parts) (hp : parts.map (fun p => (p.1, a.eval p.2)) = vs)
    (hrun : (Instr.buildSlice t n vs).run P w = .ok v w1) : (execOp a.eval o).run P w = .ok (.value v) w1 := by
  subst hp
  unfold execOp
  simp only [ho, Sem.run_bind]
  have : (Instr.buildSlice t n (parts.map fun x => match x with | (i, x) => (i, a.eval x))).run P w = .ok v w1 := hrun
  rw [this]
  rfl
theorem run_st22 (g : Nat) (v : Value) (W : World) (A : Option Addr) (n c : Nat) (hb : Boxed W g 23 v) : (Instr.storeAt 23 (.pointer (some ⟨g, 0, none⟩)) (.slice A n c)).run Tryd.prog W = .ok () (W.setCell ⟨g, 0, none⟩ (.slice A n c)) := by
  have h1 := hb.cell
  have h2 := hb.frozen
  have hu := Tryd.underlying23
  simp [go_sem, h1, h2, hu]
theorem run_st4 (g : Nat) (v : Value) (W : World) (b : Bool) (hb : Boxed W g 4 v) : (Instr.storeAt 4 (.pointer (some ⟨g, 0, none⟩)) (.bool b)).run Tryd.prog W = .ok () (W.setCell ⟨g, 0, none⟩ (.bool b)) := by
  have h1 := hb.cell
  have h2 := hb.frozen
  have hu := Tryd.underlying4
  simp [go_sem, h1, h2, hu]
theorem store_step {W w1 : World} {ty : TypeId} {x y : Operand} {u v : Value} (hw : Region.wanted o (yielded ops a.tmps) = true) (hN : o.dst = none) (ho : o.op = .store ty x y) (hx : a.eval x = u) (hy : a.eval y = v)
    (hrun : (Instr.storeAt ty u v).run P W = .ok () w1) (h : Kc a w1) : if Region.wanted o (yielded ops a.tmps) = true then Oper.wp P o a W Kc Q else Kc (a.put o.dst undef) W := by
  subst hx
  subst hy
  have hr : (execOp a.eval o).run P W = .ok .skip w1 := by
    unfold execOp
    simp only [ho, Sem.run_bind]
    rw [hrun]
    rfl
  rw [if_pos hw]
  unfold Oper.wp
  rw [hr]
  show Kc (a.put o.dst undef) w1
  rw [hN]
  exact h
end
end Go.Proofs.YtknlbeojdmeljaaDoor.H
namespace Go.Proofs.YtknlbeojdmeljaaDoor.H
open Go.RowKit Go.Proofs.YtknlbeojdmeljaaDoorW.PrintWords Go.Proofs.YtknlbeojdmeljaaDoorW.PrintLast Go.Proofs.YtknlbeojdmeljaaDoorW.PrintMore Go.Proofs.YtknlbeojdmeljaaDoor.P
set_option linter.unusedVariables false
set_option linter.unusedSimpArgs false
theorem keeps_app {w w1 : World} (h3 : w.heap.size ≤ w1.heap.size) (h4 : ∀ (k : Nat) (ob : Obj), w.heap[k]? = some ob → (∀ cs, ob ≠ Obj.cells cs 52 (0, 0)) → w1.heap[k]? = some ob) (B : Nat) : KeepsFrom B w w1 :=
  ⟨h3, fun k o _ ho hc => h4 k o ho (by rintro cs rfl; cases hc)⟩
theorem rowE_m (x : FRow) : (⟨(x.m : Int), x.1.f1⟩ : S25) = x.1 := by
  obtain ⟨⟨a, b⟩, h⟩ := x
  have := FRow.m_eq ⟨⟨a, b⟩, h⟩
  simp only at this
  rw [← this]
theorem insL_len (e : Nat × List Int) (p : List S25) : (insL e p).1.length ≤ 2 * p.length := by
  have key : ∀ (q : List S25) (s : List S25 × Bool), (q.foldl (insStep e) s).1.length ≤ s.1.length + 2 * q.length := by
    intro q
    induction q with
    | nil => intro s; simp
    | cons r q ih =>
      intro s
      have h1 : (insStep e s r).1.length ≤ s.1.length + 2 := by
        unfold insStep
        split <;> simp
      have h2 := ih (insStep e s r)
      simp only [List.foldl_cons, List.length_cons]
      omega
  have := key p ([], false)
  simpa [insL] using this
theorem add_fin {w U : World} {D : Nat} {v : Value} {xs : List S25} (hS : Kd.S k25 52 U w.heap.size (fun _ => True) v xs) (hK : U.heap[D]? = some (.deferred (some []))) (hD : w.heap.size ≤ D) (hB : Below w.heap.size w U) :
    ∃ u, Ending.returned (.tuple #[v, .bool (xs, true, (0 : Int)).2.1, .int .i64 (xs, true, (0 : Int)).2.2]) = .returned (.tuple #[u, .bool (xs, true, (0 : Int)).2.1, .int .i64 (xs, true, (0 : Int)).2.2]) ∧ Kd.S k25 52 (U.putObj D (.deferred none)) w.heap.size (fun _ => True) u (xs, true, (0 : Int)).1 ∧ Below w.heap.size w (U.putObj D (.deferred none)) := by
  refine ⟨_, rfl, Kd.S_mono (Kd.S_step (Kd.S_bound hS) (fun k hk _ => World.putObj_heap_other (fun e => ?_))) (fun _ _ => trivial), hB.trans (belowK_b (w := w) (Nat.le_refl _) U D _ (.deferred none) hD hK rfl rfl)⟩
  obtain ⟨_, _, _, q, _, cells, hc⟩ := hk
  subst e
  rw [hc] at hK
  cases hK
theorem eqg53 (x y : Operand) (xs ys : Array Value) (w : World) : (eqGuard .eql 76 x y (.agg xs) (.agg ys)).run Tryd.prog w = .ok () w := by
  kernel_rfl
theorem exec_eql53 {a : Act} {o : Oper} {x y : Operand} {s : TypeId} {m : Int} {d : List Int} {w : World} (ho : o.op = .binOp .eql 76 x y s) (hx : a.eval x = .agg (.int .i64 m :: bys d).toArray) (hy : a.eval y = .agg (.int .i64 0 :: bys z16).toArray) (hd : d.length = 16) {b : Bool} (hb : (m == 0 && d == z16) = b) :
    (execOp a.eval o).run Tryd.prog w = .ok (.value (.bool b)) w := by
  subst hb
  unfold execOp
  simp only [ho, Sem.run_bind]
  rw [hx, hy, eqg53]
  simp only [Result.andThen]
  rw [eq53 m d hd w]
  rfl
set_option maxRecDepth 100000 in
set_option maxHeartbeats 1000000 in
theorem add_calls (A : Option Addr) (cap : Nat) (zs : List S25) (m : Int) (A1 : Option Addr) (c1 : Nat) (ds : List Int) (w : World) (hr : Kd.C k25 w A zs.length zs) (hx : Kd.C (Kd.int .u8) w A1 ds.length ds) (hlen : zs.length ≤ 1000000) :
    Calls Tryd.prog 34 #[.slice A zs.length cap, .agg #[.int .i64 m, .slice A1 ds.length c1]] w fun e w' => ∃ v, e = .returned (.tuple #[v, .bool (addS zs m ds).2.1, .int .i64 (addS zs m ds).2.2]) ∧ Kd.S k25 52 w' w.heap.size (fun _ => True) v (addS zs m ds).1 ∧ Below w.heap.size w w' := by
  have out : ∀ (w' : World), Below w.heap.size w w' → (validS zs = false ∨ fineB m ds = false) → ∃ v, Ending.returned (.tuple #[.slice none 0 0, .bool false, .int .i64 1]) = .returned (.tuple #[v, .bool (addS zs m ds).2.1, .int .i64 (addS zs m ds).2.2]) ∧ Kd.S k25 52 w' w.heap.size (fun _ => True) v (addS zs m ds).1 ∧ Below w.heap.size w w' := by
    intro w' hb h
    have : addS zs m ds = ([], false, 1) := if_pos h
    rw [this]
    exact ⟨_, rfl, Kd.S_nil _ _ _ _ _, hb⟩
  have OUT := Lib.hid out
  have hba : ∀ o : Obj, Below w.heap.size w (w.alloc o) := fun o => (Below.refl _ _).alloc (Nat.le_refl _) _
  have HBA := Lib.hid hba
  have hl17 : (Value.int .i64 m :: bys (pad16 ds)).length = 17 := by rw [List.length_cons, bys_len, pad16_len]
  have HL := Lib.hid hl17
  have hone := eq_one m (pad16 ds)
  have HX := Lib.hid hx
  have HR := Lib.hid hr
  clear out hba hl17 hx hr
  refine (callsIn_wide (n := 3)).1 (callsIn_of_wp_marks Tryd.func34 rfl trivial (wpIn_wide.2 ?_) rfl)
  simp only [Tryd.ntmps34, List.size_toArray, List.length_cons, List.length_nil, Nat.reduceAdd, Nat.reduceSub, Array.replicate_succ, Array.replicate_zero, List.push_toArray, List.append_toArray, List.nil_append, List.cons_append]
  have hu25 := Tryd.underlying52
  by_cases hbad : validS zs = false ∨ fineB m ds = false
  · have HBAD := Lib.hid hbad
    have hcond : (!(validS zs) || !(fineB m ds)) = true := by rcases hbad with h | h <;> simp [h]
    cases hv : validS zs <;> cases hf : fineB m ds <;> simp only [hv, hf] at hcond
    all_goals clear hbad
    rotate_right
    · cases hcond
    all_goals
      go_wp2_with (first
        | (go_at_call 45; refine (formed_calls m A1 c1 ds _ (Kd.C_below HX.out (HBA.out _))).mono ?_; rintro e w1 ⟨rfl, hb1⟩; have HB1 := Lib.hid hb1; clear hb1)
        | (refine wpList_store_row rfl 76 _ _ rfl _ (.int .i64 m :: bys (pad16 ds)) _ 76 rfl rfl (blk_new rfl) (by rw [HL.out]; rfl) (by rw [HL.out]; exact size53) hone ?_; intro w2 g1 g2 g3 g4; have hb2 := (HBA.out (.cells #[.int .i64 m, .slice A1 ds.length c1] 52)).trans (HB1.out.mono (HBA.out _).size); have HB2 := Lib.hid (g4 _ _ hb2.size (hb2.alloc hb2.size _)); clear g1 g2 g3 g4 hb2)
        | (go_at_call 46; refine (valid_calls A cap zs _ (Kd.C_below HR.out HB2.out)).mono ?_; rintro e w3 ⟨rfl, hb3⟩; have HB3 := Lib.hid hb3; clear hb3; rw [hv]))
      exact ⟨.tuple #[.slice none 0 0, .bool false, .int .i64 1], by simp [results, Tryd.results34, go_sem], OUT.out _ (HB2.out.trans (HB3.out.mono HB2.out.size)) HBAD.out⟩
  have hv : validS zs = true := by
    cases h : validS zs
    · exact absurd (.inl h) hbad
    · rfl
  have hf : fineB m ds = true := by
    cases h : fineB m ds
    · exact absurd (.inr h) hbad
    · rfl
  have hsp := FRow.spec ⟨⟨m, ds⟩, hf⟩
  simp only at hsp
  obtain ⟨mn, hmn⟩ := Int.eq_ofNat_of_zero_le (show 0 ≤ m by omega)
  subst hmn
  have hmn16 : mn < 65536 := by omega
  have hd16 := hsp.2.2
  rw [pad16_of _ hd16] at hone HL
  have hok := redS_ok hv (mn, ds) ⟨hmn16, hd16⟩
  have hs : addS zs (mn : Int) ds = if redS zs (mn, ds) = (0, z16) then (zs, false, 0) else if (redS zs (mn, ds)).1 = 0 then ([], false, 12) else (insS (redS zs (mn, ds)) zs, true, 0) := by
    unfold addS; rw [if_neg hbad]; rfl
  have hred := fun w' (h : Below w.heap.size w w') => reduce_calls' A cap zs hv mn hmn16 ds hd16 w' (Kd.C_below HR.out h)
  obtain ⟨fz, hfz⟩ := valid_fz hv
  have hfl : fz.length = zs.length := by rw [← hfz, List.length_map]
  generalize hq : redS zs (mn, ds) = q at hok hs hred
  obtain ⟨mp, dp⟩ := q
  obtain ⟨hmp, hdp⟩ := hok
  simp only at hmp hdp hs hred
  have hl17 : (Value.int .i64 (mp : Int) :: bys dp).length = 17 := by rw [List.length_cons, bys_len, hdp]
  have hone2 := eq_one (mp : Int) dp
  have HL2 := Lib.hid hl17
  have HS := Lib.hid hs
  have HDP := Lib.hid hdp
  have HRED := Lib.hid hred
  have HFZ := Lib.hid hfz
  have HFL := Lib.hid hfl
  have HD16 := Lib.hid hd16
  have HV := Lib.hid hv
  have hp16 : pad16 ds = ds := pad16_of _ hd16
  have HP16 := Lib.hid hp16
  clear hl17 hq hs hdp hred hsp hbad hfz hfl hd16 hp16 hmn16
  obtain ⟨bz, hbz⟩ : ∃ b, ((mp : Int) == 0 && dp == z16) = b := ⟨_, rfl⟩
  obtain ⟨b0, hb0⟩ : ∃ b, ((mp : Int) == 0) = b := ⟨_, rfl⟩
  have hcs : (bz = true ↔ (mp = 0 ∧ dp = z16)) ∧ (b0 = true ↔ mp = 0) := by
    rw [← hbz, ← hb0]; simp
  have HCS := Lib.hid hcs
  have HBZ := Lib.hid hbz
  clear hcs hbz
  cases bz
  rotate_left
  · -- the same rows again
    have hans : addS zs (mn : Int) ds = (zs, false, 0) := by
      have := HCS.out.1.1 rfl
      rw [HS.out, if_pos (by rw [this.1, this.2])]
    have HANS := Lib.hid hans
    clear hans
    go_wp2_with (first
      | (go_at_call 45; refine (formed_calls (mn : Int) A1 c1 ds _ (Kd.C_below HX.out (HBA.out _))).mono ?_; rw [HP16.out, hf]; rintro e w1 ⟨rfl, hb1⟩; have HB1 := Lib.hid hb1; clear hb1)
      | (refine wpList_store_row rfl 76 _ _ rfl _ (.int .i64 (mn : Int) :: bys ds) _ 76 rfl rfl (blk_new rfl) (by rw [HL.out]; rfl) (by rw [HL.out]; exact size53) hone ?_; intro w2 g1 g2 g3 g4; have hb2 := (HBA.out (.cells #[.int .i64 (mn : Int), .slice A1 ds.length c1] 52)).trans (HB1.out.mono (HBA.out _).size); have HB2 := Lib.hid (g4 _ _ hb2.size (hb2.alloc hb2.size _)); have hg7 := hb2.size; have hs2 : w2.heap.size = w1.heap.size + 1 := (by rw [g3]; simp); clear g2 g3 g4 hb2)
      | (go_at_call 48; refine (equations_calls _ _ _ _).mono ?_; rintro e w' ⟨rfl, rfl⟩)
      | (go_at_call 46; refine (valid_calls A cap zs _ (Kd.C_below HR.out HB2.out)).mono ?_; rw [HV.out]; rintro e w3 ⟨rfl, hb3⟩; have HB3 := Lib.hid hb3; have g1' := (hb3.block _ (Array.getElem?_eq_some_iff.1 g1).1).trans g1; clear hb3)
      | (refine wpList_load_row rfl 76 _ rfl w1.heap.size rfl 76 _ (0, 0) _ g1' Tryd.underlying76 rfl (by simp only [List.size_toArray]; rw [HL.out]; exact size53) ?_)
      | (go_at_call 47; refine (HRED.out _ (HB2.out.trans (HB3.out.mono HB2.out.size))).mono ?_; rintro e w4 ⟨rfl, hb4⟩; have HB4 := Lib.hid hb4; have g1'' := (hb4.block _ (Array.getElem?_eq_some_iff.1 g1').1).trans g1'; clear hb4)
      | (refine wpList_store_row rfl 76 _ _ rfl w1.heap.size (.int .i64 (mp : Int) :: bys dp) _ 76 rfl rfl g1'' (by rw [HL2.out, List.size_toArray, HL.out]) (by rw [HL2.out]; exact size53) hone2 ?_; intro w5 p1 p2 p3 p4; have hb3 := HB2.out.trans (HB3.out.mono HB2.out.size); have hb4 := hb3.trans (HB4.out.mono hb3.size); have HB5 := Lib.hid (p4 _ _ hg7 hb4); have hsz5 := p3; have c0 : w5.cell? ⟨w1.heap.size, 0, none⟩ = some (.int .i64 (mp : Int)) := (cell_of_row w5 _ 0 _ 76 (0, 0) p1).trans (by simp); clear p2 p3 p4 hb3 hb4)
      | (refine wpList_load_row rfl 76 _ rfl w1.heap.size rfl 76 _ (0, 0) _ p1 Tryd.underlying76 rfl (by simp only [List.size_toArray]; rw [HL2.out]; exact size53) ?_)
      | (refine Kd.event_run rfl (exec_eql53 (x := .tmp 30) (y := .tmp 31) (m := (mp : Int)) (d := dp) rfl rfl (by rw [zrow]; rfl) HDP.out HBZ.out) ?_))
    have hg9 : w.heap.size ≤ w4.heap.size := by have := HB5.out.size; omega
    have sz0 : ((w5.alloc (.cells #[.slice none 0 0] 23)).alloc (.cells #[.slice A zs.length cap] 23)).heap.size = w4.heap.size + 1 + 1 := by simp [hsz5]
    have bO : Boxed ((w5.alloc (.cells #[.slice none 0 0] 23)).alloc (.cells #[.slice A zs.length cap] 23)) w4.heap.size 23 (.slice none 0 0) := by
      have := (Boxed.new w5 23 (.slice none 0 0)).alloc (.cells #[.slice A zs.length cap] 23)
      rwa [hsz5] at this
    have b5 : ((w5.alloc (.cells #[.slice none 0 0] 23)).alloc (.cells #[.slice A zs.length cap] 23)).heap[w4.heap.size + 1]? = some (.cells #[.slice A zs.length cap] 23 (0, 0)) := blk_new (by simp [hsz5])
    have hB0 : Below w.heap.size w ((w5.alloc (.cells #[.slice none 0 0] 23)).alloc (.cells #[.slice A zs.length cap] 23)) := (HB5.out.alloc HB5.out.size _).alloc (by simp; omega) _
    have hO : OutC w.heap.size w4.heap.size [] ((w5.alloc (.cells #[.slice none 0 0] 23)).alloc (.cells #[.slice A zs.length cap] 23)) := ⟨_, bO, Kd.S_nil _ _ _ _ _⟩
    generalize (w5.alloc (.cells #[.slice none 0 0] 23)).alloc (.cells #[.slice A zs.length cap] 23) = W0 at *
    generalize w1.heap.size = g7 at *
    generalize w4.heap.size = g9 at *
    clear bO g1 g1' g1'' p1 c0 HB2 HB3 HB4 HB5 HB1 hs2 hsz5 hg7
    refine (wpIn_wide (n := 3)).1 (wpIn_rangeFunc_ownH (F := Fence.wide) (n := 3) rfl (by omega) (gf := 61) (lb := #[.pointer (some ⟨g9 + 1, 0, none⟩)]) rfl trivial (enters_of Tryd.func61 (by kernel_rfl) rfl)
      (iter_stops (fun x : FRow => x.1) (3 - 1) (g9 + 1) w.heap.size A cap fz W0 (by omega) (by omega) (by rw [HFL.out]; exact (cell_of_row W0 _ 0 _ 23 (0, 0) b5).trans rfl) (fun W' h => by rw [HFL.out]; rw [show fz.map (fun x : FRow => x.1) = zs from HFZ.out]; exact Kd.C_below HR.out (hB0.trans h))) belowK_t (belowK_b (by omega)) (Below.refl _ _) (fun _ => rfl)
      (fun (pre : List FRow) W => OutC w.heap.size g9 (pre.map Subtype.val) W ∧ Below w.heap.size w W ∧ W0.heap.size ≤ W.heap.size)
      (fun _ _ _ => False)
      (fun s X Y row hs hg hr => by
        obtain ⟨h1, h2, h3⟩ := hs
        exact ⟨outC_round h1 hg hr, h2.grown hg (by have := h2.size; omega) (fun k e => by have := (hr k e).1; omega), Nat.le_trans h3 hg.size⟩)
      (fun _ _ _ _ _ hs _ _ => hs)
      ⟨hO, hB0, Nat.le_refl _⟩
      (fun x a' Z => ∃ Bx, W0.heap.size ≤ Bx ∧ Z.heap[Bx]? = some (.cells (.int .i64 (x.m : Int) :: bys x.1.f1).toArray 76 (0, 0)) ∧ a' = { tmps := #[.slice A zs.length cap, .agg #[.int .i64 (mn : Int), .slice A1 ds.length c1], undef, .pointer (some ⟨w.heap.size, 0, none⟩), .slice none 0 0, .bool false, .int .i64 0, .pointer (some ⟨g7, 0, none⟩), .bool true, .pointer (some ⟨g9, 0, none⟩), .pointer (some ⟨Bx, 0, none⟩), undef, undef, undef, .tuple #[.agg (.int .i64 (mn : Int) :: bys ds).toArray, .bool true], .agg #[.int .i64 (mn : Int), .slice A1 ds.length c1], .tuple #[.agg (.int .i64 (mn : Int) :: bys ds).toArray, .bool true], .agg (.int .i64 (mn : Int) :: bys ds).toArray, .bool true, .slice A zs.length cap, .bool true, .bool false, .bool false, .bool true, .bool false, .bool false, .slice A zs.length cap, .agg (.int .i64 (mn : Int) :: bys ds).toArray, .agg (.int .i64 (mp : Int) :: bys dp).toArray, .bool true, .agg (.int .i64 (mp : Int) :: bys dp).toArray, .agg #[.int .i64 0, .int .u8 0, .int .u8 0, .int .u8 0, .int .u8 0, .int .u8 0, .int .u8 0, .int .u8 0, .int .u8 0, .int .u8 0, .int .u8 0, .int .u8 0, .int .u8 0, .int .u8 0, .int .u8 0, .int .u8 0, .int .u8 0], .bool true, .slice A zs.length cap, .func (.func 61) #[] #[.pointer (some ⟨g9 + 1, 0, none⟩)], .agg (.int .i64 (x.m : Int) :: bys x.1.f1).toArray, .bool true, undef, undef, undef, undef, undef, undef, undef, undef, undef, undef, undef, undef, undef, undef, undef, undef, undef, undef, undef, undef, undef, undef, undef, undef, undef, undef, undef, undef, undef, undef, undef, undef, undef, undef, undef, undef, undef, undef, undef, undef, undef, undef, undef, undef, undef, undef, undef, undef, undef, undef, undef, undef, undef, undef, undef, undef, undef, undef], defers := [] })
      (fun x a' s X Y row hs hg hr => by obtain ⟨Bx, h1, h2, h3⟩ := hs; exact ⟨Bx, h1, keep_block h2 hg hr, h3⟩)
      ?assign ?body ?done ?stop)
    case assign =>
      intro l pre x U K hI hK
      have hsp := x.spec
      have he : encE x.1 = #[.agg (.int .i64 (x.m : Int) :: bys x.1.f1).toArray, .bool true] := by
        unfold encE; rw [pad16_of _ hsp.2.2, x.2, x.m_eq]
      rw [he]
      have hout : ¬ LetsOut (Exit.then K (fun _ _ _ => False)) := fun ⟨_, _, h⟩ => h
      refine plain_in (by rfl) hout ?_
      simp only [List.zip_toArray, List.zip_cons_cons, List.zip_nil_right, List.foldl_toArray, List.foldl_cons, List.foldl_nil, List.setIfInBounds_toArray, List.set_cons_zero, List.set_cons_succ]
      have hl17 : (Value.int .i64 (x.m : Int) :: bys x.1.f1).length = 17 := by rw [List.length_cons, bys_len, hsp.2.2]
      have H17 := Lib.hid hl17
      have hone : ∀ v ∈ Value.int .i64 (x.m : Int) :: bys x.1.f1, v.oneCell' = true := eq_one _ _
      have HK2 := Lib.hid hK
      have HI := Lib.hid hI
      clear hl17 hsp he hK hI
      go_wp2_with (first | (refine wpList_store_row rfl 76 _ _ rfl U.heap.size (.int .i64 (x.m : Int) :: bys x.1.f1) _ 76 rfl rfl (blk_new rfl) (by rw [H17.out]; rfl) (by rw [H17.out]; exact size53) hone ?_; intro w1 g1 g2 g3 g4))
      obtain ⟨i1, i4, i5⟩ := HI.out
      have hwW := i4.size
      have hB1 : Below w.heap.size U w1 := g4 _ _ hwW ((Below.refl _ _).alloc hwW _)
      have hB1' : Below U.heap.size U w1 := g4 _ _ (Nat.le_refl _) ((Below.refl _ _).alloc (Nat.le_refl _) _)
      exact HK2.out _ _ ((keeps_of_below ((Below.refl _ U).alloc (Nat.le_refl _) _) _).trans (keeps_of_cells (blk_new rfl) g2 g3 _)) hB1
        ⟨outC_below i1 hB1', i4.trans hB1, by rw [g3]; simp; omega⟩ ⟨U.heap.size, i5, g1, rfl⟩
    case body =>
      rintro l pre x a' U hl hrec ⟨⟨v, hbv, hSv⟩, hB2, hz2⟩ ⟨Bx, hBx, hx, rfl⟩ hlen2
      have hwW := hB2.size
      have hxs := x.spec
      have hi17 : (Tryd.prog.info? 76).map (·.size) = some (Value.int .i64 (x.m : Int) :: bys x.1.f1).length := by rw [List.length_cons, bys_len, hxs.2.2]; exact size53
      have cO := hbv.cell
      have HX := Lib.hid hx
      have HXS := Lib.hid hxs
      have HI17 := Lib.hid hi17
      have BV := Lib.hid hbv
      have HSV := Lib.hid hSv
      have HLEN : pre.length < 1000000 := by have := HFL.out; omega
      clear hx hi17 hbv hSv hrec hxs hO b5
      refine wpIn_block ?_
      have hout : ¬ LetsOut (Exit.inBlock 2 (ownPostG W0.heap.size (Below w.heap.size)
        (fun (pre : List FRow) W => OutC w.heap.size g9 (pre.map Subtype.val) W ∧ Below w.heap.size w W ∧ W0.heap.size ≤ W.heap.size)
        (fun _ _ _ => False) (pre ++ [x]) U)) := fun ⟨_, _, h⟩ => h
      refine start_in (m := 6) (S := (fun V => V.cell? ⟨g9, 0, none⟩ = some v ∧ V.heap[Bx]? = some (.cells (.int .i64 (x.m : Int) :: bys x.1.f1).toArray 76 (0, 0)) ∧ Below U.heap.size U V)) (ds := [4, 5]) (bl 6 0) (by kernel_rfl) (by rfl) hout rfl rfl ⟨cO, HX.out, (Below.refl _ _).drew⟩ (fun hHeld => ?_)
      refine tU 0 37 (bl 6 1) (by kernel_rfl) hHeld (hy := by rintro w' ⟨s0, s1, s2⟩; go_simp; with_reducible rfl) (h := ?_)
      refine rU 1 38 (bl 6 3) rfl (by kernel_rfl) (row_if (by rfl) 76 _ rfl Bx rfl (.int .i64 (x.m : Int) :: bys x.1.f1) 76 _ (fun _ hS => hS.2.1) Tryd.underlying76 rfl HI17.out) hHeld (h := ?_)
      refine one_ (i := 2) (N := some 39) (bl 6 7) rfl rfl (by kernel_rfl) (by decide) (fun K hK => ?_)
      refine goes_ Tryd.func49 (by kernel_rfl) rfl #[.agg (.int .i64 (x.m : Int) :: bys x.1.f1).toArray] (by rfl) rfl rfl (by simp only [List.map_toArray, List.map_cons, List.map_nil]; rfl) ?_
      refine (row_calls (x.m : Int) x.1.f1 HXS.out.2.2 _).mono ?_
      rintro e u ⟨gr, hg1, rfl, hg3, hb⟩
      refine ⟨_, rfl, ?_⟩
      obtain ⟨s0, s1, s2⟩ := hHeld
      have hgrU : U.heap.size ≤ gr := Nat.le_trans s2.size hg1
      have t2 := s2.trans (hb.mono s2.size)
      have HG3 := Lib.hid hg3
      refine hK.out _ _ ⟨(hb.cell (World.block_lt_of_cell? _ _ s0)).trans s0, (hb.block _ (Array.getElem?_eq_some_iff.1 s1).1).trans s1, t2⟩ (fun hHeld => ?_)
      clear hK K s0 s1 s2 t2 hb hg1 hg3
      refine nU 39 (h := ?_)
      refine one_ (i := 3) (N := some 40) (bl 6 15) rfl rfl (by kernel_rfl) (by decide) (fun K hK => ?_)
      obtain ⟨s0, s1, s2⟩ := hHeld
      refine event_step (by rfl) (exec_bs rfl (vs := #[(0, .agg #[.int .i64 (x.m : Int), .slice (some ⟨gr, 0, none⟩) 16 16])]) (by simp only [List.map_toArray, List.map_cons, List.map_nil]; rfl) (run_bs _ gr u)) ?_
      have HU2 := Lib.hid s2
      have ha := (Below.refl u.heap.size u).alloc (Nat.le_refl _) (.cells #[.int .i64 (x.m : Int), .slice (some ⟨gr, 0, none⟩) 16 16] 52)
      refine hK.out _ _ ⟨(ha.cell (World.block_lt_of_cell? _ _ s0)).trans s0, (ha.block _ (Array.getElem?_eq_some_iff.1 s1).1).trans s1, s2.trans (ha.mono s2.size)⟩ (fun hHeld => ?_)
      clear hK K s0 s1 s2 ha
      refine nU 40 (h := ?_)
      refine last_ (i := 4) (N := some 41) (bl 6 31) rfl rfl (by kernel_rfl) (by decide) (fun K hK => ?_)
      have s2 := HU2.out
      have hus := s2.size
      refine app_step (by rfl) (.tmp 37) (.tmp 40) rfl U u w.heap.size v (pre.map Subtype.val) (x.m : Int) x.1.f1 gr rfl rfl (Kd.S_mono (Kd.S_below (Kd.S_bound HSV.out) s2) (fun k hk => by have := hk.2.2.1; omega)) HG3.out (by omega) HXS.out.2.2 (s2.mono hwW) (by omega) (by simp only [List.length_map]; omega) ?_
      intro v1 w1 h1 h2 h3 h4
      obtain ⟨A', c', rfl⟩ := Kd.R_slice (Kd.S_R h1)
      have bv1 : Boxed w1 g9 23 v := h4 _ _ (boxed_block BV.out s2) (fun cs e => by cases e)
      refine hK.out _ _ ?_
      clear hK K
      refine nU 41 (h := ?_)
      refine last_ (i := 5) (N := none) (bl 6 63) rfl rfl (by kernel_rfl) (by decide) (fun K hK => ?_)
      refine store_step (by rfl) rfl rfl rfl rfl (run_st22 g9 v w1 A' _ c' bv1) ?_
      refine hK.out _ _ ?_
      refine done_ (by kernel_rfl) ?_
      have hs2 := HU2.out.size
      have hBf : Below w.heap.size U (w1.setCell ⟨g9, 0, none⟩ (.slice A' (List.map Subtype.val pre ++ [(⟨(x.m : Int), x.1.f1⟩ : S25)]).length c')) := h2.setCell (p := ⟨g9, 0, none⟩) hg9 _
      refine ⟨((keeps_of_below HU2.out _).trans (keeps_app h3 h4 _)).trans (keeps_set bv1 _ _), hBf, ⟨⟨_, bv1.set _, ?_⟩, hB2.trans hBf, ?_⟩⟩
      · have := S_own h1 bv1 (.slice A' (List.map Subtype.val pre ++ [(⟨(x.m : Int), x.1.f1⟩ : S25)]).length c')
        rw [rowE_m] at this
        rw [List.map_append, rowE_m]
        exact this
      · rw [World.size_setCell]; omega
    case done =>
      rintro D xs U hD hxs ⟨⟨v, hbv, hSv⟩, hB2, hz2⟩ hKm
      have hx2 : xs.map Subtype.val = zs := by rw [hxs]; exact HFZ.out
      rw [hx2] at hSv
      have cO := hbv.cell
      have HSV := Lib.hid hSv
      have HKm := Lib.hid hKm
      clear hxs hx2 hSv hbv hKm hO b5
      go_wp2
      have hbk := belowK_b (w := w) (Nat.le_refl _) U D _ (.deferred none) (by omega) HKm.out rfl rfl
      refine ⟨by simp, .inl ⟨_, _, rfl, run_takeDeferred HKm.out, ?_⟩⟩
      obtain ⟨A', c', rfl⟩ := Kd.R_slice (Kd.S_R HSV.out)
      refine ⟨.tuple #[.slice A' zs.length c', .bool false, .int .i64 0], by simp [results, Tryd.results34, go_sem], ?_⟩
      rw [HANS.out]
      refine ⟨_, rfl, Kd.S_mono (Kd.S_step (Kd.S_bound HSV.out) (fun k hk _ => World.putObj_heap_other (fun e => ?_))) (fun _ _ => trivial), hB2.trans hbk⟩
      obtain ⟨_, _, _, q, _, cells, hc⟩ := hk
      have := HKm.out
      subst e
      rw [hc] at this
      cases this
    case stop =>
      rintro D c pre W _ _ h _
      exact h.elim
  cases b0
  rotate_left
  · -- against the rows
    have hans : addS zs (mn : Int) ds = ([], false, 12) := by
      have h0 := HCS.out.2.1 rfl
      rw [HS.out, if_neg (fun h => by injection h with h1 h2; have := HCS.out.1.2 ⟨h1, h2⟩; cases this), if_pos h0]
    have HANS := Lib.hid hans
    clear hans
    go_wp2_with (first
      | (go_at_call 45; refine (formed_calls (mn : Int) A1 c1 ds _ (Kd.C_below HX.out (HBA.out _))).mono ?_; rw [HP16.out, hf]; rintro e w1 ⟨rfl, hb1⟩; have HB1 := Lib.hid hb1; clear hb1)
      | (refine wpList_store_row rfl 76 _ _ rfl _ (.int .i64 (mn : Int) :: bys ds) _ 76 rfl rfl (blk_new rfl) (by rw [HL.out]; rfl) (by rw [HL.out]; exact size53) hone ?_; intro w2 g1 g2 g3 g4; have hb2 := (HBA.out (.cells #[.int .i64 (mn : Int), .slice A1 ds.length c1] 52)).trans (HB1.out.mono (HBA.out _).size); have HB2 := Lib.hid (g4 _ _ hb2.size (hb2.alloc hb2.size _)); have hg7 := hb2.size; have hs2 : w2.heap.size = w1.heap.size + 1 := (by rw [g3]; simp); clear g2 g3 g4 hb2)
      | (go_at_call 48; refine (equations_calls _ _ _ _).mono ?_; rintro e w' ⟨rfl, rfl⟩)
      | (go_at_call 46; refine (valid_calls A cap zs _ (Kd.C_below HR.out HB2.out)).mono ?_; rw [HV.out]; rintro e w3 ⟨rfl, hb3⟩; have HB3 := Lib.hid hb3; have g1' := (hb3.block _ (Array.getElem?_eq_some_iff.1 g1).1).trans g1; clear hb3)
      | (refine wpList_load_row rfl 76 _ rfl w1.heap.size rfl 76 _ (0, 0) _ g1' Tryd.underlying76 rfl (by simp only [List.size_toArray]; rw [HL.out]; exact size53) ?_)
      | (go_at_call 47; refine (HRED.out _ (HB2.out.trans (HB3.out.mono HB2.out.size))).mono ?_; rintro e w4 ⟨rfl, hb4⟩; have HB4 := Lib.hid hb4; have g1'' := (hb4.block _ (Array.getElem?_eq_some_iff.1 g1').1).trans g1'; clear hb4)
      | (refine wpList_store_row rfl 76 _ _ rfl w1.heap.size (.int .i64 (mp : Int) :: bys dp) _ 76 rfl rfl g1'' (by rw [HL2.out, List.size_toArray, HL.out]) (by rw [HL2.out]; exact size53) hone2 ?_; intro w5 p1 p2 p3 p4; have hb3 := HB2.out.trans (HB3.out.mono HB2.out.size); have hb4 := hb3.trans (HB4.out.mono hb3.size); have HB5 := Lib.hid (p4 _ _ hg7 hb4); have hsz5 := p3; have c0 : w5.cell? ⟨w1.heap.size, 0, none⟩ = some (.int .i64 (mp : Int)) := (cell_of_row w5 _ 0 _ 76 (0, 0) p1).trans (by simp); clear p2 p3 p4 hb3 hb4)
      | (refine wpList_load_row rfl 76 _ rfl w1.heap.size rfl 76 _ (0, 0) _ p1 Tryd.underlying76 rfl (by simp only [List.size_toArray]; rw [HL2.out]; exact size53) ?_)
      | (refine Kd.event_run rfl (exec_eql53 (x := .tmp 30) (y := .tmp 31) (m := (mp : Int)) (d := dp) rfl rfl (by rw [zrow]; rfl) HDP.out HBZ.out) ?_))
    refine ⟨.tuple #[.slice none 0 0, .bool false, .int .i64 12], by simp [results, Tryd.results34, go_sem], ?_⟩
    rw [HANS.out]
    exact ⟨_, rfl, Kd.S_nil _ _ _ _ _, HB5.out⟩
  · -- new
    have hans : addS zs (mn : Int) ds = (insS (mp, dp) zs, true, 0) := by
      rw [HS.out, if_neg (fun h => by injection h with h1 h2; have := HCS.out.1.2 ⟨h1, h2⟩; cases this), if_neg (fun h => by have := HCS.out.2.2 h; cases this)]
    have HANS := Lib.hid hans
    clear hans
    go_wp2_with (first
      | (go_at_call 45; refine (formed_calls (mn : Int) A1 c1 ds _ (Kd.C_below HX.out (HBA.out _))).mono ?_; rw [HP16.out, hf]; rintro e w1 ⟨rfl, hb1⟩; have HB1 := Lib.hid hb1; clear hb1)
      | (refine wpList_store_row rfl 76 _ _ rfl _ (.int .i64 (mn : Int) :: bys ds) _ 76 rfl rfl (blk_new rfl) (by rw [HL.out]; rfl) (by rw [HL.out]; exact size53) hone ?_; intro w2 g1 g2 g3 g4; have hb2 := (HBA.out (.cells #[.int .i64 (mn : Int), .slice A1 ds.length c1] 52)).trans (HB1.out.mono (HBA.out _).size); have HB2 := Lib.hid (g4 _ _ hb2.size (hb2.alloc hb2.size _)); have hg7 := hb2.size; have hs2 : w2.heap.size = w1.heap.size + 1 := (by rw [g3]; simp); clear g2 g3 g4 hb2)
      | (go_at_call 48; refine (equations_calls _ _ _ _).mono ?_; rintro e w' ⟨rfl, rfl⟩)
      | (go_at_call 46; refine (valid_calls A cap zs _ (Kd.C_below HR.out HB2.out)).mono ?_; rw [HV.out]; rintro e w3 ⟨rfl, hb3⟩; have HB3 := Lib.hid hb3; have g1' := (hb3.block _ (Array.getElem?_eq_some_iff.1 g1).1).trans g1; clear hb3)
      | (refine wpList_load_row rfl 76 _ rfl w1.heap.size rfl 76 _ (0, 0) _ g1' Tryd.underlying76 rfl (by simp only [List.size_toArray]; rw [HL.out]; exact size53) ?_)
      | (go_at_call 47; refine (HRED.out _ (HB2.out.trans (HB3.out.mono HB2.out.size))).mono ?_; rintro e w4 ⟨rfl, hb4⟩; have HB4 := Lib.hid hb4; have g1'' := (hb4.block _ (Array.getElem?_eq_some_iff.1 g1').1).trans g1'; clear hb4)
      | (refine wpList_store_row rfl 76 _ _ rfl w1.heap.size (.int .i64 (mp : Int) :: bys dp) _ 76 rfl rfl g1'' (by rw [HL2.out, List.size_toArray, HL.out]) (by rw [HL2.out]; exact size53) hone2 ?_; intro w5 p1 p2 p3 p4; have hb3 := HB2.out.trans (HB3.out.mono HB2.out.size); have hb4 := hb3.trans (HB4.out.mono hb3.size); have HB5 := Lib.hid (p4 _ _ hg7 hb4); have hsz5 := p3; have c0 : w5.cell? ⟨w1.heap.size, 0, none⟩ = some (.int .i64 (mp : Int)) := (cell_of_row w5 _ 0 _ 76 (0, 0) p1).trans (by simp); clear p2 p3 p4 hb3 hb4)
      | (refine wpList_load_row rfl 76 _ rfl w1.heap.size rfl 76 _ (0, 0) _ p1 Tryd.underlying76 rfl (by simp only [List.size_toArray]; rw [HL2.out]; exact size53) ?_)
      | (refine Kd.event_run rfl (exec_eql53 (x := .tmp 30) (y := .tmp 31) (m := (mp : Int)) (d := dp) rfl rfl (by rw [zrow]; rfl) HDP.out HBZ.out) ?_))
    have hg9 : w.heap.size ≤ w4.heap.size := by have := HB5.out.size; omega
    have h74 : w1.heap.size < w4.heap.size := by have h1 := HB3.out.size; have h2 := HB4.out.size; omega
    have hPO := (((Boxed.new w5 23 (.slice none 0 0)).alloc (.cells #[.bool false] 4)).alloc (.cells #[.slice A zs.length cap] 23))
    have hPP := ((Boxed.new (w5.alloc (.cells #[.slice none 0 0] 23)) 4 (.bool false)).alloc (.cells #[.slice A zs.length cap] 23))
    have sz0 : (((w5.alloc (.cells #[.slice none 0 0] 23)).alloc (.cells #[.bool false] 4)).alloc (.cells #[.slice A zs.length cap] 23)).heap.size = w4.heap.size + 1 + 1 + 1 := by simp [hsz5]
    have b5 : (((w5.alloc (.cells #[.slice none 0 0] 23)).alloc (.cells #[.bool false] 4)).alloc (.cells #[.slice A zs.length cap] 23)).heap[w4.heap.size + 1 + 1]? = some (.cells #[.slice A zs.length cap] 23 (0, 0)) := blk_new (by simp [hsz5])
    have hB0 : Below w.heap.size w (((w5.alloc (.cells #[.slice none 0 0] 23)).alloc (.cells #[.bool false] 4)).alloc (.cells #[.slice A zs.length cap] 23)) := ((HB5.out.alloc HB5.out.size _).alloc (by simp; omega) _).alloc (by simp; omega) _
    have h7 : (((w5.alloc (.cells #[.slice none 0 0] 23)).alloc (.cells #[.bool false] 4)).alloc (.cells #[.slice A zs.length cap] 23)).heap[w1.heap.size]? = some (.cells (.int .i64 (mp : Int) :: bys dp).toArray 76 (0, 0)) := by
      rw [Below.heap_alloc _ _ _ (by simp; omega), Below.heap_alloc _ _ _ (by simp; omega), Below.heap_alloc _ _ _ (by omega)]; exact p1
    simp only [World.size_alloc, hsz5] at hPO hPP
    have hO : OutC w.heap.size w4.heap.size [] (((w5.alloc (.cells #[.slice none 0 0] 23)).alloc (.cells #[.bool false] 4)).alloc (.cells #[.slice A zs.length cap] 23)) := ⟨_, hPO, Kd.S_nil _ _ _ _ _⟩
    generalize ((w5.alloc (.cells #[.slice none 0 0] 23)).alloc (.cells #[.bool false] 4)).alloc (.cells #[.slice A zs.length cap] 23) = W0 at *
    have hg7' : w.heap.size ≤ w1.heap.size := hg7
    clear hPO g1 g1' g1'' p1 c0 HB2 HB3 HB4 HB5 HB1 hs2 hsz5 hg7
    generalize w1.heap.size = g7 at *
    generalize w4.heap.size = g11 at *
    refine (wpIn_wide (n := 3)).1 (wpIn_rangeFunc_ownH (F := Fence.wide) (n := 3) rfl (by omega) (gf := 61) (lb := #[.pointer (some ⟨g11 + 1 + 1, 0, none⟩)]) rfl trivial (enters_of Tryd.func61 (by kernel_rfl) rfl)
      (iter_stops (fun x : FRow => x.1) (3 - 1) (g11 + 1 + 1) w.heap.size A cap fz W0 (by omega) (by omega) (by rw [HFL.out]; exact (cell_of_row W0 _ 0 _ 23 (0, 0) b5).trans rfl) (fun W' h => by rw [HFL.out]; rw [show fz.map (fun x : FRow => x.1) = zs from HFZ.out]; exact Kd.C_below HR.out (hB0.trans h))) belowK_t (belowK_b (by omega)) (Below.refl _ _) (fun _ => rfl)
      (fun (pre : List FRow) W => W.heap[g7]? = some (.cells (.int .i64 (mp : Int) :: bys dp).toArray 76 (0, 0)) ∧ Boxed W (g11 + 1) 4 (.bool (insL (mp, dp) (pre.map Subtype.val)).2) ∧ OutC w.heap.size g11 (insL (mp, dp) (pre.map Subtype.val)).1 W ∧ Below w.heap.size w W ∧ W0.heap.size ≤ W.heap.size)
      (fun _ _ _ => False)
      (fun s X Y row hs hg hr => by
        obtain ⟨h0, h1, h2, h3, h4⟩ := hs
        exact ⟨keep_block h0 hg hr, boxed_keep h1 hg hr, outC_round h2 hg hr, h3.grown hg (by have := h3.size; omega) (fun k e => by have := (hr k e).1; omega), Nat.le_trans h4 hg.size⟩)
      (fun _ _ _ _ _ hs _ _ => hs)
      ⟨h7, hPP, hO, hB0, Nat.le_refl _⟩
      (fun x a' Z => ∃ Bx, W0.heap.size ≤ Bx ∧ Z.heap[Bx]? = some (.cells (.int .i64 (x.m : Int) :: bys x.1.f1).toArray 76 (0, 0)) ∧ a' = { tmps := #[.slice A zs.length cap, .agg #[.int .i64 (mn : Int), .slice A1 ds.length c1], undef, .pointer (some ⟨w.heap.size, 0, none⟩), .slice none 0 0, .bool false, .int .i64 0, .pointer (some ⟨g7, 0, none⟩), .bool true, undef, undef, .pointer (some ⟨g11, 0, none⟩), .pointer (some ⟨g11 + 1, 0, none⟩), .pointer (some ⟨Bx, 0, none⟩), .tuple #[.agg (.int .i64 (mn : Int) :: bys ds).toArray, .bool true], .agg #[.int .i64 (mn : Int), .slice A1 ds.length c1], .tuple #[.agg (.int .i64 (mn : Int) :: bys ds).toArray, .bool true], .agg (.int .i64 (mn : Int) :: bys ds).toArray, .bool true, .slice A zs.length cap, .bool true, .bool false, .bool false, .bool true, .bool false, .bool false, .slice A zs.length cap, .agg (.int .i64 (mn : Int) :: bys ds).toArray, .agg (.int .i64 (mp : Int) :: bys dp).toArray, .bool false, .agg (.int .i64 (mp : Int) :: bys dp).toArray, .agg #[.int .i64 0, .int .u8 0, .int .u8 0, .int .u8 0, .int .u8 0, .int .u8 0, .int .u8 0, .int .u8 0, .int .u8 0, .int .u8 0, .int .u8 0, .int .u8 0, .int .u8 0, .int .u8 0, .int .u8 0, .int .u8 0, .int .u8 0], .bool false, undef, undef, undef, undef, undef, undef, undef, undef, undef, undef, .bool false, .pointer (some ⟨g7, 0, none⟩), .int .i64 (mp : Int), .bool false, .slice A zs.length cap, .func (.func 61) #[] #[.pointer (some ⟨g11 + 1 + 1, 0, none⟩)], .agg (.int .i64 (x.m : Int) :: bys x.1.f1).toArray, .bool true, undef, undef, undef, undef, undef, undef, undef, undef, undef, undef, undef, undef, undef, undef, undef, undef, undef, undef, undef, undef, undef, undef, undef, undef, undef, undef, undef, undef, undef, undef, undef, undef, undef, undef, undef, undef, undef, undef, undef, undef, undef, undef, undef, undef], defers := [] })
      (fun x a' s X Y row hs hg hr => by obtain ⟨Bx, h1, h2, h3⟩ := hs; exact ⟨Bx, h1, keep_block h2 hg hr, h3⟩)
      ?assign ?body ?done ?stop)
    case assign =>
      intro l pre x U K hI hK
      have hsp := x.spec
      have he : encE x.1 = #[.agg (.int .i64 (x.m : Int) :: bys x.1.f1).toArray, .bool true] := by
        unfold encE; rw [pad16_of _ hsp.2.2, x.2, x.m_eq]
      rw [he]
      have hout : ¬ LetsOut (Exit.then K (fun _ _ _ => False)) := fun ⟨_, _, h⟩ => h
      refine plain_in (by rfl) hout ?_
      simp only [List.zip_toArray, List.zip_cons_cons, List.zip_nil_right, List.foldl_toArray, List.foldl_cons, List.foldl_nil, List.setIfInBounds_toArray, List.set_cons_zero, List.set_cons_succ]
      have hl17 : (Value.int .i64 (x.m : Int) :: bys x.1.f1).length = 17 := by rw [List.length_cons, bys_len, hsp.2.2]
      have H17 := Lib.hid hl17
      have hone : ∀ v ∈ Value.int .i64 (x.m : Int) :: bys x.1.f1, v.oneCell' = true := eq_one _ _
      have HK2 := Lib.hid hK
      have HI := Lib.hid hI
      clear hl17 hsp he hK hI
      go_wp2_with (first | (refine wpList_store_row rfl 76 _ _ rfl U.heap.size (.int .i64 (x.m : Int) :: bys x.1.f1) _ 76 rfl rfl (blk_new rfl) (by rw [H17.out]; rfl) (by rw [H17.out]; exact size53) hone ?_; intro w1 g1 g2 g3 g4))
      obtain ⟨i0, i1, i2, i4, i5⟩ := HI.out
      have hwW := i4.size
      have hB1 : Below w.heap.size U w1 := g4 _ _ hwW ((Below.refl _ _).alloc hwW _)
      have hB1' : Below U.heap.size U w1 := g4 _ _ (Nat.le_refl _) ((Below.refl _ _).alloc (Nat.le_refl _) _)
      exact HK2.out _ _ ((keeps_of_below ((Below.refl _ U).alloc (Nat.le_refl _) _) _).trans (keeps_of_cells (blk_new rfl) g2 g3 _)) hB1
        ⟨(hB1'.block _ (Array.getElem?_eq_some_iff.1 i0).1).trans i0, boxed_block i1 hB1', outC_below i2 hB1', i4.trans hB1, by rw [g3]; simp; omega⟩ ⟨U.heap.size, i5, g1, rfl⟩
    case body =>
      rintro l pre x a' U hl hrec ⟨h7U, hbP, hOut, hB2, hz2⟩ ⟨Bx, hBx, hx, rfl⟩ hlen2
      have hwW := hB2.size
      have hxs := x.spec
      have hmx := x.m_lt
      have hll := lead_lt x.m hmx
      have hll2 := lead_lt mp hmp
      have hi17 : (Tryd.prog.info? 76).map (·.size) = some (Value.int .i64 (x.m : Int) :: bys x.1.f1).length := by rw [List.length_cons, bys_len, hxs.2.2]; exact size53
      have HXS := Lib.hid hxs
      have HI17 := Lib.hid hi17
      have hi17' : (Tryd.prog.info? 76).map (·.size) = some (Value.int .i64 (mp : Int) :: bys dp).length := by rw [HL2.out]; exact size53
      have HI7 := Lib.hid hi17'
      have HLEN : pre.length < 1000000 := by have := HFL.out; omega
      have hsn : insL (mp, dp) ((pre ++ [x]).map Subtype.val) = insStep (mp, dp) (insL (mp, dp) (pre.map Subtype.val)) x.1 := by simp [insL]
      have hil : ∀ p : List S25, (insL (mp, dp) p).1.length ≤ 2 * p.length := insL_len (mp, dp)
      have hil2 := hil (pre.map Subtype.val)
      rw [List.length_map] at hil2
      generalize hst : insL (mp, dp) (pre.map Subtype.val) = st at hbP hOut hsn hil2
      obtain ⟨xs0, pl⟩ := st
      simp only at hbP hOut hil2
      have HSN := Lib.hid hsn
      clear hi17 hi17' hrec hxs hO b5 hPP h7 hsn hst hil
      refine wpIn_block ?_
      refine wpIn_seq_k (fun K1 hK1 => ?_)
      -- what comes behind the first 'if'
      have rest : ∀ (t51 t52 t53 t54 t55 t56 t57 t58 t59 t60 t61 t62 t63 t64 : Value) (U2 : World) (xs2 : List S25) (pl2 : Bool), KeepsFrom W0.heap.size U U2 → Below w.heap.size U U2 → U2.heap[g7]? = some (.cells (.int .i64 (mp : Int) :: bys dp).toArray 76 (0, 0)) →
          U2.heap[Bx]? = some (.cells (.int .i64 (x.m : Int) :: bys x.1.f1).toArray 76 (0, 0)) → Boxed U2 (g11 + 1) 4 (.bool pl2) → OutC w.heap.size g11 xs2 U2 → xs2.length ≤ 3000000 → W0.heap.size ≤ U2.heap.size →
          insL (mp, dp) ((pre ++ [x]).map Subtype.val) = (xs2 ++ [mixE (mp, dp) x.1], pl2) → K1 { tmps := #[.slice A zs.length cap, .agg #[.int .i64 (mn : Int), .slice A1 ds.length c1], undef, .pointer (some ⟨w.heap.size, 0, none⟩), .slice none 0 0, .bool false, .int .i64 0, .pointer (some ⟨g7, 0, none⟩), .bool true, undef, undef, .pointer (some ⟨g11, 0, none⟩), .pointer (some ⟨g11 + 1, 0, none⟩), .pointer (some ⟨Bx, 0, none⟩), .tuple #[.agg (.int .i64 (mn : Int) :: bys ds).toArray, .bool true], .agg #[.int .i64 (mn : Int), .slice A1 ds.length c1], .tuple #[.agg (.int .i64 (mn : Int) :: bys ds).toArray, .bool true], .agg (.int .i64 (mn : Int) :: bys ds).toArray, .bool true, .slice A zs.length cap, .bool true, .bool false, .bool false, .bool true, .bool false, .bool false, .slice A zs.length cap, .agg (.int .i64 (mn : Int) :: bys ds).toArray, .agg (.int .i64 (mp : Int) :: bys dp).toArray, .bool false, .agg (.int .i64 (mp : Int) :: bys dp).toArray, .agg #[.int .i64 0, .int .u8 0, .int .u8 0, .int .u8 0, .int .u8 0, .int .u8 0, .int .u8 0, .int .u8 0, .int .u8 0, .int .u8 0, .int .u8 0, .int .u8 0, .int .u8 0, .int .u8 0, .int .u8 0, .int .u8 0, .int .u8 0], .bool false, undef, undef, undef, undef, undef, undef, undef, undef, undef, undef, .bool false, .pointer (some ⟨g7, 0, none⟩), .int .i64 (mp : Int), .bool false, .slice A zs.length cap, .func (.func 61) #[] #[.pointer (some ⟨g11 + 1 + 1, 0, none⟩)], .agg (.int .i64 (x.m : Int) :: bys x.1.f1).toArray, .bool true, t51, t52, t53, t54, t55, t56, t57, t58, t59, t60, t61, t62, t63, t64, undef, undef, undef, undef, undef, undef, undef, undef, undef, undef, undef, undef, undef, undef, undef, undef, undef, undef, undef, undef, undef, undef, undef, undef, undef, undef, undef, undef, undef, undef], defers := [] } U2 := by
        intro t51 t52 t53 t54 t55 t56 t57 t58 t59 t60 t61 t62 t63 t64 U2 xs2 pl2 hk2 hb2 h72 hx2 hP2 hO2 hl2 hz3 hans
        refine hK1 _ _ ?_
        have hwU2 := hB2.trans hb2
        have hwW2 := hwU2.size
        have c0 : U2.cell? ⟨Bx, 0, none⟩ = some (.int .i64 (x.m : Int)) := (cell_of_row U2 _ 0 _ 76 (0, 0) hx2).trans (by simp)
        have H72 := Lib.hid h72
        have HX2 := Lib.hid hx2
        have HP2 := Lib.hid hP2
        have HO2 := Lib.hid hO2
        have HK2 := Lib.hid hk2
        have HB22 := Lib.hid hb2
        have HANS2 := Lib.hid hans
        clear h72 hx2 hP2 hO2 hk2 hb2 hans
        refine wpIn_seq_k (fun K3 hK3 => ?_)
        have rest2 : ∀ (t51 t52 t53 t54 t55 t56 t57 t58 t59 t60 t61 t62 t63 t64 t65 t66 t67 t68 t69 t70 t71 t72 t73 t74 t75 t76 t77 t78 t79 t80 t81 : Value) (U3 : World) (mr : Nat) (dr : List Int), dr.length = 16 → KeepsFrom W0.heap.size U U3 → Below w.heap.size U U3 → U3.heap[g7]? = some (.cells (.int .i64 (mp : Int) :: bys dp).toArray 76 (0, 0)) →
            U3.heap[Bx]? = some (.cells (.int .i64 (mr : Int) :: bys dr).toArray 76 (0, 0)) → Boxed U3 (g11 + 1) 4 (.bool pl2) → OutC w.heap.size g11 xs2 U3 → W0.heap.size ≤ U3.heap.size →
            mixE (mp, dp) x.1 = ⟨(mr : Int), dr⟩ → K3 { tmps := #[.slice A zs.length cap, .agg #[.int .i64 (mn : Int), .slice A1 ds.length c1], undef, .pointer (some ⟨w.heap.size, 0, none⟩), .slice none 0 0, .bool false, .int .i64 0, .pointer (some ⟨g7, 0, none⟩), .bool true, undef, undef, .pointer (some ⟨g11, 0, none⟩), .pointer (some ⟨g11 + 1, 0, none⟩), .pointer (some ⟨Bx, 0, none⟩), .tuple #[.agg (.int .i64 (mn : Int) :: bys ds).toArray, .bool true], .agg #[.int .i64 (mn : Int), .slice A1 ds.length c1], .tuple #[.agg (.int .i64 (mn : Int) :: bys ds).toArray, .bool true], .agg (.int .i64 (mn : Int) :: bys ds).toArray, .bool true, .slice A zs.length cap, .bool true, .bool false, .bool false, .bool true, .bool false, .bool false, .slice A zs.length cap, .agg (.int .i64 (mn : Int) :: bys ds).toArray, .agg (.int .i64 (mp : Int) :: bys dp).toArray, .bool false, .agg (.int .i64 (mp : Int) :: bys dp).toArray, .agg #[.int .i64 0, .int .u8 0, .int .u8 0, .int .u8 0, .int .u8 0, .int .u8 0, .int .u8 0, .int .u8 0, .int .u8 0, .int .u8 0, .int .u8 0, .int .u8 0, .int .u8 0, .int .u8 0, .int .u8 0, .int .u8 0, .int .u8 0], .bool false, undef, undef, undef, undef, undef, undef, undef, undef, undef, undef, .bool false, .pointer (some ⟨g7, 0, none⟩), .int .i64 (mp : Int), .bool false, .slice A zs.length cap, .func (.func 61) #[] #[.pointer (some ⟨g11 + 1 + 1, 0, none⟩)], .agg (.int .i64 (x.m : Int) :: bys x.1.f1).toArray, .bool true, t51, t52, t53, t54, t55, t56, t57, t58, t59, t60, t61, t62, t63, t64, t65, t66, t67, t68, t69, t70, t71, t72, t73, t74, t75, t76, t77, t78, t79, t80, t81, undef, undef, undef, undef, undef, undef, undef, undef, undef, undef, undef, undef, undef], defers := [] } U3 := by
          intro t51 t52 t53 t54 t55 t56 t57 t58 t59 t60 t61 t62 t63 t64 t65 t66 t67 t68 t69 t70 t71 t72 t73 t74 t75 t76 t77 t78 t79 t80 t81 U3 mr dr hdr hk3 hb3 h73 hx3 hP3 hO3 hz4 hmix
          refine hK3 _ _ ?_
          obtain ⟨v, hbv, hSv⟩ := hO3
          have cO := hbv.cell
          have hwU3 := hB2.trans hb3
          have hwW3 := hwU3.size
          have hi3 : (Tryd.prog.info? 76).map (·.size) = some (Value.int .i64 (mr : Int) :: bys dr).length := by rw [List.length_cons, bys_len, hdr]; exact size53
          have HI3 := Lib.hid hi3
          have HX3 := Lib.hid hx3
          have H73 := Lib.hid h73
          have HP3 := Lib.hid hP3
          have BV := Lib.hid hbv
          have HSV := Lib.hid hSv
          have HK3 := Lib.hid hk3
          have HB3 := Lib.hid hb3
          clear hi3 hx3 h73 hP3 hbv hSv hk3 hb3 hK3
          have hout : ¬ LetsOut (Exit.inBlock 4 (ownPostG W0.heap.size (Below w.heap.size)
            (fun (pre : List FRow) W => W.heap[g7]? = some (.cells (.int .i64 (mp : Int) :: bys dp).toArray 76 (0, 0)) ∧ Boxed W (g11 + 1) 4 (.bool (insL (mp, dp) (pre.map Subtype.val)).2) ∧ OutC w.heap.size g11 (insL (mp, dp) (pre.map Subtype.val)).1 W ∧ Below w.heap.size w W ∧ W0.heap.size ≤ W.heap.size)
            (fun _ _ _ => False) (pre ++ [x]) U)) := fun ⟨_, _, h⟩ => h
          refine start_in (m := 6) (S := (fun V => V.cell? ⟨g11, 0, none⟩ = some v ∧ V.heap[Bx]? = some (.cells (.int .i64 (mr : Int) :: bys dr).toArray 76 (0, 0)) ∧ Below U3.heap.size U3 V)) (ds := [4, 5]) (bl 6 0) (by kernel_rfl) (by rfl) hout rfl rfl ⟨cO, HX3.out, (Below.refl _ _).drew⟩ (fun hHeld => ?_)
          refine tU 0 82 (bl 6 1) (by kernel_rfl) hHeld (hy := by rintro w' ⟨s0, s1, s2⟩; go_simp; with_reducible rfl) (h := ?_)
          refine rU 1 83 (bl 6 3) rfl (by kernel_rfl) (row_if (by rfl) 76 _ rfl Bx rfl (.int .i64 (mr : Int) :: bys dr) 76 _ (fun _ hS => hS.2.1) Tryd.underlying76 rfl HI3.out) hHeld (h := ?_)
          refine one_ (i := 2) (N := some 84) (bl 6 7) rfl rfl (by kernel_rfl) (by decide) (fun K hK => ?_)
          refine goes_ Tryd.func49 (by kernel_rfl) rfl #[.agg (.int .i64 (mr : Int) :: bys dr).toArray] (by rfl) rfl rfl (by simp only [List.map_toArray, List.map_cons, List.map_nil]; rfl) ?_
          refine (row_calls (mr : Int) dr hdr _).mono ?_
          rintro e u ⟨gr, hg1, rfl, hg3, hb⟩
          refine ⟨_, rfl, ?_⟩
          obtain ⟨s0, s1, s2⟩ := hHeld
          have hgrU : U3.heap.size ≤ gr := Nat.le_trans s2.size hg1
          have t2 := s2.trans (hb.mono s2.size)
          have HG3 := Lib.hid hg3
          refine hK.out _ _ ⟨(hb.cell (World.block_lt_of_cell? _ _ s0)).trans s0, (hb.block _ (Array.getElem?_eq_some_iff.1 s1).1).trans s1, t2⟩ (fun hHeld => ?_)
          clear hK K s0 s1 s2 t2 hb hg1 hg3
          refine nU 84 (h := ?_)
          refine one_ (i := 3) (N := some 85) (bl 6 15) rfl rfl (by kernel_rfl) (by decide) (fun K hK => ?_)
          obtain ⟨s0, s1, s2⟩ := hHeld
          refine event_step (by rfl) (exec_bs rfl (vs := #[(0, .agg #[.int .i64 (mr : Int), .slice (some ⟨gr, 0, none⟩) 16 16])]) (by simp only [List.map_toArray, List.map_cons, List.map_nil]; rfl) (run_bs _ gr u)) ?_
          have HU2 := Lib.hid s2
          have ha := (Below.refl u.heap.size u).alloc (Nat.le_refl _) (.cells #[.int .i64 (mr : Int), .slice (some ⟨gr, 0, none⟩) 16 16] 52)
          refine hK.out _ _ ⟨(ha.cell (World.block_lt_of_cell? _ _ s0)).trans s0, (ha.block _ (Array.getElem?_eq_some_iff.1 s1).1).trans s1, s2.trans (ha.mono s2.size)⟩ (fun hHeld => ?_)
          clear hK K s0 s1 s2 ha
          refine nU 85 (h := ?_)
          refine last_ (i := 4) (N := some 86) (bl 6 31) rfl rfl (by kernel_rfl) (by decide) (fun K hK => ?_)
          have s2 := HU2.out
          have hus := s2.size
          refine app_step (by rfl) (.tmp 82) (.tmp 85) rfl U3 u w.heap.size v (xs2) (mr : Int) dr gr rfl rfl (Kd.S_mono (Kd.S_below (Kd.S_bound HSV.out) s2) (fun k hk => by have := hk.2.2.1; omega)) HG3.out (by omega) hdr (s2.mono hwW3) (by omega) (by omega) ?_
          intro v1 w1 h1 h2 h3 h4
          obtain ⟨A', c', rfl⟩ := Kd.R_slice (Kd.S_R h1)
          have bv1 : Boxed w1 g11 23 v := h4 _ _ (boxed_block BV.out s2) (fun cs e => by cases e)
          refine hK.out _ _ ?_
          clear hK K
          refine nU 86 (h := ?_)
          refine last_ (i := 5) (N := none) (bl 6 63) rfl rfl (by kernel_rfl) (by decide) (fun K hK => ?_)
          refine store_step (by rfl) rfl rfl rfl rfl (run_st22 g11 v w1 A' _ c' bv1) ?_
          refine hK.out _ _ ?_
          refine done_ (by kernel_rfl) ?_
          have hs2 := HU2.out.size
          have hBf : Below w.heap.size U3 (w1.setCell ⟨g11, 0, none⟩ (.slice A' (xs2 ++ [(⟨(mr : Int), dr⟩ : S25)]).length c')) := h2.setCell (p := ⟨g11, 0, none⟩) hg9 _
          have hBp := boxed_block HP3.out HU2.out
          refine ⟨HK3.out.trans (((keeps_of_below HU2.out _).trans (keeps_app h3 h4 _)).trans (keeps_set bv1 _ _)), HB3.out.trans hBf, ?_⟩
          dsimp only
          rw [HANS2.out, hmix]
          have hBp1 : Boxed w1 (g11 + 1) 4 (.bool pl2) := h4 _ _ hBp (fun cs e => by cases e)
          refine ⟨?_, hBp1.other (B' := g11) (by omega) _, ⟨_, bv1.set _, S_own h1 bv1 _⟩, hwU3.trans hBf, ?_⟩
          · rw [Below.heap_setCell _ _ _ _ (by simp; omega)]
            exact h4 _ _ ((HU2.out.block _ (Array.getElem?_eq_some_iff.1 H73.out).1).trans H73.out) (fun cs e => by cases e)
          · rw [World.size_setCell]; omega
        have HREST2 := Lib.hid rest2
        clear rest2 hK3
        have hand := i64_and_nat x.m (lead mp) (by omega) (by omega)
        have HAND := Lib.hid hand
        have hxor := i64_xor_nat x.m mp (by omega) (by omega)
        have HXOR := Lib.hid hxor
        have hlx : (xorD x.1.f1 dp).length = 16 := by simp [xorD, List.length_zipWith, HXS.out.2.2, HDP.out]
        have HLX := Lib.hid hlx
        have j1 : (Tryd.prog.info? 74).map (·.size) = some (bys x.1.f1).length := by rw [bys_len, HXS.out.2.2]; exact size51
        have j2 : (Tryd.prog.info? 74).map (·.size) = some (bys dp).length := by rw [bys_len, HDP.out]; exact size51
        have j3 : (Tryd.prog.info? 76).map (·.size) = some (Value.int .i64 ((x.m ^^^ mp : Nat) : Int) :: bys (xorD x.1.f1 dp)).length := by rw [List.length_cons, bys_len, hlx]; exact size53
        have J1 := Lib.hid j1
        have J2 := Lib.hid j2
        have J3 := Lib.hid j3
        have houtK : ∀ K4 : Act → World → Prop, ¬ LetsOut (Exit.then K4 (Exit.then K3 (Exit.inBlock 4 (ownPostG W0.heap.size (Below w.heap.size)
          (fun (pre : List FRow) W => W.heap[g7]? = some (.cells (.int .i64 (mp : Int) :: bys dp).toArray 76 (0, 0)) ∧ Boxed W (g11 + 1) 4 (.bool (insL (mp, dp) (pre.map Subtype.val)).2) ∧ OutC w.heap.size g11 (insL (mp, dp) (pre.map Subtype.val)).1 W ∧ Below w.heap.size w W ∧ W0.heap.size ≤ W.heap.size)
          (fun _ _ _ => False) (pre ++ [x]) U)))) := fun K4 ⟨_, _, h⟩ => h
        clear hand hxor hlx j1 j2 j3
        refine wpIn_seq_k (fun K4 hK4 => ?_)
        have hout := houtK K4
        refine start_in (m := 6) (S := (fun V => V.cell? ⟨Bx, 0, none⟩ = some (.int .i64 (x.m : Int)) ∧ V.heap[g7]? = some (.cells (.int .i64 (mp : Int) :: bys dp).toArray 76 (0, 0)) ∧ Below U2.heap.size U2 V)) (ds := []) (bl 6 0) (by kernel_rfl) (by rfl) hout rfl rfl ⟨c0, H72.out, (Below.refl _ _).drew⟩ (fun hHeld => ?_)
        refine pU 0 65 (bl 6 1) (by kernel_rfl) (h := ?_)
        refine tU 1 66 (bl 6 3) (by kernel_rfl) hHeld (hy := by rintro w' ⟨s0, s1, s2⟩; go_simp; with_reducible rfl) (h := ?_)
        refine rU 2 67 (bl 6 7) rfl (by kernel_rfl) (row_if (by rfl) 76 _ rfl g7 rfl (.int .i64 (mp : Int) :: bys dp) 76 _ (fun _ hS => hS.2.1) Tryd.underlying76 rfl HI7.out) hHeld (h := ?_)
        refine one_ (i := 3) (N := some 68) (bl 6 15) rfl rfl (by kernel_rfl) (by decide) (fun K hK => ?_)
        refine goes_ Tryd.func50 (by kernel_rfl) rfl #[.agg (.int .i64 (mp : Int) :: bys dp).toArray] (by rfl) rfl rfl (by simp only [List.map_toArray, List.map_cons, List.map_nil]; rfl) ?_
        refine (leading_calls mp hmp _ _).mono ?_
        rintro e3 u3 ⟨rfl, hb⟩
        refine ⟨_, rfl, ?_⟩
        obtain ⟨s0, s1, s2⟩ := hHeld
        have tt := s2.trans (hb.mono s2.size)
        refine hK.out _ _ ⟨(hb.cell (World.block_lt_of_cell? _ _ s0)).trans s0, (hb.block _ (Array.getElem?_eq_some_iff.1 s1).1).trans s1, tt⟩ (fun hHeld => ?_)
        clear hK K tt hb s0 s1 s2
        refine nU 68 (h := ?_)
        refine pU 4 69 (bl 6 31) (by kernel_rfl) (h := ?_)
        refine pU 5 70 (bl 6 63) (by kernel_rfl) (h := ?_)
        refine done_ (by kernel_rfl) ?_
        obtain ⟨s0, s1, s2⟩ := hHeld
        refine hK4 _ _ ?_
        have hu3 := s2.size
        have hb3w : Below w.heap.size U u3 := HB22.out.trans (s2.mono hwW2)
        by_cases hbit : x.m &&& lead mp = 0
        · refine wpIn_cond_false (by show Value.bool _ = _; rw [HAND.out, hbit]; simp) (wpIn_skip ?_)
          refine HREST2.out _ _ _ _ _ _ _ _ _ _ _ _ _ _ _ _ _ _ _ _ _ _ _ _ _ _ _ _ _ _ _ u3 x.m x.1.f1 HXS.out.2.2 (HK2.out.trans (keeps_of_below s2 _)) hb3w s1 ((s2.block _ (Array.getElem?_eq_some_iff.1 HX2.out).1).trans HX2.out) (boxed_block HP2.out s2) (outC_below HO2.out s2) (by omega) ?_
          rw [rowE_m]
          unfold mixE
          rw [if_neg (by simpa [FRow.m] using hbit)]
        · refine wpIn_cond_true (by show Value.bool _ = _; rw [HAND.out]; congr 1; simp; omega) ?_
          have c7 : u3.cell? ⟨g7, 0, none⟩ = some (.int .i64 (mp : Int)) := (cell_of_row u3 _ 0 _ 76 (0, 0) s1).trans (by simp)
          have x3 := (s2.block _ (Array.getElem?_eq_some_iff.1 HX2.out).1).trans HX2.out
          have X3 := Lib.hid x3
          have S2 := Lib.hid s2
          have E3 := Lib.hid s1
          have HB3W := Lib.hid hb3w
          clear s2 x3 hb3w hout houtK
          have hout : ¬ LetsOut (Exit.then K3 (Exit.inBlock 4 (ownPostG W0.heap.size (Below w.heap.size)
            (fun (pre : List FRow) W => W.heap[g7]? = some (.cells (.int .i64 (mp : Int) :: bys dp).toArray 76 (0, 0)) ∧ Boxed W (g11 + 1) 4 (.bool (insL (mp, dp) (pre.map Subtype.val)).2) ∧ OutC w.heap.size g11 (insL (mp, dp) (pre.map Subtype.val)).1 W ∧ Below w.heap.size w W ∧ W0.heap.size ≤ W.heap.size)
            (fun _ _ _ => False) (pre ++ [x]) U))) := fun ⟨_, _, h⟩ => h
          refine start_in (m := 12) (S := (fun V => V.cell? ⟨Bx, 0, none⟩ = some (.int .i64 (x.m : Int)) ∧ V.cell? ⟨g7, 0, none⟩ = some (.int .i64 (mp : Int)) ∧ V.heap[Bx]? = some (.cells (.int .i64 (x.m : Int) :: bys x.1.f1).toArray 76 (0, 0)) ∧ V.heap[g7]? = some (.cells (.int .i64 (mp : Int) :: bys dp).toArray 76 (0, 0)) ∧ Below u3.heap.size u3 V)) (ds := [11]) (bl 12 0) (by kernel_rfl) (by rfl) hout rfl rfl ⟨s0, c7, X3.out, s1, (Below.refl _ _).drew⟩ (fun hHeld => ?_)
          refine pU 0 71 (bl 12 1) (by kernel_rfl) (h := ?_)
          refine pU 2 73 (bl 12 5) (by kernel_rfl) (h := ?_)
          refine pU 5 76 (bl 12 37) (by kernel_rfl) (h := ?_)
          refine pU 7 78 (bl 12 165) (by kernel_rfl) (h := ?_)
          refine tU 1 72 (bl 12 167) (by kernel_rfl) hHeld (hy := by rintro w' ⟨s0, s1, s2, s3, s4⟩; go_simp; with_reducible rfl) (h := ?_)
          refine tU 3 74 (bl 12 175) (by kernel_rfl) hHeld (hy := by rintro w' ⟨s0, s1, s2, s3, s4⟩; go_simp; with_reducible rfl) (h := ?_)
          refine pU 4 75 (bl 12 191) (by kernel_rfl) (h := ?_)
          refine rU 6 77 (bl 12 255) rfl (by kernel_rfl) (mid_if (by rfl) 74 _ rfl Bx rfl _ (bys x.1.f1) 76 _ (fun _ hS => hS.2.2.1) Tryd.underlying74 rfl J1.out) hHeld (h := ?_)
          refine rU 8 79 (bl 12 511) rfl (by kernel_rfl) (mid_if (by rfl) 74 _ rfl g7 rfl _ (bys dp) 76 _ (fun _ hS => hS.2.2.2.1) Tryd.underlying74 rfl J2.out) hHeld (h := ?_)
          refine one_ (i := 9) (N := some 80) (bl 12 1023) rfl rfl (by kernel_rfl) (by decide) (fun K hK => ?_)
          refine goes_ Tryd.func51 (by kernel_rfl) rfl #[.agg (bys x.1.f1).toArray, .agg (bys dp).toArray] (by rfl) rfl rfl (by simp only [List.map_toArray, List.map_cons, List.map_nil]; rfl) ?_
          refine (plus_calls x.1.f1 dp HXS.out.2.2 HDP.out _).mono ?_
          rintro e4 u4 ⟨rfl, hb⟩
          refine ⟨_, rfl, ?_⟩
          obtain ⟨t0, t1, t2, t3, t4⟩ := hHeld
          have t5 := t4.trans (hb.mono t4.size)
          refine hK.out _ _ ⟨(hb.cell (World.block_lt_of_cell? _ _ t0)).trans t0, (hb.cell (World.block_lt_of_cell? _ _ t1)).trans t1, (hb.block _ (Array.getElem?_eq_some_iff.1 t2).1).trans t2, (hb.block _ (Array.getElem?_eq_some_iff.1 t3).1).trans t3, t5⟩ (fun hHeld => ?_)
          clear hK K t0 t1 t2 t3 t4 t5 hb
          refine nU 80 (h := ?_)
          refine pure_ (i := 10) (N := some 81) (v := .agg (.int .i64 ((x.m ^^^ mp : Nat) : Int) :: bys (xorD x.1.f1 dp)).toArray) (a' := ?_) (bl 12 2047) rfl rfl (by kernel_rfl) (fun _ _ _ h => h) (Or.inl ⟨by rfl, ?_⟩) ?_ ?_
          · intro w'
            refine exec_build rfl (vs := #[(0, .int .i64 ((x.m ^^^ mp : Nat) : Int)), (1, .agg (bys (xorD x.1.f1 dp)).toArray)]) ?_ (run_build53 _ _ HLX.out _)
            simp only [List.map_toArray, List.map_cons, List.map_nil]
            rw [← HXOR.out]
            rfl
          rotate_left
          · simp only [Act.put, List.setIfInBounds_toArray, List.set_cons_zero, List.set_cons_succ, i64_w, i32_w]
            rfl
          refine last_ (i := 11) (N := none) (bl 12 4095) rfl rfl (by kernel_rfl) (by decide) (fun K hK => ?_)
          obtain ⟨t0, t1, t2, t3, t4⟩ := hHeld
          refine skip_row (by rfl) rfl 76 _ _ rfl Bx (.int .i64 ((x.m ^^^ mp : Nat) : Int) :: bys (xorD x.1.f1 dp)) _ 76 rfl rfl t2 (by simp only [List.size_toArray, List.length_cons, bys_len, HXS.out.2.2, HLX.out]) J3.out (eq_one _ _) ?_
          intro w1 q1 q2 q3 q4
          refine hK.out _ _ ?_
          refine done_ (by kernel_rfl) ?_
          have h34 := t4.size
          have hq4 : Below w.heap.size u3 w1 := q4 _ _ (by omega) (t4.mono (by omega))
          have ho4 := outC_below (outC_below HO2.out S2.out) t4
          refine HREST2.out _ _ _ _ _ _ _ _ _ _ _ _ _ _ _ _ _ _ _ _ _ _ _ _ _ _ _ _ _ _ _ w1 (x.m ^^^ mp) (xorD x.1.f1 dp) HLX.out ((HK2.out.trans (keeps_of_below S2.out _)).trans ((keeps_of_below t4 _).trans (keeps_of_cells t2 q2 q3 _))) (HB3W.out.trans hq4) ?_ q1 ?_ (outC_write ho4 t2 (by decide) (by decide) (by omega) q2) (by omega) ?_
          · rw [q2 _ (by omega)]; exact t3
          · exact (q2 _ (by omega)).trans (boxed_block (boxed_block HP2.out S2.out) t4)
          · unfold mixE
            rw [if_pos (by simpa [FRow.m] using hbit)]
            rfl
      have hout2 : ∀ K2 : Act → World → Prop, ¬ LetsOut (Exit.then K2 (Exit.then K1 (Exit.inBlock 4 (ownPostG W0.heap.size (Below w.heap.size)
        (fun (pre : List FRow) W => W.heap[g7]? = some (.cells (.int .i64 (mp : Int) :: bys dp).toArray 76 (0, 0)) ∧ Boxed W (g11 + 1) 4 (.bool (insL (mp, dp) (pre.map Subtype.val)).2) ∧ OutC w.heap.size g11 (insL (mp, dp) (pre.map Subtype.val)).1 W ∧ Below w.heap.size w W ∧ W0.heap.size ≤ W.heap.size)
        (fun _ _ _ => False) (pre ++ [x]) U)))) := fun K2 ⟨_, _, h⟩ => h
      have HREST := Lib.hid rest
      clear rest hK1
      refine wpIn_seq_k (fun K2 hK2 => ?_)
      have hout := hout2 K2
      have cP := hbP.cell
      have H7U := Lib.hid h7U
      have HX := Lib.hid hx
      have BP := Lib.hid hbP
      have HO := Lib.hid hOut
      clear h7U hx hbP hOut
      cases pl
      · refine start_in (m := 9) (S := (fun V => V.cell? ⟨g11 + 1, 0, none⟩ = some (.bool false) ∧ V.heap[Bx]? = some (.cells (.int .i64 (x.m : Int) :: bys x.1.f1).toArray 76 (0, 0)) ∧ V.heap[g7]? = some (.cells (.int .i64 (mp : Int) :: bys dp).toArray 76 (0, 0)) ∧ Below U.heap.size U V)) (ds := []) (bl 9 0) (by kernel_rfl) (by rfl) hout rfl rfl ⟨cP, HX.out, H7U.out, (Below.refl _ _).drew⟩ (fun hHeld => ?_)
        refine tU 0 51 (bl 9 1) (by kernel_rfl) hHeld (hy := by rintro w' ⟨s0, s1, s2, s3⟩; go_simp; with_reducible rfl) (h := ?_)
        refine pU 1 52 (bl 9 3) (by kernel_rfl) (h := ?_)
        refine pU 2 53 (bl 9 7) (by kernel_rfl) (h := ?_)
        refine rU 3 54 (bl 9 15) rfl (by kernel_rfl) (row_if (by rfl) 76 _ rfl Bx rfl (.int .i64 (x.m : Int) :: bys x.1.f1) 76 _ (fun _ hS => hS.2.1) Tryd.underlying76 rfl HI17.out) hHeld (h := ?_)
        refine rU 5 56 (bl 9 47) rfl (by kernel_rfl) (row_if (by rfl) 76 _ rfl g7 rfl (.int .i64 (mp : Int) :: bys dp) 76 _ (fun _ hS => hS.2.2.1) Tryd.underlying76 rfl HI7.out) hHeld (h := ?_)
        refine one_ (i := 4) (N := some 55) (bl 9 63) rfl rfl (by kernel_rfl) (by decide) (fun K hK => ?_)
        refine goes_ Tryd.func50 (by kernel_rfl) rfl #[.agg (.int .i64 (x.m : Int) :: bys x.1.f1).toArray] (by rfl) rfl rfl (by simp only [List.map_toArray, List.map_cons, List.map_nil]; rfl) ?_
        refine (leading_calls x.m hmx _ _).mono ?_
        rintro e1 u1 ⟨rfl, hb⟩
        refine ⟨_, rfl, ?_⟩
        obtain ⟨s0, s1, s2, s3⟩ := hHeld
        have tt := s3.trans (hb.mono s3.size)
        refine hK.out _ _ ⟨(hb.cell (World.block_lt_of_cell? _ _ s0)).trans s0, (hb.block _ (Array.getElem?_eq_some_iff.1 s1).1).trans s1, (hb.block _ (Array.getElem?_eq_some_iff.1 s2).1).trans s2, tt⟩ (fun hHeld => ?_)
        clear hK K tt hb s0 s1 s2 s3
        refine nU 55 (h := ?_)
        refine one_ (i := 6) (N := some 57) (bl 9 127) rfl rfl (by kernel_rfl) (by decide) (fun K hK => ?_)
        refine goes_ Tryd.func50 (by kernel_rfl) rfl #[.agg (.int .i64 (mp : Int) :: bys dp).toArray] (by rfl) rfl rfl (by simp only [List.map_toArray, List.map_cons, List.map_nil]; rfl) ?_
        refine (leading_calls mp hmp _ _).mono ?_
        rintro e2 u2 ⟨rfl, hb⟩
        refine ⟨_, rfl, ?_⟩
        obtain ⟨s0, s1, s2, s3⟩ := hHeld
        have tt := s3.trans (hb.mono s3.size)
        refine hK.out _ _ ⟨(hb.cell (World.block_lt_of_cell? _ _ s0)).trans s0, (hb.block _ (Array.getElem?_eq_some_iff.1 s1).1).trans s1, (hb.block _ (Array.getElem?_eq_some_iff.1 s2).1).trans s2, tt⟩ (fun hHeld => ?_)
        clear hK K tt hb s0 s1 s2 s3
        refine nU 57 (h := ?_)
        refine pU 7 58 (bl 9 255) (by kernel_rfl) (h := ?_)
        refine pU 8 59 (bl 9 511) (by kernel_rfl) (h := ?_)
        refine done_ (by kernel_rfl) ?_
        obtain ⟨t0, t1, t2, t3⟩ := hHeld
        have hu2 := t3.size
        have hwu2 : w.heap.size ≤ u2.heap.size := by omega
        refine hK2 _ _ ?_
        by_cases hlt : lead x.m < lead mp
        · refine wpIn_cond_true (by show Value.bool _ = _; congr 1; simp; omega) ?_
          obtain ⟨v, hbv, hSv⟩ := outC_below HO.out t3
          have cO := hbv.cell
          have BV := Lib.hid hbv
          have HSV := Lib.hid hSv
          have T3 := Lib.hid t3
          have T2 := Lib.hid t2
          have T1 := Lib.hid t1
          clear hbv hSv t3 hout hout2
          have hout : ¬ LetsOut (Exit.then K1 (Exit.inBlock 4 (ownPostG W0.heap.size (Below w.heap.size)
            (fun (pre : List FRow) W => W.heap[g7]? = some (.cells (.int .i64 (mp : Int) :: bys dp).toArray 76 (0, 0)) ∧ Boxed W (g11 + 1) 4 (.bool (insL (mp, dp) (pre.map Subtype.val)).2) ∧ OutC w.heap.size g11 (insL (mp, dp) (pre.map Subtype.val)).1 W ∧ Below w.heap.size w W ∧ W0.heap.size ≤ W.heap.size)
            (fun _ _ _ => False) (pre ++ [x]) U))) := fun ⟨_, _, h⟩ => h
          refine start_in (m := 7) (S := (fun V => V.cell? ⟨g11, 0, none⟩ = some v ∧ V.heap[g7]? = some (.cells (.int .i64 (mp : Int) :: bys dp).toArray 76 (0, 0)) ∧ Below u2.heap.size u2 V)) (ds := [4, 5, 6]) (bl 7 0) (by kernel_rfl) (by rfl) hout rfl rfl ⟨cO, t2, (Below.refl _ _).drew⟩ (fun hHeld => ?_)
          refine tU 0 60 (bl 7 1) (by kernel_rfl) hHeld (hy := by rintro w' ⟨s0, s1, s2⟩; go_simp; with_reducible rfl) (h := ?_)
          refine rU 1 61 (bl 7 3) rfl (by kernel_rfl) (row_if (by rfl) 76 _ rfl g7 rfl (.int .i64 (mp : Int) :: bys dp) 76 _ (fun _ hS => hS.2.1) Tryd.underlying76 rfl HI7.out) hHeld (h := ?_)
          refine one_ (i := 2) (N := some 62) (bl 7 7) rfl rfl (by kernel_rfl) (by decide) (fun K hK => ?_)
          refine goes_ Tryd.func49 (by kernel_rfl) rfl #[.agg (.int .i64 (mp : Int) :: bys dp).toArray] (by rfl) rfl rfl (by simp only [List.map_toArray, List.map_cons, List.map_nil]; rfl) ?_
          refine (row_calls (mp : Int) dp HDP.out _).mono ?_
          rintro e u ⟨gr, hg1, rfl, hg3, hb⟩
          refine ⟨_, rfl, ?_⟩
          obtain ⟨s0, s1, s2⟩ := hHeld
          have hgrU : u2.heap.size ≤ gr := Nat.le_trans s2.size hg1
          have t2 := s2.trans (hb.mono s2.size)
          have HG3 := Lib.hid hg3
          refine hK.out _ _ ⟨(hb.cell (World.block_lt_of_cell? _ _ s0)).trans s0, (hb.block _ (Array.getElem?_eq_some_iff.1 s1).1).trans s1, t2⟩ (fun hHeld => ?_)
          clear hK K s0 s1 s2 t2 hb hg1 hg3
          refine nU 62 (h := ?_)
          refine one_ (i := 3) (N := some 63) (bl 7 15) rfl rfl (by kernel_rfl) (by decide) (fun K hK => ?_)
          obtain ⟨s0, s1, s2⟩ := hHeld
          refine event_step (by rfl) (exec_bs rfl (vs := #[(0, .agg #[.int .i64 (mp : Int), .slice (some ⟨gr, 0, none⟩) 16 16])]) (by simp only [List.map_toArray, List.map_cons, List.map_nil]; rfl) (run_bs _ gr u)) ?_
          have HU2 := Lib.hid s2
          have ha := (Below.refl u.heap.size u).alloc (Nat.le_refl _) (.cells #[.int .i64 (mp : Int), .slice (some ⟨gr, 0, none⟩) 16 16] 52)
          refine hK.out _ _ ⟨(ha.cell (World.block_lt_of_cell? _ _ s0)).trans s0, (ha.block _ (Array.getElem?_eq_some_iff.1 s1).1).trans s1, s2.trans (ha.mono s2.size)⟩ (fun hHeld => ?_)
          clear hK K s0 s1 s2 ha
          refine nU 63 (h := ?_)
          refine last_ (i := 4) (N := some 64) (bl 7 31) rfl rfl (by kernel_rfl) (by decide) (fun K hK => ?_)
          have s2 := HU2.out
          have hus := s2.size
          refine app_step (by rfl) (.tmp 60) (.tmp 63) rfl u2 u w.heap.size v (xs0) (mp : Int) dp gr rfl rfl (Kd.S_mono (Kd.S_below (Kd.S_bound HSV.out) s2) (fun k hk => by have := hk.2.2.1; omega)) HG3.out (by omega) HDP.out (s2.mono hwu2) (by omega) (by omega) ?_
          intro v1 w1 h1 h2 h3 h4
          obtain ⟨A', c', rfl⟩ := Kd.R_slice (Kd.S_R h1)
          have bv1 : Boxed w1 g11 23 v := h4 _ _ (boxed_block BV.out s2) (fun cs e => by cases e)
          refine hK.out _ _ ?_
          clear hK K
          refine nU 64 (h := ?_)
          refine last_ (i := 5) (N := none) (bl 7 63) rfl rfl (by kernel_rfl) (by decide) (fun K hK => ?_)
          refine store_step (by rfl) rfl rfl rfl rfl (run_st22 g11 v w1 A' _ c' bv1) ?_
          refine hK.out _ _ ?_
          clear hK K
          have bp1 : Boxed w1 (g11 + 1) 4 (.bool false) := h4 _ _ (boxed_block (boxed_block BP.out T3.out) s2) (fun cs e => by cases e)
          have bp2 := bp1.other (B' := g11) (by omega) (.slice A' (xs0 ++ [(⟨(mp : Int), dp⟩ : S25)]).length c')
          refine last_ (i := 6) (N := none) (bl 7 127) rfl rfl (by kernel_rfl) (by decide) (fun K hK => ?_)
          refine store_step (by rfl) rfl rfl rfl rfl (run_st4 (g11 + 1) (.bool false) _ true bp2) ?_
          refine hK.out _ _ ?_
          refine done_ (by kernel_rfl) ?_
          have hBf : Below w.heap.size u2 ((w1.setCell ⟨g11, 0, none⟩ (.slice A' (xs0 ++ [(⟨(mp : Int), dp⟩ : S25)]).length c')).setCell ⟨g11 + 1, 0, none⟩ (.bool true)) := (h2.setCell (p := ⟨g11, 0, none⟩) hg9 _).setCell (p := ⟨g11 + 1, 0, none⟩) (by simp; omega) _
          have hrow : ∀ (k : Nat) (c : Array Value), k < g11 ∨ g11 + 1 < k → u2.heap[k]? = some (.cells c 76 (0, 0)) → ((w1.setCell ⟨g11, 0, none⟩ (.slice A' (xs0 ++ [(⟨(mp : Int), dp⟩ : S25)]).length c')).setCell ⟨g11 + 1, 0, none⟩ (.bool true)).heap[k]? = some (.cells c 76 (0, 0)) := by
            intro k c hk hc
            rw [Below.heap_setCell _ _ _ _ (by simp; omega), Below.heap_setCell _ _ _ _ (by simp; omega)]
            exact h4 _ _ ((HU2.out.block _ (Array.getElem?_eq_some_iff.1 hc).1).trans hc) (fun cs e => by cases e)
          have hs1 := S_own h1 bv1 (.slice A' (xs0 ++ [(⟨(mp : Int), dp⟩ : S25)]).length c')
          refine HREST.out _ _ _ _ _ _ _ _ _ _ _ _ _ _ _ (xs0 ++ [(⟨(mp : Int), dp⟩ : S25)]) true ((keeps_of_below T3.out _).trans ((((keeps_of_below HU2.out _).trans (keeps_app h3 h4 _)).trans (keeps_set bv1 _ _)).trans (keeps_set bp2 _ _))) ((T3.out.mono hwW).trans hBf) (hrow _ _ (by omega) T2.out) (hrow _ _ (by omega) T1.out) (bp2.set _)
            (outC_write ⟨_, bv1.set _, hs1⟩ bp2 (by decide) (by decide) (by omega) (fun k hk => Below.heap_setCell _ _ _ _ hk)) (by simp; omega) (by rw [World.size_setCell, World.size_setCell]; have := HU2.out.size; omega) ?_
          rw [HSN.out]
          unfold insStep
          rw [if_pos ⟨rfl, hlt⟩]
          simp [rowE]
        · refine wpIn_cond_false (by show Value.bool _ = _; congr 1; simp; omega) (wpIn_skip ?_)
          refine HREST.out _ _ _ _ _ _ _ _ _ _ _ _ _ _ u2 xs0 false (keeps_of_below t3 _) (t3.mono hwW) t2 t1 (boxed_block BP.out t3) (outC_below HO.out t3) (by omega) (by omega) ?_
          rw [HSN.out]
          unfold insStep
          rw [if_neg (fun h => hlt h.2)]
      · refine start_in (m := 9) (S := (fun V => V.cell? ⟨g11 + 1, 0, none⟩ = some (.bool true) ∧ Below U.heap.size U V)) (ds := []) (bl 9 0) (by kernel_rfl) (by rfl) hout rfl rfl ⟨cP, (Below.refl _ _).drew⟩ (fun hHeld => ?_)
        refine tU 0 51 (bl 9 1) (by kernel_rfl) hHeld (hy := by rintro w' ⟨s0, s1⟩; go_simp; with_reducible rfl) (h := ?_)
        refine pU 1 52 (bl 9 3) (by kernel_rfl) (h := ?_)
        refine pU 2 53 (bl 9 7) (by kernel_rfl) (h := ?_)
        refine pV 3 54 (bl 9 15) (by kernel_rfl) (h := ?_)
        refine pV 4 55 (bl 9 31) (by kernel_rfl) (h := ?_)
        refine pV 5 56 (bl 9 63) (by kernel_rfl) (h := ?_)
        refine pV 6 57 (bl 9 127) (by kernel_rfl) (h := ?_)
        refine pV 7 58 (bl 9 255) (by kernel_rfl) (h := ?_)
        refine pU 8 59 (bl 9 511) (by kernel_rfl) (h := ?_)
        refine done_ (by kernel_rfl) ?_
        obtain ⟨t0, t1⟩ := hHeld
        refine hK2 _ _ (wpIn_cond_false rfl (wpIn_skip ?_))
        refine HREST.out _ _ _ _ _ _ _ _ _ _ _ _ _ _ _ xs0 true (keeps_of_below t1 _) (t1.mono hwW) ((t1.block _ (Array.getElem?_eq_some_iff.1 H7U.out).1).trans H7U.out) ((t1.block _ (Array.getElem?_eq_some_iff.1 HX.out).1).trans HX.out) (boxed_block BP.out t1) (outC_below HO.out t1) (by omega) (by have := t1.size; omega) ?_
        rw [HSN.out]
        unfold insStep
        rw [if_neg (fun h => by cases h.1)]
    case done =>
      rintro D xs U hD hxs ⟨h7D, hbP, hOut, hB2, hz2⟩ hKm
      have hx2 : xs.map Subtype.val = zs := by rw [hxs]; exact HFZ.out
      rw [hx2] at hbP hOut
      have hil := insL_len (mp, dp) zs
      generalize hst : insL (mp, dp) zs = st at hbP hOut hil
      obtain ⟨xs0, pl⟩ := st
      simp only at hbP hOut hil
      obtain ⟨v, hbv, hSv⟩ := hOut
      have hwW := hB2.size
      have cO := hbv.cell
      have cP := hbP.cell
      have BV := Lib.hid hbv
      have BP := Lib.hid hbP
      have HSV := Lib.hid hSv
      have H7D := Lib.hid h7D
      have HKm := Lib.hid hKm
      have HST := Lib.hid hst
      have hi17' : (Tryd.prog.info? 76).map (·.size) = some (Value.int .i64 (mp : Int) :: bys dp).length := by rw [HL2.out]; exact size53
      have HI7 := Lib.hid hi17'
      clear hxs hx2 hbv hbP hSv h7D hKm hst hi17' hO b5 hPP h7
      cases pl
      · go_wp2
        refine wp_normal ?_
        refine start_ (n := 6) (S := (fun V => V.cell? ⟨g11, 0, none⟩ = some v ∧ V.heap[g7]? = some (.cells (.int .i64 (mp : Int) :: bys dp).toArray 76 (0, 0)) ∧ Below U.heap.size U V)) (ds := [4, 5]) (bl 6 0) (by kernel_rfl) rfl rfl ⟨cO, H7D.out, (Below.refl _ _).drew⟩ (fun hHeld => ?_)
        refine tU 0 89 (bl 6 1) (by kernel_rfl) hHeld (hy := by rintro w' ⟨s0, s1, s2⟩; go_simp; with_reducible rfl) (h := ?_)
        refine rU 1 90 (bl 6 3) rfl (by kernel_rfl) (row_if (by rfl) 76 _ rfl g7 rfl (.int .i64 (mp : Int) :: bys dp) 76 _ (fun _ hS => hS.2.1) Tryd.underlying76 rfl HI7.out) hHeld (h := ?_)
        refine one_ (i := 2) (N := some 91) (bl 6 7) rfl rfl (by kernel_rfl) (by decide) (fun K hK => ?_)
        refine goes_ Tryd.func49 (by kernel_rfl) rfl #[.agg (.int .i64 (mp : Int) :: bys dp).toArray] (by rfl) rfl rfl (by simp only [List.map_toArray, List.map_cons, List.map_nil]; rfl) ?_
        refine (row_calls (mp : Int) dp HDP.out _).mono ?_
        rintro e u ⟨gr, hg1, rfl, hg3, hb⟩
        refine ⟨_, rfl, ?_⟩
        obtain ⟨s0, s1, s2⟩ := hHeld
        have hgrU : U.heap.size ≤ gr := Nat.le_trans s2.size hg1
        have t2 := s2.trans (hb.mono s2.size)
        have HG3 := Lib.hid hg3
        refine hK.out _ _ ⟨(hb.cell (World.block_lt_of_cell? _ _ s0)).trans s0, (hb.block _ (Array.getElem?_eq_some_iff.1 s1).1).trans s1, t2⟩ (fun hHeld => ?_)
        clear hK K s0 s1 s2 t2 hb hg1 hg3
        refine nU 91 (h := ?_)
        refine one_ (i := 3) (N := some 92) (bl 6 15) rfl rfl (by kernel_rfl) (by decide) (fun K hK => ?_)
        obtain ⟨s0, s1, s2⟩ := hHeld
        refine event_step (by rfl) (exec_bs rfl (vs := #[(0, .agg #[.int .i64 (mp : Int), .slice (some ⟨gr, 0, none⟩) 16 16])]) (by simp only [List.map_toArray, List.map_cons, List.map_nil]; rfl) (run_bs _ gr u)) ?_
        have HU2 := Lib.hid s2
        have ha := (Below.refl u.heap.size u).alloc (Nat.le_refl _) (.cells #[.int .i64 (mp : Int), .slice (some ⟨gr, 0, none⟩) 16 16] 52)
        refine hK.out _ _ ⟨(ha.cell (World.block_lt_of_cell? _ _ s0)).trans s0, (ha.block _ (Array.getElem?_eq_some_iff.1 s1).1).trans s1, s2.trans (ha.mono s2.size)⟩ (fun hHeld => ?_)
        clear hK K s0 s1 s2 ha
        refine nU 92 (h := ?_)
        refine last_ (i := 4) (N := some 93) (bl 6 31) rfl rfl (by kernel_rfl) (by decide) (fun K hK => ?_)
        have s2 := HU2.out
        have hus := s2.size
        refine app_step (by rfl) (.tmp 89) (.tmp 92) rfl U u w.heap.size v (xs0) (mp : Int) dp gr rfl rfl (Kd.S_mono (Kd.S_below (Kd.S_bound HSV.out) s2) (fun k hk => by have := hk.2.2.1; omega)) HG3.out (by omega) HDP.out (s2.mono hwW) (by omega) (by omega) ?_
        intro v1 w1 h1 h2 h3 h4
        obtain ⟨A', c', rfl⟩ := Kd.R_slice (Kd.S_R h1)
        have bv1 : Boxed w1 g11 23 v := h4 _ _ (boxed_block BV.out s2) (fun cs e => by cases e)
        refine hK.out _ _ ?_
        clear hK K
        refine nU 93 (h := ?_)
        refine last_ (i := 5) (N := none) (bl 6 63) rfl rfl (by kernel_rfl) (by decide) (fun K hK => ?_)
        refine store_step (by rfl) rfl rfl rfl rfl (run_st22 g11 v w1 A' _ c' bv1) ?_
        refine hK.out _ _ ?_
        refine done_ (by kernel_rfl) ?_
        have bvf := bv1.set (.slice A' (xs0 ++ [(⟨(mp : Int), dp⟩ : S25)]).length c')
        have hSf := S_own h1 bv1 (.slice A' (xs0 ++ [(⟨(mp : Int), dp⟩ : S25)]).length c')
        have hBf : Below w.heap.size U (w1.setCell ⟨g11, 0, none⟩ (.slice A' (xs0 ++ [(⟨(mp : Int), dp⟩ : S25)]).length c')) := h2.setCell (p := ⟨g11, 0, none⟩) hg9 _
        have hKf : (w1.setCell ⟨g11, 0, none⟩ (.slice A' (xs0 ++ [(⟨(mp : Int), dp⟩ : S25)]).length c')).heap[D]? = some (.deferred (some [])) := by
          rw [Below.heap_setCell _ _ _ _ (by simp; omega)]
          exact h4 _ _ ((HU2.out.block _ (Array.getElem?_eq_some_iff.1 HKm.out).1).trans HKm.out) (fun cs e => by cases e)
        have hans2 : insS (mp, dp) zs = xs0 ++ [(⟨(mp : Int), dp⟩ : S25)] := by
          unfold insS; rw [HST.out]; rfl
        generalize w1.setCell ⟨g11, 0, none⟩ (.slice A' (xs0 ++ [(⟨(mp : Int), dp⟩ : S25)]).length c') = V at *
        have cO2 := bvf.cell
        have HSF := Lib.hid hSf
        have HKF := Lib.hid hKf
        clear hSf hKf bvf h1 h2 h3 h4 bv1 cO cP
        go_wp2
        refine ⟨by simp, .inl ⟨_, _, rfl, run_takeDeferred HKF.out, ?_⟩⟩
        refine ⟨.tuple #[.slice A' (xs0 ++ [(⟨(mp : Int), dp⟩ : S25)]).length c', .bool true, .int .i64 0], by simp [results, Tryd.results34, go_sem], ?_⟩
        rw [HANS.out, hans2]
        exact add_fin HSF.out HKF.out (by omega) (hB2.trans hBf)
      · go_wp2
        have hans2 : insS (mp, dp) zs = xs0 := by
          unfold insS; rw [HST.out]; rfl
        obtain ⟨A', c', rfl⟩ := Kd.R_slice (Kd.S_R HSV.out)
        refine ⟨by simp, .inl ⟨_, _, rfl, run_takeDeferred HKm.out, ?_⟩⟩
        refine ⟨.tuple #[.slice A' xs0.length c', .bool true, .int .i64 0], by simp [results, Tryd.results34, go_sem], ?_⟩
        rw [HANS.out, hans2]
        exact add_fin HSV.out HKm.out (by omega) hB2
    case stop =>
      rintro D c pre W _ _ h _
      exact h.elim
end Go.Proofs.YtknlbeojdmeljaaDoor.H
namespace Go.Proofs.YtknlbeojdmeljaaDoor.P
open Go.RowKit Go.Proofs.YtknlbeojdmeljaaDoorW.PrintWords Go.Proofs.YtknlbeojdmeljaaDoorW.PrintLast Go.Proofs.YtknlbeojdmeljaaDoorW.PrintMore
attribute [local go_sem] max2_int min2_int max_two min_two max_three min_three max_four min_four   -- for this text's walks alone
set_option linter.unusedVariables false
set_option linter.unusedSimpArgs false
def fountain_isSeed.f (a0 : Int) : Option (Bool) := if a0 ≥ 0 then (some (decide (a0 ≤ 1000000000))) else (some false)
set_option maxHeartbeats 8000000 in
set_option maxRecDepth 100000 in
theorem fountain_isSeed.calls (a0 : Int) (r : Bool) (w : World) (h : fountain_isSeed.f a0 = some r) :
    Calls Tryd.prog 29 #[.int .i64 a0] w fun e w' => e = .returned (.bool r) ∧ Drawn0 w w' := by
  have H : (if a0 ≥ 0 then (some (decide (a0 ≤ 1000000000))) else (some false)) = some r := h
  clear h
  by_cases c2 : a0 ≥ 0
  · rw [if_pos c2] at H
    have c2b0 : decide (0 ≤ a0) = true := decide_eq_true c2
    clear c2
    obtain rfl := Option.some.inj H
    go_enter Tryd.func29, Tryd.ntmps29
    go_wp2
    go_ret
    exact ⟨by first | rfl | (simp; done) | (simp [*]; done), by repeat (first | exact Drawn0.refl _ | apply Drawn0.step)⟩
  · rw [if_neg c2] at H
    have c2b0 : decide (0 ≤ a0) = false := decide_eq_false c2
    clear c2
    obtain rfl := Option.some.inj H
    go_enter Tryd.func29, Tryd.ntmps29
    go_wp2
    go_ret
    exact ⟨by first | rfl | (simp; done) | (simp [*]; done), by repeat (first | exact Drawn0.refl _ | apply Drawn0.step)⟩
def fountain_isPage.f (a0 : Int) : Option (Bool) := if a0 ≥ 0 then (some (decide (a0 < 16))) else (some false)
set_option maxHeartbeats 8000000 in
set_option maxRecDepth 100000 in
theorem fountain_isPage.calls (a0 : Int) (r : Bool) (w : World) (h : fountain_isPage.f a0 = some r) :
    Calls Tryd.prog 28 #[.int .i64 a0] w fun e w' => e = .returned (.bool r) ∧ Drawn0 w w' := by
  have H : (if a0 ≥ 0 then (some (decide (a0 < 16))) else (some false)) = some r := h
  clear h
  by_cases c2 : a0 ≥ 0
  · rw [if_pos c2] at H
    have c2b0 : decide (0 ≤ a0) = true := decide_eq_true c2
    clear c2
    obtain rfl := Option.some.inj H
    go_enter Tryd.func28, Tryd.ntmps28
    go_wp2
    go_ret
    exact ⟨by first | rfl | (simp; done) | (simp [*]; done), by repeat (first | exact Drawn0.refl _ | apply Drawn0.step)⟩
  · rw [if_neg c2] at H
    have c2b0 : decide (0 ≤ a0) = false := decide_eq_false c2
    clear c2
    obtain rfl := Option.some.inj H
    go_enter Tryd.func28, Tryd.ntmps28
    go_wp2
    go_ret
    exact ⟨by first | rfl | (simp; done) | (simp [*]; done), by repeat (first | exact Drawn0.refl _ | apply Drawn0.step)⟩
def slices_Index_bool_bool.l0 : Nat → List Bool → Bool → Int → Int → Option (Int)
  | 0, _, _, _, _ => none
  | k + 1, x0, x1, x7, x8 => if x8 < x7 then (if 0 ≤ x8 then (if x8 < (x0.length : Int) then (if (x1 == (rdOf false x0 x8)) = true then (some x8) else (slices_Index_bool_bool.l0 k x0 x1 x7 (wrap64 (x8 + 1)))) else (none)) else (none)) else (some (-1))
def slices_Index_bool_bool.f (k : Nat) (l0 : List Bool) (a1 : Bool) : Option (Int) := slices_Index_bool_bool.l0 k l0 a1 (l0.length : Int) 0
theorem slices_Index_bool_bool.mono_l : ∀ k, (∀ y0 y1 y2 y3, LeO (slices_Index_bool_bool.l0 k y0 y1 y2 y3) (slices_Index_bool_bool.l0 (k + 1) y0 y1 y2 y3))
  | 0 => fun _ _ _ _ r h => by simp [slices_Index_bool_bool.l0] at h
  | k + 1 => by
    have ih0 := slices_Index_bool_bool.mono_l k
    · intro y0 y1 y2 y3
      unfold slices_Index_bool_bool.l0
      repeat' first
      | (with_reducible exact ih0 _ _ _ _)
      | (with_reducible exact LeO.refl _)
      | (with_reducible exact LeO.none _)
      | (with_reducible refine LeO.ite ?_ ?_)
      | (with_reducible refine LeO.bind ?_ (fun _ => ?_))
      | exact ih0 _ _ _ _
      | exact LeO.none _
      | refine LeO.ite ?_ ?_
      | refine LeO.bind ?_ (fun _ => ?_)
theorem slices_Index_bool_bool.mono : ∀ a0 a1 k, LeO (slices_Index_bool_bool.f k a0 a1) (slices_Index_bool_bool.f (k + 1) a0 a1) := by
  intro a0 a1 k
  have ih0 := slices_Index_bool_bool.mono_l k
  unfold slices_Index_bool_bool.f
  repeat' first
      | (with_reducible exact ih0 _ _ _ _)
      | (with_reducible exact LeO.refl _)
      | (with_reducible exact LeO.none _)
      | (with_reducible refine LeO.ite ?_ ?_)
      | (with_reducible refine LeO.bind ?_ (fun _ => ?_))
      | exact ih0 _ _ _ _
      | exact LeO.none _
      | refine LeO.ite ?_ ?_
      | refine LeO.bind ?_ (fun _ => ?_)
set_option maxHeartbeats 8000000 in
set_option maxRecDepth 100000 in
theorem slices_Index_bool_bool.calls (k : Nat) (A0 : Option Addr) (c0 : Nat) (l0 : List Bool) (a1 : Bool) (r : Int) (w : World) (hr0 : Kd.C Kd.bool w A0 l0.length l0) (hc0 : l0.length ≤ c0) (h : slices_Index_bool_bool.f k l0 a1 = some r) :
    Calls Tryd.prog 57 #[.slice A0 l0.length c0, .bool a1] w fun e w' => e = .returned (.int .i64 r) ∧ Drawn0 w w' := by
  have HR0 := Aside0.mk hr0
  have HC0 := Aside0.mk hc0
  clear hr0 hc0
  have H : (slices_Index_bool_bool.l0 k l0 a1 (l0.length : Int) 0) = some r := h
  clear h
  have H' := Aside0.mk H
  clear H
  go_enter Tryd.func57, Tryd.ntmps57
  go_wp2
  go_loopg [8] k (fun kq v8 w' => ∃ (x8_1 : Int), v8 = .int .i64 x8_1 ∧ Aside0 (slices_Index_bool_bool.l0 kq l0 a1 (l0.length : Int) x8_1 = some r) ∧ Aside0 (kq ≤ k) ∧ Drawn0 w w')
  case atStart => exact ⟨(0), (by first | rfl | (simp; done) | (simp [*]; done)), H', ⟨Nat.le_refl _⟩, by repeat (first | exact Drawn0.refl _ | apply Drawn0.step)⟩
  case round =>
    clear H'
    try clear p2
    obtain ⟨x8_1, rfl, HA, HK1, ⟨m1, rfl⟩⟩ := hrel
    cases gk with
    | zero => exact absurd HA.out (by simp [slices_Index_bool_bool.l0])
    | succ k1 =>
      have H := HA.out
      clear HA
      simp only [slices_Index_bool_bool.l0] at H
      by_cases c3 : x8_1 < (l0.length : Int)
      · rw [if_pos c3] at H
        have c3b0 : decide (x8_1 < (l0.length : Int)) = true := decide_eq_true c3
        clear c3
        by_cases c4 : 0 ≤ x8_1
        · rw [if_pos c4] at H
          have c4b0 : decide (0 ≤ x8_1) = true := decide_eq_true c4
          clear c4
          by_cases c5 : x8_1 < (l0.length : Int)
          · rw [if_pos c5] at H
            have c5b0 : decide (x8_1 < (l0.length : Int)) = true := decide_eq_true c5
            clear c5
            by_cases c6 : (a1 == (rdOf false l0 x8_1)) = true
            · rw [if_pos c6] at H
              have c6b0 : (a1 == (rdOf false l0 x8_1)) = true := c6
              (try (have c6b1 : decide (a1 = (rdOf false l0 x8_1)) = true := by simpa using c6))
              (try (have c6b2 : (a1 == (rdOf false l0 x8_1)) = true := by simpa using c6))
              clear c6
              obtain rfl := Option.some.inj H
              have p186 : 0 ≤ (x8_1 : Int) := of_decide_eq_true (by first | (with_reducible assumption) | assumption)
              have q186 : x8_1 < (l0.length : Int) := of_decide_eq_true (by first | (with_reducible assumption) | assumption)
              obtain ⟨ad186, e186, hx186_0⟩ := Kd.at_bool HR0.out x8_1 p186 q186
              cases e186
              replace p186 := eq_true p186
              replace q186 := eq_true q186
              go_wp2
              go_ret
              exact ⟨by first | rfl | (simp; done) | (simp [*]; done), by repeat (first | exact Drawn0.refl _ | apply Drawn0.step)⟩
            · rw [if_neg c6] at H
              have c6b0 : (a1 == (rdOf false l0 x8_1)) = false := by simpa using c6
              (try (have c6b1 : decide (a1 = (rdOf false l0 x8_1)) = false := by simpa using c6))
              (try (have c6b2 : (a1 == (rdOf false l0 x8_1)) = false := by simpa using c6))
              (try (have c6b3 : ¬ (a1 = (rdOf false l0 x8_1)) := by simpa using c6))
              clear c6
              have H' := Aside0.mk H
              clear H
              have p186 : 0 ≤ (x8_1 : Int) := of_decide_eq_true (by first | (with_reducible assumption) | assumption)
              have q186 : x8_1 < (l0.length : Int) := of_decide_eq_true (by first | (with_reducible assumption) | assumption)
              obtain ⟨ad186, e186, hx186_0⟩ := Kd.at_bool HR0.out x8_1 p186 q186
              cases e186
              replace p186 := eq_true p186
              replace q186 := eq_true q186
              go_wp2
              go_roundg k1
              case measure => have := HK1.out; omega
              case rel => exact ⟨(wrap64 (x8_1 + 1)), (by first | rfl | (simp; done) | (simp [*]; done)), H', ⟨by have := HK1.out; omega⟩, by repeat (first | exact Drawn0.refl _ | apply Drawn0.step)⟩
          · rw [if_neg c5] at H
            exact absurd H (by simp)
        · rw [if_neg c4] at H
          exact absurd H (by simp)
      · rw [if_neg c3] at H
        have c3b0 : decide (x8_1 < (l0.length : Int)) = false := decide_eq_false c3
        clear c3
        obtain rfl := Option.some.inj H
        go_wp2
        go_ret
        exact ⟨by first | rfl | (simp; done) | (simp [*]; done), by repeat (first | exact Drawn0.refl _ | apply Drawn0.step)⟩
def slices_Contains_bool_bool.f (k : Nat) (l0 : List Bool) (a1 : Bool) : Option (Bool) := (slices_Index_bool_bool.f k l0 a1).bind fun t187 => (some (decide (t187 ≥ 0)))
theorem slices_Contains_bool_bool.mono : ∀ a0 a1 k, LeO (slices_Contains_bool_bool.f k a0 a1) (slices_Contains_bool_bool.f (k + 1) a0 a1) := by
  intro a0 a1 k
  unfold slices_Contains_bool_bool.f
  repeat' first
      | (with_reducible exact slices_Index_bool_bool.mono _ _ _)
      | (with_reducible exact LeO.refl _)
      | (with_reducible exact LeO.none _)
      | (with_reducible refine LeO.ite ?_ ?_)
      | (with_reducible refine LeO.bind ?_ (fun _ => ?_))
      | exact slices_Index_bool_bool.mono _ _ _
      | exact LeO.none _
      | refine LeO.ite ?_ ?_
      | refine LeO.bind ?_ (fun _ => ?_)
set_option maxHeartbeats 8000000 in
set_option maxRecDepth 100000 in
theorem slices_Contains_bool_bool.calls (k : Nat) (A0 : Option Addr) (c0 : Nat) (l0 : List Bool) (a1 : Bool) (r : Bool) (w : World) (hr0 : Kd.C Kd.bool w A0 l0.length l0) (hc0 : l0.length ≤ c0) (h : slices_Contains_bool_bool.f k l0 a1 = some r) :
    Calls Tryd.prog 38 #[.slice A0 l0.length c0, .bool a1] w fun e w' => e = .returned (.bool r) ∧ Drawn0 w w' := by
  have HR0 := Aside0.mk hr0
  have HC0 := Aside0.mk hc0
  clear hr0 hc0
  have H : ((slices_Index_bool_bool.f k l0 a1).bind fun t187 => (some (decide (t187 ≥ 0)))) = some r := h
  clear h
  replace H := Option.bind_eq_some_iff.mp H
  obtain ⟨t187, A30, H⟩ := H
  replace H : (some (decide (t187 ≥ 0))) = some r := H
  have A3 := Aside0.mk A30
  clear A30
  obtain rfl := Option.some.inj H
  go_enter Tryd.func38, Tryd.ntmps38
  go_wp2_with (first | ((with_reducible refine gate_callee (f := 57) rfl ?_); refine goesL_ (some 7) rfl rfl Tryd.func57 (by kernel_rfl) rfl #[.slice A0 l0.length c0, .bool a1] rfl (by (try simp only [List.map_toArray, List.map_cons, List.map_nil]); first | done | rfl | (simp only [List.length_drop, List.length_take]; rfl)) ?_; (with_reducible refine (slices_Index_bool_bool.calls k _ _ l0 a1 t187 _ ?side1 ?side2 A3.out).mono ?_); (case side1 => repeat (first | exact HR0.out | (with_reducible refine Kd.C_alloc ?_ _) | (with_reducible refine Kd.C_drewN ?_ _) | (with_reducible refine Kd.C_drew ?_))); (case side2 => exact HC0.out); rintro e w' ⟨rfl, ⟨nd, rfl⟩⟩; refine ⟨_, rfl, ?_⟩))
  go_ret
  exact ⟨by first | rfl | (simp; done) | (simp [*]; done), by repeat (first | exact Drawn0.refl _ | apply Drawn0.step)⟩
def slotmeshlaw34_example.l0 : Nat → List Int → Int → Option (List Int)
  | 0, _, _ => none
  | k + 1, x1, x2 => if x2 < 256 then (if x1.length < 140737488355328 then (slotmeshlaw34_example.l0 k (x1 ++ [(wrap64 (Int.tdiv x2 16)) % 256]) (wrap64 (x2 + 1))) else (none)) else (some x1)
def slotmeshlaw34_example.f (k : Nat)  : Option (List Int) := slotmeshlaw34_example.l0 k ([] : List Int) 0
set_option maxHeartbeats 8000000 in
set_option maxRecDepth 100000 in
theorem slotmeshlaw34_example.calls (k : Nat)  (r : List Int) (w : World) (h : slotmeshlaw34_example.f k  = some r) :
    Calls Tryd.prog 27 #[] w fun e w' => ∃ v0_ : Value, e = .returned (v0_) ∧ Kd.R (Kd.int .u8) 5 w' w.heap.size (fun _ => True) v0_ r ∧ Below w.heap.size w w' := by
  have HB := Aside0.mk (Below.refl w.heap.size w)
  have H : (slotmeshlaw34_example.l0 k ([] : List Int) 0) = some r := h
  clear h
  have H' := Aside0.mk H
  clear H
  go_enter Tryd.func27, Tryd.ntmps27
  go_wp2
  go_loopg [1, 2] k (fun kq v1 v2 w' => ∃ (x1_1 : List Int) (x2_1 : Int), v2 = .int .i64 x2_1 ∧ Aside0 (slotmeshlaw34_example.l0 kq x1_1 x2_1 = some r) ∧ Aside0 (kq ≤ k) ∧ Aside0 (Kd.R (Kd.int .u8) 5 w' w.heap.size (fun _ => True) v1 x1_1) ∧ Aside0 (Below w.heap.size w w'))
  case atStart => exact ⟨(([] : List Int)), (0), (by first | rfl | (simp; done) | (simp [*]; done)), H', ⟨Nat.le_refl _⟩, ⟨by first | exact Kd.R_nil _ _ _ _ _ | exact Kd.N_nil _ _ _ _ _ | exact Kd.V_nil _ _ _ _ _ | exact Kd.Q_nil _ _ _ _ _ | exact Kd.S_nil _ _ _ _ _⟩, ⟨by repeat (first | (with_reducible first | exact HB.out | apply below_alloc | apply pw_below_drewN | apply below_drew1) | exact HB.out)⟩⟩
  case round =>
    clear H'
    obtain ⟨x1_1, x2_1, rfl, HA, HK1, HO_1, HB⟩ := hrel
    cases gk with
    | zero => exact absurd HA.out (by simp [slotmeshlaw34_example.l0])
    | succ k1 =>
      have H := HA.out
      clear HA
      simp only [slotmeshlaw34_example.l0] at H
      by_cases c1 : x2_1 < 256
      · rw [if_pos c1] at H
        have c1b0 : decide (x2_1 < 256) = true := decide_eq_true c1
        clear c1
        by_cases c2 : x1_1.length < 140737488355328
        · rw [if_pos c2] at H
          have LMc2 := Aside0.mk c2
          clear c2
          obtain ⟨y193, hy193⟩ : ∃ y_ : List Int, y_ = (x1_1 ++ [(wrap64 (Int.tdiv x2_1 16)) % 256]) := ⟨_, rfl⟩
          replace H : (slotmeshlaw34_example.l0 k1 y193 (wrap64 (x2_1 + 1))) = some r := by first | (rw [hy193]; with_reducible exact H) | (have H2_ := (Option.bind_some _ _).symm.trans H; rw [hy193]; with_reducible exact H2_) | (have H2_ := (Option.bind_some _ _).symm.trans H; with_reducible exact H2_) | with_reducible exact H | (rw [hy193]; exact H) | exact H
          have Ny193 := Aside0.mk hy193
          clear hy193
          have H' := Aside0.mk H
          clear H
          go_wp2_with (first | ((with_reducible refine gate_builtin (b := .append) (xs := #[.tmp 7, .tmp 11]) rfl ?_); at_builtin; refine Kd.R_append (Kd.int .u8) (w0 := w) w.heap.size rfl (.tmp 7) (.tmp 11) 22 5 (.int .u8 0) 1 rfl Tryd.underlying22 info5 rfl (by decide) (by omega) u1 x1_1 ((wrap64 (Int.tdiv x2_1 16)) % 256) [.int .u8 ((wrap64 (Int.tdiv x2_1 16)) % 256)] (fun _ => True) (fun _ => False) rfl rfl ?aP (fun _ hk => hk.elim) ?aF ?aO ?aB ?aS ?aL ?_; (case aP => exact rfl); (case aB => exact (by repeat (first | (with_reducible first | exact HB.out | apply below_alloc | apply pw_below_drewN | apply below_drew1) | exact HB.out))); (case aF => exact (fun _ _ => trivial)); (case aO => exact (by (with_reducible repeat (first | apply Kd.R_alloc | apply Kd.R_drewN | apply Kd.R_drew)); exact HO_1.out)); (case aS => exact (below_size (by repeat (first | (with_reducible first | exact HB.out | apply below_alloc | apply pw_below_drewN | apply below_drew1) | exact HB.out)))); (case aL => have := LMc2.out; omega); intro v194 w3 ho hb hg hat; rw [← Ny193.out] at ho; have n0_ := Aside0.mk (hb); have n1_ := Aside0.mk (ho); clear HB; clear HO_1; have HB := n0_; have HO195 := n1_; clear n0_ n1_; clear ho hb hg hat))
          go_roundg k1
          case measure => have := HK1.out; omega
          case rel => exact ⟨(y193), (wrap64 (x2_1 + 1)), (by first | rfl | (simp; done) | (simp [*]; done)), H', ⟨by have := HK1.out; omega⟩, ⟨by (with_reducible repeat (first | apply Kd.R_alloc | apply Kd.R_drewN | apply Kd.R_drew)); exact HO195.out⟩, ⟨by repeat (first | (with_reducible first | exact HB.out | apply below_alloc | apply pw_below_drewN | apply below_drew1) | exact HB.out)⟩⟩
        · rw [if_neg c2] at H
          exact absurd H (by simp)
      · rw [if_neg c1] at H
        have c1b0 : decide (x2_1 < 256) = false := decide_eq_false c1
        clear c1
        obtain rfl := Option.some.inj H
        go_wp2
        go_ret
        exact ⟨_, by first | rfl | (simp [errW_none, errW_some] <;> rfl) | (simp [*, errW_none, errW_some] <;> rfl), by (with_reducible repeat (first | apply Kd.R_alloc | apply Kd.R_drewN | apply Kd.R_drew)); exact HO_1.out, by repeat (first | (with_reducible first | exact HB.out | apply below_alloc | apply pw_below_drewN | apply below_drew1) | exact HB.out)⟩
def slotmeshref34_Seed.f (a0 : Int) : Option (Bool) := if a0 ≥ 0 then (some (decide (a0 ≤ 1000000000))) else (some false)
set_option maxHeartbeats 8000000 in
set_option maxRecDepth 100000 in
theorem slotmeshref34_Seed.calls (a0 : Int) (r : Bool) (w : World) (h : slotmeshref34_Seed.f a0 = some r) :
    Calls Tryd.prog 25 #[.int .i64 a0] w fun e w' => e = .returned (.bool r) ∧ Drawn0 w w' := by
  have H : (if a0 ≥ 0 then (some (decide (a0 ≤ 1000000000))) else (some false)) = some r := h
  clear h
  by_cases c2 : a0 ≥ 0
  · rw [if_pos c2] at H
    have c2b0 : decide (0 ≤ a0) = true := decide_eq_true c2
    clear c2
    obtain rfl := Option.some.inj H
    go_enter Tryd.func25, Tryd.ntmps25
    go_wp2
    go_ret
    exact ⟨by first | rfl | (simp; done) | (simp [*]; done), by repeat (first | exact Drawn0.refl _ | apply Drawn0.step)⟩
  · rw [if_neg c2] at H
    have c2b0 : decide (0 ≤ a0) = false := decide_eq_false c2
    clear c2
    obtain rfl := Option.some.inj H
    go_enter Tryd.func25, Tryd.ntmps25
    go_wp2
    go_ret
    exact ⟨by first | rfl | (simp; done) | (simp [*]; done), by repeat (first | exact Drawn0.refl _ | apply Drawn0.step)⟩
def slotmeshref06_Half.f (a0 : Int) : Option (Int) := some (wrap64 (a0 / 4294967296))
set_option maxHeartbeats 8000000 in
set_option maxRecDepth 100000 in
theorem slotmeshref06_Half.calls (a0 : Int) (r : Int) (w : World) (h : slotmeshref06_Half.f a0 = some r) :
    Calls Tryd.prog 59 #[.int .u64 a0] w fun e w' => e = .returned (.int .i64 r) ∧ Drawn0 w w' := by
  have H : (some (wrap64 (a0 / 4294967296))) = some r := h
  clear h
  obtain rfl := Option.some.inj H
  go_enter Tryd.func59, Tryd.ntmps59
  go_wp2
  go_ret
  exact ⟨by first | rfl | (simp; done) | (simp [*]; done), by repeat (first | exact Drawn0.refl _ | apply Drawn0.step)⟩
def slotmeshref06_Next.f (a0 : Int) : Option (Int) := some (Go.bits .xor .u64 (IntKind.u64.wrap ((Go.bits .xor .u64 (IntKind.u64.wrap ((Go.bits .xor .u64 (IntKind.u64.wrap (a0 + 11400714819323198485)) ((IntKind.u64.wrap (a0 + 11400714819323198485)) / 1073741824)) * 13787848793156543929)) ((IntKind.u64.wrap ((Go.bits .xor .u64 (IntKind.u64.wrap (a0 + 11400714819323198485)) ((IntKind.u64.wrap (a0 + 11400714819323198485)) / 1073741824)) * 13787848793156543929)) / 134217728)) * 10723151780598845931)) ((IntKind.u64.wrap ((Go.bits .xor .u64 (IntKind.u64.wrap ((Go.bits .xor .u64 (IntKind.u64.wrap (a0 + 11400714819323198485)) ((IntKind.u64.wrap (a0 + 11400714819323198485)) / 1073741824)) * 13787848793156543929)) ((IntKind.u64.wrap ((Go.bits .xor .u64 (IntKind.u64.wrap (a0 + 11400714819323198485)) ((IntKind.u64.wrap (a0 + 11400714819323198485)) / 1073741824)) * 13787848793156543929)) / 134217728)) * 10723151780598845931)) / 2147483648))
set_option maxHeartbeats 8000000 in
set_option maxRecDepth 100000 in
theorem slotmeshref06_Next.calls (a0 : Int) (r : Int) (w : World) (h : slotmeshref06_Next.f a0 = some r) :
    Calls Tryd.prog 60 #[.int .u64 a0] w fun e w' => e = .returned (.int .u64 r) ∧ Drawn0 w w' := by
  have H : (some (Go.bits .xor .u64 (IntKind.u64.wrap ((Go.bits .xor .u64 (IntKind.u64.wrap ((Go.bits .xor .u64 (IntKind.u64.wrap (a0 + 11400714819323198485)) ((IntKind.u64.wrap (a0 + 11400714819323198485)) / 1073741824)) * 13787848793156543929)) ((IntKind.u64.wrap ((Go.bits .xor .u64 (IntKind.u64.wrap (a0 + 11400714819323198485)) ((IntKind.u64.wrap (a0 + 11400714819323198485)) / 1073741824)) * 13787848793156543929)) / 134217728)) * 10723151780598845931)) ((IntKind.u64.wrap ((Go.bits .xor .u64 (IntKind.u64.wrap ((Go.bits .xor .u64 (IntKind.u64.wrap (a0 + 11400714819323198485)) ((IntKind.u64.wrap (a0 + 11400714819323198485)) / 1073741824)) * 13787848793156543929)) ((IntKind.u64.wrap ((Go.bits .xor .u64 (IntKind.u64.wrap (a0 + 11400714819323198485)) ((IntKind.u64.wrap (a0 + 11400714819323198485)) / 1073741824)) * 13787848793156543929)) / 134217728)) * 10723151780598845931)) / 2147483648))) = some r := h
  clear h
  obtain rfl := Option.some.inj H
  go_enter Tryd.func60, Tryd.ntmps60
  go_wp2
  go_ret
  exact ⟨by first | rfl | (simp; done) | (simp [*]; done), by repeat (first | exact Drawn0.refl _ | apply Drawn0.step)⟩
def slotmeshref06_Mask.j0 : Nat → Int → Int → Bool → Option (Int)
  | 0, _, _, _ => none
  | k + 1, x0, x1, x10 => if x10 = true then (some 0) else ((slotmeshref06_Next.f x0).bind fun t199 => ((slotmeshref06_Half.f t199).bind fun t200 => (if 0 ≤ (IntKind.u64.wrap (x1)) then (if (wrap64 ((shl .i64 1 (IntKind.u64.wrap (x1))) - 1)) = 0 then (none) else (some (wrap64 (1 + (Int.tmod t200 (wrap64 ((shl .i64 1 (IntKind.u64.wrap (x1))) - 1))))))) else (none))))
def slotmeshref06_Mask.f (k : Nat) (a0 : Int) (a1 : Int) : Option (Int) := if a1 < 1 then (slotmeshref06_Mask.j0 k a0 a1 true) else (slotmeshref06_Mask.j0 k a0 a1 (decide (a1 > 16)))
set_option maxHeartbeats 8000000 in
set_option maxRecDepth 100000 in
theorem slotmeshref06_Mask.calls (k : Nat) (a0 : Int) (a1 : Int) (r : Int) (w : World) (h : slotmeshref06_Mask.f k a0 a1 = some r) :
    Calls Tryd.prog 41 #[.int .u64 a0, .int .i64 a1] w fun e w' => e = .returned (.int .i64 r) ∧ Drawn0 w w' := by
  have H : (if a1 < 1 then (slotmeshref06_Mask.j0 k a0 a1 true) else (slotmeshref06_Mask.j0 k a0 a1 (decide (a1 > 16)))) = some r := h
  clear h
  have HC3 := Aside0.mk H
  clear H
  go_enter Tryd.func41, Tryd.ntmps41
  go_upto_region 1 with (fail)
  go_cut [10] (fun v10 wc => ∃ (kq : Nat) (x10_2 : Bool), v10 = .bool x10_2 ∧ Aside0 (slotmeshref06_Mask.j0 kq a0 a1 x10_2 = some r) ∧ Aside0 (kq ≤ k) ∧ Drawn0 w wc)
  case first =>
    have H := HC3.out
    clear HC3
    by_cases c4 : a1 < 1
    · rw [if_pos c4] at H
      have c4b0 : decide (a1 < 1) = true := decide_eq_true c4
      clear c4
      (first | rw [c4b0] | (simp only [i64_w, i32_w]; rw [c4b0]) | skip)
      have H' := Aside0.mk H
      clear H
      go_wp2
      go_meet
      case rel => exact ⟨_, (true), (by first | rfl | (simp; done) | (simp [*]; done)), H', ⟨by first | omega | exact Nat.le_refl _⟩, by repeat (first | exact Drawn0.refl _ | apply Drawn0.step)⟩
    · rw [if_neg c4] at H
      have c4b0 : decide (a1 < 1) = false := decide_eq_false c4
      clear c4
      (first | rw [c4b0] | (simp only [i64_w, i32_w]; rw [c4b0]) | skip)
      have H' := Aside0.mk H
      clear H
      go_wp2
      go_meet
      case rel => exact ⟨_, (decide (a1 > 16)), (by first | rfl | (simp; done) | (simp [*]; done)), H', ⟨by first | omega | exact Nat.le_refl _⟩, by repeat (first | exact Drawn0.refl _ | apply Drawn0.step)⟩
  case rest =>
    clear HC3
    try clear p2
    try clear c4
    try clear c4b0
    obtain ⟨kq, x10_2, rfl, HA, HJ2, ⟨mc2, rfl⟩⟩ := hcut
    cases kq with
    | zero => exact absurd HA.out (by simp [slotmeshref06_Mask.j0])
    | succ kj2 =>
      have H := HA.out
      clear HA
      simp only [slotmeshref06_Mask.j0] at H
      by_cases c5 : x10_2 = true
      · subst c5
        have H1 : (some 0) = some r := by rw [if_pos rfl] at H; exact H
        clear H
        have H := H1
        clear H1
        obtain rfl := Option.some.inj H
        go_wp2
        go_ret
        exact ⟨by first | rfl | (simp; done) | (simp [*]; done), by repeat (first | exact Drawn0.refl _ | apply Drawn0.step)⟩
      · replace c5 := Bool.eq_false_iff.mpr c5
        subst c5
        have H1 : ((slotmeshref06_Next.f a0).bind fun t199 => ((slotmeshref06_Half.f t199).bind fun t200 => (if 0 ≤ (IntKind.u64.wrap (a1)) then (if (wrap64 ((shl .i64 1 (IntKind.u64.wrap (a1))) - 1)) = 0 then (none) else (some (wrap64 (1 + (Int.tmod t200 (wrap64 ((shl .i64 1 (IntKind.u64.wrap (a1))) - 1))))))) else (none)))) = some r := by rw [if_neg (show ¬ (false = true) by decide)] at H; exact H
        clear H
        have H := H1
        clear H1
        replace H := Option.bind_eq_some_iff.mp H
        obtain ⟨t199, A60, H⟩ := H
        replace H : ((slotmeshref06_Half.f t199).bind fun t200 => (if 0 ≤ (IntKind.u64.wrap (a1)) then (if (wrap64 ((shl .i64 1 (IntKind.u64.wrap (a1))) - 1)) = 0 then (none) else (some (wrap64 (1 + (Int.tmod t200 (wrap64 ((shl .i64 1 (IntKind.u64.wrap (a1))) - 1))))))) else (none))) = some r := H
        have A6 := Aside0.mk A60
        clear A60
        replace H := Option.bind_eq_some_iff.mp H
        obtain ⟨t200, A70, H⟩ := H
        replace H : (if 0 ≤ (IntKind.u64.wrap (a1)) then (if (wrap64 ((shl .i64 1 (IntKind.u64.wrap (a1))) - 1)) = 0 then (none) else (some (wrap64 (1 + (Int.tmod t200 (wrap64 ((shl .i64 1 (IntKind.u64.wrap (a1))) - 1))))))) else (none)) = some r := H
        have A7 := Aside0.mk A70
        clear A70
        obtain ⟨ji8, hji8⟩ : ∃ j_ : Int, (IntKind.u64.wrap (a1)) = j_ := ⟨_, rfl⟩
        replace H : (if 0 ≤ (ji8) then (if (wrap64 ((shl .i64 1 (ji8)) - 1)) = 0 then (none) else (some (wrap64 (1 + (Int.tmod t200 (wrap64 ((shl .i64 1 (ji8)) - 1))))))) else (none)) = some r := by first | (rw [hji8] at H; exact H) | (simp only [hji8] at H ⊢; exact H)
        (try rw [hji8] at A6)
        (try rw [hji8] at A7)
        by_cases c9 : 0 ≤ (ji8)
        · rw [if_pos c9] at H
          have c9b0 := eq_true c9
          have c9b1 : decide (0 ≤ (ji8)) = true := decide_eq_true c9
          clear c9
          obtain ⟨ji10, hji10⟩ : ∃ j_ : Int, (shl .i64 1 (ji8)) = j_ := ⟨_, rfl⟩
          replace H : (if (wrap64 ((ji10) - 1)) = 0 then (none) else (some (wrap64 (1 + (Int.tmod t200 (wrap64 ((ji10) - 1))))))) = some r := by first | (rw [hji10] at H; exact H) | (simp only [hji10] at H ⊢; exact H)
          (try rw [hji10] at A6)
          (try rw [hji10] at A7)
          have hji10_ : (IntKind.i64.wrap (1 * 2 ^ min (ji8).toNat 64)) = ji10 := hji10
          have hji10z : (ji8) ≤ 64 → (IntKind.i64.wrap (1 * 2 ^ (ji8).toNat)) = ji10 := shl_small hji10
          have hji10u : (IntKind.i64.wrap (2 ^ min (ji8).toNat 64)) = ji10 := by have h_ := hji10_; rw [Int.one_mul] at h_; exact h_
          have hji10v : (ji8) ≤ 64 → (IntKind.i64.wrap (2 ^ (ji8).toNat)) = ji10 := fun hle_ => by have h_ := hji10z hle_; rw [Int.one_mul] at h_; exact h_
          have hji10y : (wrap64 (1 * 2 ^ min (ji8).toNat 64)) = ji10 := (i64_w _).symm.trans hji10_
          have hji10x : (ji8) ≤ 64 → (wrap64 (1 * 2 ^ (ji8).toNat)) = ji10 := fun h_ => (i64_w _).symm.trans (hji10z h_)
          by_cases c11 : (wrap64 ((ji10) - 1)) = 0
          · rw [if_pos c11] at H
            exact absurd H (by simp)
          · rw [if_neg c11] at H
            have c11b0 : ((wrap64 ((ji10) - 1)) == 0) = false := beq_eq_false_iff_ne.mpr c11
            have c11b1 : ((wrap64 ((ji10) - 1)) != 0) = true := bne_iff_ne.mpr c11
            obtain rfl := Option.some.inj H
            go_wp2_with (first | ((with_reducible refine gate_callee (f := 60) rfl ?_); refine goesL_ (some 12) rfl rfl Tryd.func60 (by kernel_rfl) rfl #[.int .u64 a0] rfl (by (try simp only [List.map_toArray, List.map_cons, List.map_nil]); first | done | rfl | (simp only [List.length_drop, List.length_take]; rfl)) ?_; (with_reducible refine (slotmeshref06_Next.calls a0 t199 _ A6.out).mono ?_); rintro e w' ⟨rfl, ⟨nd, rfl⟩⟩; refine ⟨_, rfl, ?_⟩) | ((with_reducible refine gate_callee (f := 59) rfl ?_); refine goesL_ (some 13) rfl rfl Tryd.func59 (by kernel_rfl) rfl #[.int .u64 t199] rfl (by (try simp only [List.map_toArray, List.map_cons, List.map_nil]); first | done | rfl | (simp only [List.length_drop, List.length_take]; rfl)) ?_; (with_reducible refine (slotmeshref06_Half.calls t199 t200 _ A7.out).mono ?_); rintro e w' ⟨rfl, ⟨nd, rfl⟩⟩; refine ⟨_, rfl, ?_⟩))
            go_ret
            exact ⟨by first | rfl | (simp; done) | (simp only [← hji8, ← hji10] <;> (first | rfl | simp)) | (simp [*]; done), by repeat (first | exact Drawn0.refl _ | apply Drawn0.step)⟩
        · rw [if_neg c9] at H
          exact absurd H (by simp)
def slotmeshref34_Set.f (k : Nat) (a0 : Int) : Option (Int) := (slotmeshref34_Seed.f a0).bind fun t201 => (if t201 = true then (if a0 < 16 then (if 0 ≤ (IntKind.u64.wrap (a0)) then (some (shl .i64 1 (IntKind.u64.wrap (a0)))) else (none)) else ((slotmeshref06_Mask.f k (IntKind.u64.wrap (a0)) 16).bind fun t202 => (some t202))) else (some 0))
set_option maxHeartbeats 8000000 in
set_option maxRecDepth 100000 in
theorem slotmeshref34_Set.calls (k : Nat) (a0 : Int) (r : Int) (w : World) (h : slotmeshref34_Set.f k a0 = some r) :
    Calls Tryd.prog 19 #[.int .i64 a0] w fun e w' => e = .returned (.int .i64 r) ∧ Drawn0 w w' := by
  have H : ((slotmeshref34_Seed.f a0).bind fun t201 => (if t201 = true then (if a0 < 16 then (if 0 ≤ (IntKind.u64.wrap (a0)) then (some (shl .i64 1 (IntKind.u64.wrap (a0)))) else (none)) else ((slotmeshref06_Mask.f k (IntKind.u64.wrap (a0)) 16).bind fun t202 => (some t202))) else (some 0))) = some r := h
  clear h
  replace H := Option.bind_eq_some_iff.mp H
  obtain ⟨t201, A20, H⟩ := H
  replace H : (if t201 = true then (if a0 < 16 then (if 0 ≤ (IntKind.u64.wrap (a0)) then (some (shl .i64 1 (IntKind.u64.wrap (a0)))) else (none)) else ((slotmeshref06_Mask.f k (IntKind.u64.wrap (a0)) 16).bind fun t202 => (some t202))) else (some 0)) = some r := H
  have A2 := Aside0.mk A20
  clear A20
  by_cases c3 : t201 = true
  · subst c3
    have H1 : (if a0 < 16 then (if 0 ≤ (IntKind.u64.wrap (a0)) then (some (shl .i64 1 (IntKind.u64.wrap (a0)))) else (none)) else ((slotmeshref06_Mask.f k (IntKind.u64.wrap (a0)) 16).bind fun t202 => (some t202))) = some r := by rw [if_pos rfl] at H; exact H
    clear H
    have H := H1
    clear H1
    by_cases c4 : a0 < 16
    · rw [if_pos c4] at H
      have c4b0 : decide (a0 < 16) = true := decide_eq_true c4
      clear c4
      obtain ⟨ji5, hji5⟩ : ∃ j_ : Int, (IntKind.u64.wrap (a0)) = j_ := ⟨_, rfl⟩
      replace H : (if 0 ≤ (ji5) then (some (shl .i64 1 (ji5))) else (none)) = some r := by first | (rw [hji5] at H; exact H) | (simp only [hji5] at H ⊢; exact H)
      (try rw [hji5] at A2)
      by_cases c6 : 0 ≤ (ji5)
      · rw [if_pos c6] at H
        have c6b0 := eq_true c6
        have c6b1 : decide (0 ≤ (ji5)) = true := decide_eq_true c6
        clear c6
        obtain ⟨ji7, hji7⟩ : ∃ j_ : Int, (shl .i64 1 (ji5)) = j_ := ⟨_, rfl⟩
        replace H : (some ji7) = some r := by first | (rw [hji7] at H; exact H) | (simp only [hji7] at H ⊢; exact H)
        (try rw [hji7] at A2)
        have hji7_ : (IntKind.i64.wrap (1 * 2 ^ min (ji5).toNat 64)) = ji7 := hji7
        have hji7z : (ji5) ≤ 64 → (IntKind.i64.wrap (1 * 2 ^ (ji5).toNat)) = ji7 := shl_small hji7
        have hji7u : (IntKind.i64.wrap (2 ^ min (ji5).toNat 64)) = ji7 := by have h_ := hji7_; rw [Int.one_mul] at h_; exact h_
        have hji7v : (ji5) ≤ 64 → (IntKind.i64.wrap (2 ^ (ji5).toNat)) = ji7 := fun hle_ => by have h_ := hji7z hle_; rw [Int.one_mul] at h_; exact h_
        have hji7y : (wrap64 (1 * 2 ^ min (ji5).toNat 64)) = ji7 := (i64_w _).symm.trans hji7_
        have hji7x : (ji5) ≤ 64 → (wrap64 (1 * 2 ^ (ji5).toNat)) = ji7 := fun h_ => (i64_w _).symm.trans (hji7z h_)
        obtain rfl := Option.some.inj H
        go_enter Tryd.func19, Tryd.ntmps19
        go_wp2_with (first | ((with_reducible refine gate_callee (f := 25) rfl ?_); refine goesL_ (some 5) rfl rfl Tryd.func25 (by kernel_rfl) rfl #[.int .i64 a0] rfl (by (try simp only [List.map_toArray, List.map_cons, List.map_nil]); first | done | rfl | (simp only [List.length_drop, List.length_take]; rfl)) ?_; (with_reducible refine (slotmeshref34_Seed.calls a0 true _ A2.out).mono ?_); rintro e w' ⟨rfl, ⟨nd, rfl⟩⟩; refine ⟨_, rfl, ?_⟩))
        go_ret
        exact ⟨by first | rfl | (simp; done) | (simp only [← hji5, ← hji7] <;> (first | rfl | simp)) | (simp [*]; done), by repeat (first | exact Drawn0.refl _ | apply Drawn0.step)⟩
      · rw [if_neg c6] at H
        exact absurd H (by simp)
    · rw [if_neg c4] at H
      have c4b0 : decide (a0 < 16) = false := decide_eq_false c4
      clear c4
      replace H := Option.bind_eq_some_iff.mp H
      obtain ⟨t202, A80, H⟩ := H
      replace H : (some t202) = some r := H
      have A8 := Aside0.mk A80
      clear A80
      obtain rfl := Option.some.inj H
      go_enter Tryd.func19, Tryd.ntmps19
      go_wp2_with (first | ((with_reducible refine gate_callee (f := 25) rfl ?_); refine goesL_ (some 5) rfl rfl Tryd.func25 (by kernel_rfl) rfl #[.int .i64 a0] rfl (by (try simp only [List.map_toArray, List.map_cons, List.map_nil]); first | done | rfl | (simp only [List.length_drop, List.length_take]; rfl)) ?_; (with_reducible refine (slotmeshref34_Seed.calls a0 true _ A2.out).mono ?_); rintro e w' ⟨rfl, ⟨nd, rfl⟩⟩; refine ⟨_, rfl, ?_⟩) | ((with_reducible refine gate_callee (f := 41) rfl ?_); refine goesL_ (some 15) rfl rfl Tryd.func41 (by kernel_rfl) rfl #[.int .u64 (IntKind.u64.wrap (a0)), .int .i64 16] rfl (by (try simp only [List.map_toArray, List.map_cons, List.map_nil]); first | done | rfl | (simp only [List.length_drop, List.length_take]; rfl)) ?_; (with_reducible refine (slotmeshref06_Mask.calls k (IntKind.u64.wrap (a0)) 16 t202 _ A8.out).mono ?_); rintro e w' ⟨rfl, ⟨nd, rfl⟩⟩; refine ⟨_, rfl, ?_⟩))
      go_ret
      exact ⟨by first | rfl | (simp; done) | (simp [*]; done), by repeat (first | exact Drawn0.refl _ | apply Drawn0.step)⟩
  · replace c3 := Bool.eq_false_iff.mpr c3
    subst c3
    have H1 : (some 0) = some r := by rw [if_neg (show ¬ (false = true) by decide)] at H; exact H
    clear H
    have H := H1
    clear H1
    obtain rfl := Option.some.inj H
    go_enter Tryd.func19, Tryd.ntmps19
    go_wp2_with (first | ((with_reducible refine gate_callee (f := 25) rfl ?_); refine goesL_ (some 5) rfl rfl Tryd.func25 (by kernel_rfl) rfl #[.int .i64 a0] rfl (by (try simp only [List.map_toArray, List.map_cons, List.map_nil]); first | done | rfl | (simp only [List.length_drop, List.length_take]; rfl)) ?_; (with_reducible refine (slotmeshref34_Seed.calls a0 false _ A2.out).mono ?_); rintro e w' ⟨rfl, ⟨nd, rfl⟩⟩; refine ⟨_, rfl, ?_⟩))
    go_ret
    exact ⟨by first | rfl | (simp; done) | (simp [*]; done), by repeat (first | exact Drawn0.refl _ | apply Drawn0.step)⟩
mutual
def slotmeshref34_Encode.j0 : Nat → List Int → Int → Int → Bool → Option (Int × Int × List Int × List Int × Int)
  | 0, _, _, _, _ => none
  | k + 1, x0, x1, x2, x28 => if x28 = true then (some (0, 0, ([] : List Int), ([] : List Int), 1)) else (if 16 ≤ 281474976710656 then ((slotmeshref34_Set.f k x2).bind fun t208 => (slotmeshref34_Encode.l0 k x0 x1 x2 (List.replicate 16 0) t208 0)) else (none))
def slotmeshref34_Encode.l0 : Nat → List Int → Int → Int → List Int → Int → Int → Option (Int × Int × List Int × List Int × Int)
  | 0, _, _, _, _, _, _ => none
  | k + 1, x0, x1, x2, x9, x10, x11 => if x11 < 16 then (if (Int.tmod x10 2) = 1 then (if 0 ≤ (wrap64 (16 * x11)) then (if (wrap64 (16 * x11)) ≤ (wrap64 ((wrap64 (16 * x11)) + 16)) then (if (wrap64 ((wrap64 (16 * x11)) + 16)) ≤ (x0.length : Int) then ((slotmeshref33_Xor.f k x9 ((x0.take ((wrap64 ((wrap64 (16 * x11)) + 16)) : Int).toNat).drop ((wrap64 (16 * x11)) : Int).toNat)).bind fun t210 => (slotmeshref34_Encode.l0 k x0 x1 x2 t210 (wrap64 (Int.tdiv x10 2)) (wrap64 (x11 + 1)))) else (none)) else (none)) else (none)) else (slotmeshref34_Encode.l0 k x0 x1 x2 x9 (wrap64 (Int.tdiv x10 2)) (wrap64 (x11 + 1)))) else (some (x1, x2, x9, ([] : List Int), 0))
end
def slotmeshref34_Encode.f (k : Nat) (l0 : List Int) (a1 : Int) (a2 : Int) : Option (Int × Int × List Int × List Int × Int) := (slotmeshref34_Seed.f a2).bind fun t204 => (if t204 = true then (if (l0.length : Int) = 256 then (if a1 < 0 then (slotmeshref34_Encode.j0 k l0 a1 a2 true) else (slotmeshref34_Encode.j0 k l0 a1 a2 (decide (a1 > 15)))) else (slotmeshref34_Encode.j0 k l0 a1 a2 true)) else (slotmeshref34_Encode.j0 k l0 a1 a2 true))
set_option maxHeartbeats 8000000 in
set_option maxRecDepth 100000 in
theorem slotmeshref34_Encode.calls (k : Nat) (A0 : Option Addr) (c0 : Nat) (l0 : List Int) (a1 : Int) (a2 : Int) (r1 : Int) (r2 : Int) (r3 : List Int) (r4 : List Int) (r5 : Int) (w : World) (hr0 : Kd.C (Kd.int .u8) w A0 l0.length l0) (hc0 : l0.length ≤ c0) (h : slotmeshref34_Encode.f k l0 a1 a2 = some (r1, r2, r3, r4, r5)) :
    Calls Tryd.prog 13 #[.slice A0 l0.length c0, .int .i64 a1, .int .i64 a2] w fun e w' => ∃ v2_ v3_ : Value, e = .returned (.tuple #[.agg #[.int .i64 r1, .int .i64 r2, v2_, v3_], .int .i64 r5]) ∧ Kd.R (Kd.int .u8) 5 w' w.heap.size (fun _ => True) v2_ r3 ∧ Kd.R (Kd.int .u64) 69 w' w.heap.size (fun _ => True) v3_ r4 ∧ Below w.heap.size w w' := by
  have hu26 := Tryd.underlying26
  have HR0 := Aside0.mk hr0
  have HC0 := Aside0.mk hc0
  clear hr0 hc0
  have HB := Aside0.mk (Below.refl w.heap.size w)
  have H : ((slotmeshref34_Seed.f a2).bind fun t204 => (if t204 = true then (if (l0.length : Int) = 256 then (if a1 < 0 then (slotmeshref34_Encode.j0 k l0 a1 a2 true) else (slotmeshref34_Encode.j0 k l0 a1 a2 (decide (a1 > 15)))) else (slotmeshref34_Encode.j0 k l0 a1 a2 true)) else (slotmeshref34_Encode.j0 k l0 a1 a2 true))) = some (r1, r2, r3, r4, r5) := h
  clear h
  replace H := Option.bind_eq_some_iff.mp H
  obtain ⟨t204, A40, H⟩ := H
  replace H : (if t204 = true then (if (l0.length : Int) = 256 then (if a1 < 0 then (slotmeshref34_Encode.j0 k l0 a1 a2 true) else (slotmeshref34_Encode.j0 k l0 a1 a2 (decide (a1 > 15)))) else (slotmeshref34_Encode.j0 k l0 a1 a2 true)) else (slotmeshref34_Encode.j0 k l0 a1 a2 true)) = some (r1, r2, r3, r4, r5) := H
  have A4 := Aside0.mk A40
  clear A40
  have HC5 := Aside0.mk H
  clear H
  go_enter Tryd.func13, Tryd.ntmps13
  go_upto_region 2 with (first | ((with_reducible refine gate_dst (N := 6) rfl ?_); (try (refine gate_guard (by rfl) ?_; dsimp only)); refine box_event ?hg (N := 6) ?hd (cs := #[.int .i64 0, .int .i64 0, .slice none 0 0, .slice none 0 0]) (t := 26) ?hr ?_; (case hd => rfl); (case hg => rfl); (case hr => first | (go_simp; done) | (go_simp; rfl)); intro gb203 hg w6 hbox hb; have n0_ := Aside0.mk (below_step (by repeat (first | (with_reducible first | exact HB.out | apply below_alloc | apply pw_below_drewN | apply below_drew1) | exact HB.out)) hb); have n1_ := Aside0.mk (hbox); have n2_ := Aside0.mk ((by rw [hg]; exact (below_size (by repeat (first | (with_reducible first | exact HB.out | apply below_alloc | apply pw_below_drewN | apply below_drew1) | exact HB.out))) : w.heap.size ≤ gb203)); have n3_ := Aside0.mk ((by rw [hg]; exact (below_size (by repeat (first | (with_reducible first | exact HB.out | apply below_alloc | apply pw_below_drewN | apply below_drew1) | exact HB.out))) : w.heap.size ≤ gb203)); clear HB; have HB := n0_; have BK203 := n1_; have GW203 := n2_; have GE203 := n3_; clear n0_ n1_ n2_ n3_; clear hb hbox hg) | ((with_reducible refine gate_callee (f := 25) rfl ?_); refine goesL_ (some 13) rfl rfl Tryd.func25 (by kernel_rfl) rfl #[.int .i64 a2] rfl (by (try simp only [List.map_toArray, List.map_cons, List.map_nil]); first | done | rfl | (simp only [List.length_drop, List.length_take]; rfl)) ?_; (with_reducible refine (slotmeshref34_Seed.calls a2 t204 _ A4.out).mono ?_); rintro e w' ⟨rfl, ⟨nd, rfl⟩⟩; refine ⟨_, rfl, ?_⟩))
  (try simp only [Act.put, List.setIfInBounds_toArray, List.set_cons_zero, List.set_cons_succ])
  go_cut [28] (fun v28 wc => ∃ (kq : Nat) (x28_4 : Bool), v28 = .bool x28_4 ∧ Aside0 (slotmeshref34_Encode.j0 kq l0 a1 a2 x28_4 = some (r1, r2, r3, r4, r5)) ∧ Aside0 (kq ≤ k) ∧ Aside0 (wc.heap[gb203]? = some (.cells #[.int .i64 0, .int .i64 0, (.slice none 0 0), (.slice none 0 0)] 26 (0, 0))) ∧ Aside0 (Below w.heap.size w wc))
  case first =>
    have H := HC5.out
    clear HC5
    by_cases c7 : t204 = true
    · subst c7
      have H1 : (if (l0.length : Int) = 256 then (if a1 < 0 then (slotmeshref34_Encode.j0 k l0 a1 a2 true) else (slotmeshref34_Encode.j0 k l0 a1 a2 (decide (a1 > 15)))) else (slotmeshref34_Encode.j0 k l0 a1 a2 true)) = some (r1, r2, r3, r4, r5) := by rw [if_pos rfl] at H; exact H
      clear H
      have H := H1
      clear H1
      by_cases c8 : (l0.length : Int) = 256
      · rw [if_pos c8] at H
        have c8b0 : ((l0.length : Int) == 256) = true := beq_iff_eq.mpr c8
        have c8b1 : ((l0.length : Int) != 256) = false := bne_eq_false_iff_eq.mpr c8
        clear c8
        (first | rw [c8b0] | (simp only [i64_w, i32_w]; rw [c8b0]) | skip)
        by_cases c9 : a1 < 0
        · rw [if_pos c9] at H
          have c9b0 : decide (a1 < 0) = true := decide_eq_true c9
          clear c9
          have H' := Aside0.mk H
          clear H
          go_wp2
          go_meet
          case rel => exact ⟨_, (true), (by first | rfl | (simp; done) | (simp [*]; done)), H', ⟨by first | omega | exact Nat.le_refl _⟩, ⟨by (with_reducible repeat (first | refine blk_drewN ?_ _ | refine blk_drew ?_ | refine blk_alloc ?_ _)); exact BK203.out⟩, ⟨by repeat (first | (with_reducible first | exact HB.out | apply below_alloc | apply pw_below_drewN | apply below_drew1 | refine below_set ?_ GE203.out) | exact HB.out)⟩⟩
        · rw [if_neg c9] at H
          have c9b0 : decide (a1 < 0) = false := decide_eq_false c9
          clear c9
          have H' := Aside0.mk H
          clear H
          go_wp2
          go_meet
          case rel => exact ⟨_, (decide (a1 > 15)), (by first | rfl | (simp; done) | (simp [*]; done)), H', ⟨by first | omega | exact Nat.le_refl _⟩, ⟨by (with_reducible repeat (first | refine blk_drewN ?_ _ | refine blk_drew ?_ | refine blk_alloc ?_ _)); exact BK203.out⟩, ⟨by repeat (first | (with_reducible first | exact HB.out | apply below_alloc | apply pw_below_drewN | apply below_drew1 | refine below_set ?_ GE203.out) | exact HB.out)⟩⟩
      · rw [if_neg c8] at H
        have c8b0 : ((l0.length : Int) == 256) = false := beq_eq_false_iff_ne.mpr c8
        have c8b1 : ((l0.length : Int) != 256) = true := bne_iff_ne.mpr c8
        (first | rw [c8b0] | (simp only [i64_w, i32_w]; rw [c8b0]) | skip)
        have H' := Aside0.mk H
        clear H
        go_wp2
        go_meet
        case rel => exact ⟨_, (true), (by first | rfl | (simp; done) | (simp [*]; done)), H', ⟨by first | omega | exact Nat.le_refl _⟩, ⟨by (with_reducible repeat (first | refine blk_drewN ?_ _ | refine blk_drew ?_ | refine blk_alloc ?_ _)); exact BK203.out⟩, ⟨by repeat (first | (with_reducible first | exact HB.out | apply below_alloc | apply pw_below_drewN | apply below_drew1 | refine below_set ?_ GE203.out) | exact HB.out)⟩⟩
    · replace c7 := Bool.eq_false_iff.mpr c7
      subst c7
      have H1 : (slotmeshref34_Encode.j0 k l0 a1 a2 true) = some (r1, r2, r3, r4, r5) := by rw [if_neg (show ¬ (false = true) by decide)] at H; exact H
      clear H
      have H := H1
      clear H1
      have H' := Aside0.mk H
      clear H
      go_wp2
      go_meet
      case rel => exact ⟨_, (true), (by first | rfl | (simp; done) | (simp [*]; done)), H', ⟨by first | omega | exact Nat.le_refl _⟩, ⟨by (with_reducible repeat (first | refine blk_drewN ?_ _ | refine blk_drew ?_ | refine blk_alloc ?_ _)); exact BK203.out⟩, ⟨by repeat (first | (with_reducible first | exact HB.out | apply below_alloc | apply pw_below_drewN | apply below_drew1 | refine below_set ?_ GE203.out) | exact HB.out)⟩⟩
  case rest =>
    clear HC5
    try clear c1
    try clear c2
    try clear p2
    try clear c7
    try clear c8
    try clear c8b0
    try clear c8b1
    try clear c9
    try clear c9b0
    obtain ⟨kq, x28_4, rfl, HA, HJ4, BK203, HB⟩ := hcut
    cases kq with
    | zero => exact absurd HA.out (by simp [slotmeshref34_Encode.j0])
    | succ kj4 =>
      have H := HA.out
      clear HA
      simp only [slotmeshref34_Encode.j0] at H
      by_cases c10 : x28_4 = true
      · subst c10
        have H1 : (some (0, 0, ([] : List Int), ([] : List Int), 1)) = some (r1, r2, r3, r4, r5) := by rw [if_pos rfl] at H; exact H
        clear H
        have H := H1
        clear H1
        simp only [Option.some.injEq, Prod.mk.injEq] at H
        obtain ⟨rfl, rfl, rfl, rfl, rfl⟩ := H
        have hcz11_0 : wc.cell? ⟨gb203, 0, none⟩ = some (.int .i64 0) := (blk_cell BK203.out 0).trans rfl
        have hcz11_1 : wc.cell? ⟨gb203, 1, none⟩ = some (.int .i64 0) := (blk_cell BK203.out 1).trans rfl
        have hcz11_2 : wc.cell? ⟨gb203, 2, none⟩ = some (.slice none 0 0) := (blk_cell BK203.out 2).trans rfl
        have hcz11_3 : wc.cell? ⟨gb203, 3, none⟩ = some (.slice none 0 0) := (blk_cell BK203.out 3).trans rfl
        have hfz11_0 := blk_frozen BK203.out 0
        have hfz11_1 := blk_frozen BK203.out 1
        have hfz11_2 := blk_frozen BK203.out 2
        have hfz11_3 := blk_frozen BK203.out 3
        go_wp2
        refine bodyPost_ret (results_ct rfl _ _ gb203 26 #[.int .i64 0, .int .i64 0, .slice none 0 0, .slice none 0 0] (0, 0) _ rfl (by (with_reducible repeat (first | refine blk_drewN ?_ _ | refine blk_drew ?_ | refine blk_alloc ?_ _)); refine blk_put (cs := #[.int .i64 0, .int .i64 0, .slice none 0 0, .slice none 0 0]) ?_ 3 _ rfl; (with_reducible repeat (first | refine blk_drewN ?_ _ | refine blk_drew ?_ | refine blk_alloc ?_ _)); refine blk_put (cs := #[.int .i64 0, .int .i64 0, .slice none 0 0, .slice none 0 0]) ?_ 2 _ rfl; (with_reducible repeat (first | refine blk_drewN ?_ _ | refine blk_drew ?_ | refine blk_alloc ?_ _)); refine blk_put (cs := #[.int .i64 0, .int .i64 0, .slice none 0 0, .slice none 0 0]) ?_ 1 _ rfl; (with_reducible repeat (first | refine blk_drewN ?_ _ | refine blk_drew ?_ | refine blk_alloc ?_ _)); refine blk_put (cs := #[.int .i64 0, .int .i64 0, .slice none 0 0, .slice none 0 0]) ?_ 0 _ rfl; (with_reducible repeat (first | refine blk_drewN ?_ _ | refine blk_drew ?_ | refine blk_alloc ?_ _)); exact BK203.out) Tryd.underlying26 rfl (by kernel_rfl)) rfl ?_
        exact ⟨_, _, by first | rfl | (simp [errW_none, errW_some] <;> rfl) | (simp [*, errW_none, errW_some] <;> rfl), by first | exact Kd.R_nil _ _ _ _ _ | exact Kd.N_nil _ _ _ _ _ | exact Kd.V_nil _ _ _ _ _ | exact Kd.Q_nil _ _ _ _ _ | exact Kd.S_nil _ _ _ _ _, by first | exact Kd.R_nil _ _ _ _ _ | exact Kd.N_nil _ _ _ _ _ | exact Kd.V_nil _ _ _ _ _ | exact Kd.Q_nil _ _ _ _ _ | exact Kd.S_nil _ _ _ _ _, by repeat (first | (with_reducible first | exact HB.out | apply below_alloc | apply pw_below_drewN | apply below_drew1 | refine below_set ?_ GE203.out) | exact HB.out)⟩
      · replace c10 := Bool.eq_false_iff.mpr c10
        subst c10
        have H1 : (if 16 ≤ 281474976710656 then ((slotmeshref34_Set.f kj4 a2).bind fun t208 => (slotmeshref34_Encode.l0 kj4 l0 a1 a2 (List.replicate 16 0) t208 0)) else (none)) = some (r1, r2, r3, r4, r5) := by rw [if_neg (show ¬ (false = true) by decide)] at H; exact H
        clear H
        have H := H1
        clear H1
        by_cases c12 : 16 ≤ 281474976710656
        · rw [if_pos c12] at H
          have c12b0 := eq_true c12
          have c12b1 : decide (16 ≤ 281474976710656) = true := decide_eq_true c12
          clear c12
          obtain ⟨y205, hy205⟩ : ∃ y_ : List Int, y_ = (List.replicate 16 0) := ⟨_, rfl⟩
          replace H : ((slotmeshref34_Set.f kj4 a2).bind fun t208 => (slotmeshref34_Encode.l0 kj4 l0 a1 a2 y205 t208 0)) = some (r1, r2, r3, r4, r5) := by first | (rw [hy205]; with_reducible exact H) | (have H2_ := (Option.bind_some _ _).symm.trans H; rw [hy205]; with_reducible exact H2_) | (have H2_ := (Option.bind_some _ _).symm.trans H; with_reducible exact H2_) | with_reducible exact H | (rw [hy205]; exact H) | exact H
          have Ny205 := Aside0.mk hy205
          clear hy205
          replace H := Option.bind_eq_some_iff.mp H
          obtain ⟨t208, A130, H⟩ := H
          replace H : (slotmeshref34_Encode.l0 kj4 l0 a1 a2 y205 t208 0) = some (r1, r2, r3, r4, r5) := H
          have A13 := Aside0.mk A130
          clear A130
          have H' := Aside0.mk H
          clear H
          go_wp2_with (first | ((with_reducible refine gate_dst (N := 30) rfl ?_); (try (refine gate_guard (by rfl) ?_; dsimp only)); refine Kd.R_make (Kd.int .u8) _ 5 rfl (N := 30) rfl 22 _ _ rfl 16 rfl rfl Tryd.underlying22 (.int .u8 0) 1 info5 rfl (by decide) (by omega) 0 (ok := fun _ => True) (okp := fun _ => True) rfl (fun _ hk => hk) trivial (by omega) (by omega) (Below.refl _ _) (Nat.le_refl _) ?_; intro v206 w14 ho15 hb hg_ hnew_; clear hg_ hnew_; (first | rw [← Ny205.out] at ho15 | (simp only [Int.reduceToNat] at ho15; rw [← Ny205.out] at ho15)); have n0_ := Aside0.mk (Kd.R_lower ho15 (below_size (by repeat (first | (with_reducible first | exact HB.out | apply below_alloc | apply pw_below_drewN | apply below_drew1 | refine below_set ?_ GE203.out) | exact HB.out)))); have n1_ := Aside0.mk (blk_below (g := gb203) (o := .cells #[.int .i64 0, .int .i64 0, .slice none 0 0, .slice none 0 0] 26 (0, 0)) (by (with_reducible repeat (first | refine blk_drewN ?_ _ | refine blk_drew ?_ | refine blk_alloc ?_ _)); exact BK203.out) hb); have n2_ := Aside0.mk (below_step (by repeat (first | (with_reducible first | exact HB.out | apply below_alloc | apply pw_below_drewN | apply below_drew1 | refine below_set ?_ GE203.out) | exact HB.out)) hb); clear BK203; clear HB; have HO207 := n0_; have BK203 := n1_; have HB := n2_; clear n0_ n1_ n2_; clear hb ho15) | ((with_reducible refine gate_callee (f := 19) rfl ?_); refine goesL_ (some 32) rfl rfl Tryd.func19 (by kernel_rfl) rfl #[.int .i64 a2] rfl (by (try simp only [List.map_toArray, List.map_cons, List.map_nil]); first | done | rfl | (simp only [List.length_drop, List.length_take]; rfl)) ?_; (with_reducible refine (slotmeshref34_Set.calls kj4 a2 t208 _ A13.out).mono ?_); rintro e w' ⟨rfl, ⟨nd, rfl⟩⟩; refine ⟨_, rfl, ?_⟩))
          go_loopg [9, 10, 11] kj4 (fun kq v9 v10 v11 w' => ∃ (x9_2 : List Int) (x10_2 : Int) (x11_2 : Int), v10 = .int .i64 x10_2 ∧ v11 = .int .i64 x11_2 ∧ Aside0 (slotmeshref34_Encode.l0 kq l0 a1 a2 x9_2 x10_2 x11_2 = some (r1, r2, r3, r4, r5)) ∧ Aside0 (kq ≤ kj4) ∧ Aside0 (Kd.R (Kd.int .u8) 5 w' w.heap.size (fun _ => True) v9 x9_2) ∧ Aside0 (w'.heap[gb203]? = some (.cells #[.int .i64 0, .int .i64 0, (.slice none 0 0), (.slice none 0 0)] 26 (0, 0))) ∧ Aside0 (Below w.heap.size w w'))
          case atStart => exact ⟨(y205), (t208), (0), (by first | rfl | (simp; done) | (simp [*]; done)), (by first | rfl | (simp; done) | (simp [*]; done)), H', ⟨Nat.le_refl _⟩, ⟨by (with_reducible repeat (first | apply Kd.R_alloc | apply Kd.R_drewN | apply Kd.R_drew)); exact HO207.out⟩, ⟨by (with_reducible repeat (first | refine blk_drewN ?_ _ | refine blk_drew ?_ | refine blk_alloc ?_ _)); exact BK203.out⟩, ⟨by repeat (first | (with_reducible first | exact HB.out | apply below_alloc | apply pw_below_drewN | apply below_drew1 | refine below_set ?_ GE203.out) | exact HB.out)⟩⟩
          case round =>
            clear H'
            try clear c1
            try clear c2
            try clear p2
            try clear c7
            try clear c8
            try clear c8b0
            try clear c8b1
            try clear c9
            try clear c9b0
            try clear c10
            try clear c12
            try clear c12b0
            try clear c12b1
            try clear c13
            try clear hcz11_0
            try clear hcz11_1
            try clear hcz11_2
            try clear hcz11_3
            try clear hfz11_0
            try clear hfz11_1
            try clear hfz11_2
            try clear hfz11_3
            try clear p2
            obtain ⟨x9_2, x10_2, x11_2, rfl, rfl, HA, HK2, HO_9, BK203, HB⟩ := hrel
            cases gk with
            | zero => exact absurd HA.out (by simp [slotmeshref34_Encode.l0])
            | succ k2 =>
              have H := HA.out
              clear HA
              simp only [slotmeshref34_Encode.l0] at H
              by_cases c16 : x11_2 < 16
              · rw [if_pos c16] at H
                have c16b0 : decide (x11_2 < 16) = true := decide_eq_true c16
                clear c16
                by_cases c17 : (Int.tmod x10_2 2) = 1
                · rw [if_pos c17] at H
                  have c17b0 : ((Int.tmod x10_2 2) == 1) = true := beq_iff_eq.mpr c17
                  have c17b1 : ((Int.tmod x10_2 2) != 1) = false := bne_eq_false_iff_eq.mpr c17
                  clear c17
                  obtain ⟨ji18, hji18⟩ : ∃ j_ : Int, (wrap64 (16 * x11_2)) = j_ := ⟨_, rfl⟩
                  replace H : (if 0 ≤ (ji18) then (if (ji18) ≤ (wrap64 ((ji18) + 16)) then (if (wrap64 ((ji18) + 16)) ≤ (l0.length : Int) then ((slotmeshref33_Xor.f k2 x9_2 ((l0.take ((wrap64 ((ji18) + 16)) : Int).toNat).drop ((ji18) : Int).toNat)).bind fun t210 => (slotmeshref34_Encode.l0 k2 l0 a1 a2 t210 (wrap64 (Int.tdiv x10_2 2)) (wrap64 (x11_2 + 1)))) else (none)) else (none)) else (none)) = some (r1, r2, r3, r4, r5) := by first | (rw [hji18] at H; exact H) | (simp only [hji18] at H ⊢; exact H)
                  have hji18w : (IntKind.i64.wrap (16 * x11_2)) = ji18 := (i64_w _).trans hji18
                  by_cases c19 : 0 ≤ (ji18)
                  · rw [if_pos c19] at H
                    have c19b0 := eq_true c19
                    have c19b1 : decide (0 ≤ (ji18)) = true := decide_eq_true c19
                    clear c19
                    by_cases c20 : (ji18) ≤ (wrap64 ((ji18) + 16))
                    · rw [if_pos c20] at H
                      have c20b0 := eq_true c20
                      have c20b1 : decide ((ji18) ≤ (wrap64 ((ji18) + 16))) = true := decide_eq_true c20
                      by_cases c21 : (wrap64 ((ji18) + 16)) ≤ (l0.length : Int)
                      · rw [if_pos c21] at H
                        have c21b0 := eq_true c21
                        have c21b1 : decide ((wrap64 ((ji18) + 16)) ≤ (l0.length : Int)) = true := decide_eq_true c21
                        replace H := Option.bind_eq_some_iff.mp H
                        obtain ⟨t210, A220, H⟩ := H
                        replace H : (slotmeshref34_Encode.l0 k2 l0 a1 a2 t210 (wrap64 (Int.tdiv x10_2 2)) (wrap64 (x11_2 + 1))) = some (r1, r2, r3, r4, r5) := H
                        have A22 := Aside0.mk A220
                        clear A220
                        have H' := Aside0.mk H
                        clear H
                        obtain ⟨i023, hi023, _, hsz23, _⟩ := info_parts info5
                        obtain ⟨A23, hcut23, hA23, hC23⟩ := print_mid_of (P := Tryd.prog) (Value.int .u8) 0 22 5 .i64 .i64 Tryd.underlying22 hi023 hsz23 A0 c0 l0 (ji18) (wrap64 ((ji18) + 16)) (of_decide_eq_true (by first | (with_reducible assumption) | assumption)) (by first | omega | exact of_decide_eq_true (by first | (with_reducible assumption) | assumption)) (of_decide_eq_true (by first | (with_reducible assumption) | assumption)) HC0.out
                        have HR209 := Aside0.mk (Kd.C_of_reads (h1 := fun _ => rfl) (hA23 _ (Kd.reads_of_C HR0.out)))
                        have HC209 := Aside0.mk hC23
                        clear hA23 hC23 hi023 hsz23
                        obtain ⟨Ao24, co24, eo24⟩ := Kd.R_slice HO_9.out
                        subst eo24
                        go_wp2_with (first | ((with_reducible refine gate_callee (f := 26) rfl ?_); refine goesL_ (some 48) rfl rfl Tryd.func26 (by kernel_rfl) rfl #[.slice Ao24 x9_2.length co24, .slice A23 ((l0.take ((wrap64 ((ji18) + 16)) : Int).toNat).drop ((ji18) : Int).toNat).length (c0 - (ji18).toNat)] rfl (by (try simp only [List.map_toArray, List.map_cons, List.map_nil]); first | done | (rw [show ((l0.take ((wrap64 ((ji18) + 16)) : Int).toNat).drop ((ji18) : Int).toNat).length = ((wrap64 ((ji18) + 16)).toNat - (ji18).toNat) from (by rw [List.length_drop, List.length_take]; have h_ : ((wrap64 ((ji18) + 16)) : Int) ≤ (l0.length : Int) := of_decide_eq_true (by first | (with_reducible assumption) | assumption); omega)] <;> rfl) | (simp only [hji18]; rfl) | rfl | (simp only [List.length_drop, List.length_take]; rfl)) ?_; (with_reducible refine (slotmeshref33_Xor.calls k2 _ _ x9_2 _ _ ((l0.take ((wrap64 ((ji18) + 16)) : Int).toNat).drop ((ji18) : Int).toNat) t210 _ ?side1 ?side2 ?side3 ?side4 A22.out).mono ?_); (case side1 => repeat (first | exact (Kd.R_reads' HO_9.out).2.2 | (with_reducible refine Kd.C_alloc ?_ _) | (with_reducible refine Kd.C_drewN ?_ _) | (with_reducible refine Kd.C_drew ?_))); (case side2 => exact (Kd.R_reads' HO_9.out).2.1); (case side3 => repeat (first | exact (Kd.C_below HR209.out HB.out) | (with_reducible refine Kd.C_alloc ?_ _) | (with_reducible refine Kd.C_drewN ?_ _) | (with_reducible refine Kd.C_drew ?_))); (case side4 => exact HC209.out); rintro e w25 ⟨v211, rfl, ho0, hb⟩; refine ⟨_, rfl, ?_⟩; have n0_ := Aside0.mk (Kd.R_elder' (by (with_reducible repeat (first | apply Kd.R_alloc | apply Kd.R_drewN | apply Kd.R_drew)); exact HO_9.out) (Kd.R_base ho0) hb); have n1_ := Aside0.mk (Kd.R_lower (Kd.R_new' ho0 (Kd.R_lt (by (with_reducible repeat (first | apply Kd.R_alloc | apply Kd.R_drewN | apply Kd.R_drew)); exact HO_9.out))) (below_size (by repeat (first | (with_reducible first | exact HB.out | apply below_alloc | apply pw_below_drewN | apply below_drew1 | refine below_set ?_ GE203.out) | exact HB.out)))); have n2_ := Aside0.mk (blk_below (g := gb203) (o := .cells #[.int .i64 0, .int .i64 0, .slice none 0 0, .slice none 0 0] 26 (0, 0)) (by (with_reducible repeat (first | refine blk_drewN ?_ _ | refine blk_drew ?_ | refine blk_alloc ?_ _)); exact BK203.out) hb); have n3_ := Aside0.mk (below_step (by repeat (first | (with_reducible first | exact HB.out | apply below_alloc | apply pw_below_drewN | apply below_drew1 | refine below_set ?_ GE203.out) | exact HB.out)) hb); clear HO_9; clear BK203; clear HB; have HO_9 := n0_; have HO212 := n1_; have BK203 := n2_; have HB := n3_; clear n0_ n1_ n2_ n3_; (try clear hb); (try clear hb2); (try clear hk); (try clear hi); (try clear ho0)))
                        go_roundg k2
                        case measure => have := HJ4.out; have := HK2.out; omega
                        case rel => exact ⟨(t210), (wrap64 (Int.tdiv x10_2 2)), (wrap64 (x11_2 + 1)), (by first | rfl | (simp; done) | (simp [*]; done)), (by first | rfl | (simp; done) | (simp [*]; done)), H', ⟨by have := HJ4.out; have := HK2.out; omega⟩, ⟨by (with_reducible repeat (first | apply Kd.R_alloc | apply Kd.R_drewN | apply Kd.R_drew)); exact Kd.R_mono HO212.out (fun _ hk => trivial)⟩, ⟨by (with_reducible repeat (first | refine blk_drewN ?_ _ | refine blk_drew ?_ | refine blk_alloc ?_ _)); exact BK203.out⟩, ⟨by repeat (first | (with_reducible first | exact HB.out | apply below_alloc | apply pw_below_drewN | apply below_drew1 | refine below_set ?_ GE203.out) | exact HB.out)⟩⟩
                      · rw [if_neg c21] at H
                        exact absurd H (by simp)
                    · rw [if_neg c20] at H
                      exact absurd H (by simp)
                  · rw [if_neg c19] at H
                    exact absurd H (by simp)
                · rw [if_neg c17] at H
                  have c17b0 : ((Int.tmod x10_2 2) == 1) = false := beq_eq_false_iff_ne.mpr c17
                  have c17b1 : ((Int.tmod x10_2 2) != 1) = true := bne_iff_ne.mpr c17
                  have H' := Aside0.mk H
                  clear H
                  go_wp2
                  go_roundg k2
                  case measure => have := HJ4.out; have := HK2.out; omega
                  case rel => exact ⟨(x9_2), (wrap64 (Int.tdiv x10_2 2)), (wrap64 (x11_2 + 1)), (by first | rfl | (simp; done) | (simp [*]; done)), (by first | rfl | (simp; done) | (simp [*]; done)), H', ⟨by have := HJ4.out; have := HK2.out; omega⟩, ⟨by (with_reducible repeat (first | apply Kd.R_alloc | apply Kd.R_drewN | apply Kd.R_drew)); exact HO_9.out⟩, ⟨by (with_reducible repeat (first | refine blk_drewN ?_ _ | refine blk_drew ?_ | refine blk_alloc ?_ _)); exact BK203.out⟩, ⟨by repeat (first | (with_reducible first | exact HB.out | apply below_alloc | apply pw_below_drewN | apply below_drew1 | refine below_set ?_ GE203.out) | exact HB.out)⟩⟩
              · rw [if_neg c16] at H
                have c16b0 : decide (x11_2 < 16) = false := decide_eq_false c16
                clear c16
                simp only [Option.some.injEq, Prod.mk.injEq] at H
                obtain ⟨rfl, rfl, rfl, rfl, rfl⟩ := H
                obtain ⟨Ao26, co26, eo26⟩ := Kd.R_slice HO_9.out
                subst eo26
                have hcz27_0 : wr.cell? ⟨gb203, 0, none⟩ = some (.int .i64 0) := (blk_cell BK203.out 0).trans rfl
                have hcz27_1 : wr.cell? ⟨gb203, 1, none⟩ = some (.int .i64 0) := (blk_cell BK203.out 1).trans rfl
                have hcz27_2 : wr.cell? ⟨gb203, 2, none⟩ = some (.slice none 0 0) := (blk_cell BK203.out 2).trans rfl
                have hcz27_3 : wr.cell? ⟨gb203, 3, none⟩ = some (.slice none 0 0) := (blk_cell BK203.out 3).trans rfl
                have hfz27_0 := blk_frozen BK203.out 0
                have hfz27_1 := blk_frozen BK203.out 1
                have hfz27_2 := blk_frozen BK203.out 2
                have hfz27_3 := blk_frozen BK203.out 3
                go_wp2
                refine bodyPost_ret (results_ct rfl _ _ gb203 26 #[.int .i64 a1, .int .i64 a2, .slice Ao26 x9_2.length co26, .slice none 0 0] (0, 0) _ rfl (by (with_reducible repeat (first | refine blk_drewN ?_ _ | refine blk_drew ?_ | refine blk_alloc ?_ _)); refine blk_put (cs := #[.int .i64 a1, .int .i64 a2, .slice Ao26 x9_2.length co26, .slice none 0 0]) ?_ 3 _ rfl; (with_reducible repeat (first | refine blk_drewN ?_ _ | refine blk_drew ?_ | refine blk_alloc ?_ _)); refine blk_put (cs := #[.int .i64 a1, .int .i64 a2, .slice none 0 0, .slice none 0 0]) ?_ 2 _ rfl; (with_reducible repeat (first | refine blk_drewN ?_ _ | refine blk_drew ?_ | refine blk_alloc ?_ _)); refine blk_put (cs := #[.int .i64 a1, .int .i64 0, .slice none 0 0, .slice none 0 0]) ?_ 1 _ rfl; (with_reducible repeat (first | refine blk_drewN ?_ _ | refine blk_drew ?_ | refine blk_alloc ?_ _)); refine blk_put (cs := #[.int .i64 0, .int .i64 0, .slice none 0 0, .slice none 0 0]) ?_ 0 _ rfl; (with_reducible repeat (first | refine blk_drewN ?_ _ | refine blk_drew ?_ | refine blk_alloc ?_ _)); exact BK203.out) Tryd.underlying26 rfl (by kernel_rfl)) rfl ?_
                exact ⟨_, _, by first | rfl | (simp [errW_none, errW_some] <;> rfl) | (simp [*, errW_none, errW_some] <;> rfl), by (with_reducible repeat (first | apply Kd.R_alloc | apply Kd.R_drewN | apply Kd.R_drew)); exact Kd.R_mono (Kd.R_far (p := ⟨gb203, 3, none⟩) (Kd.R_far (p := ⟨gb203, 2, none⟩) (Kd.R_far (p := ⟨gb203, 1, none⟩) (Kd.R_far (p := ⟨gb203, 0, none⟩) (Kd.R_types HO_9.out BK203.out (by decide)) (fun _ hk => hk.2) (.int .i64 a1)) (fun _ hk => hk.2) (.int .i64 a2)) (fun _ hk => hk.2) (.slice Ao26 x9_2.length co26)) (fun _ hk => hk.2) (.slice none 0 0)) (fun _ hk => trivial), by first | exact Kd.R_nil _ _ _ _ _ | exact Kd.N_nil _ _ _ _ _ | exact Kd.V_nil _ _ _ _ _ | exact Kd.Q_nil _ _ _ _ _ | exact Kd.S_nil _ _ _ _ _, by repeat (first | (with_reducible first | exact HB.out | apply below_alloc | apply pw_below_drewN | apply below_drew1 | refine below_set ?_ GE203.out) | exact HB.out)⟩
        · rw [if_neg c12] at H
          exact absurd H (by simp)
def slotmeshref34_Valid.f (a0_0 : Int) (a0_1 : Int) (l0_2 : List Int) (l0_3 : List Int) : Option (Bool) := (slotmeshref34_Seed.f a0_1).bind fun t214 => (if t214 = true then (if a0_0 ≥ 0 then (if a0_0 < 16 then (some ((l0_2.length : Int) == 16)) else (some false)) else (some false)) else (some false))
set_option maxHeartbeats 8000000 in
set_option maxRecDepth 100000 in
theorem slotmeshref34_Valid.calls (a0_0 : Int) (a0_1 : Int) (A0_2 : Option Addr) (c0_2 : Nat) (l0_2 : List Int) (A0_3 : Option Addr) (c0_3 : Nat) (l0_3 : List Int) (r : Bool) (w : World) (hr0_2 : Kd.C (Kd.int .u8) w A0_2 l0_2.length l0_2) (hc0_2 : l0_2.length ≤ c0_2) (hr0_3 : Kd.C (Kd.int .u64) w A0_3 l0_3.length l0_3) (hc0_3 : l0_3.length ≤ c0_3) (h : slotmeshref34_Valid.f a0_0 a0_1 l0_2 l0_3 = some r) :
    Calls Tryd.prog 35 #[.agg #[.int .i64 a0_0, .int .i64 a0_1, .slice A0_2 l0_2.length c0_2, .slice A0_3 l0_3.length c0_3]] w fun e w' => e = .returned (.bool r) ∧ Below w.heap.size w w' := by
  have hu26 := Tryd.underlying26
  have HR0_2 := Aside0.mk hr0_2
  have HC0_2 := Aside0.mk hc0_2
  clear hr0_2 hc0_2
  have HR0_3 := Aside0.mk hr0_3
  have HC0_3 := Aside0.mk hc0_3
  clear hr0_3 hc0_3
  have HB := Aside0.mk (Below.refl w.heap.size w)
  have H : ((slotmeshref34_Seed.f a0_1).bind fun t214 => (if t214 = true then (if a0_0 ≥ 0 then (if a0_0 < 16 then (some ((l0_2.length : Int) == 16)) else (some false)) else (some false)) else (some false))) = some r := h
  clear h
  replace H := Option.bind_eq_some_iff.mp H
  obtain ⟨t214, A20, H⟩ := H
  replace H : (if t214 = true then (if a0_0 ≥ 0 then (if a0_0 < 16 then (some ((l0_2.length : Int) == 16)) else (some false)) else (some false)) else (some false)) = some r := H
  have A2 := Aside0.mk A20
  clear A20
  by_cases c3 : t214 = true
  · subst c3
    have H1 : (if a0_0 ≥ 0 then (if a0_0 < 16 then (some ((l0_2.length : Int) == 16)) else (some false)) else (some false)) = some r := by rw [if_pos rfl] at H; exact H
    clear H
    have H := H1
    clear H1
    by_cases c4 : a0_0 ≥ 0
    · rw [if_pos c4] at H
      have c4b0 : decide (0 ≤ a0_0) = true := decide_eq_true c4
      clear c4
      by_cases c5 : a0_0 < 16
      · rw [if_pos c5] at H
        have c5b0 : decide (a0_0 < 16) = true := decide_eq_true c5
        clear c5
        obtain rfl := Option.some.inj H
        go_enter Tryd.func35, Tryd.ntmps35
        go_wp2_with (first | ((with_reducible refine gate_dst (N := 1) rfl ?_); (try (refine gate_guard (by rfl) ?_; dsimp only)); refine box_event ?hg (N := 1) ?hd (cs := #[.int .i64 a0_0, .int .i64 a0_1, .slice A0_2 l0_2.length c0_2, .slice A0_3 l0_3.length c0_3]) (t := 26) ?hr ?_; (case hd => rfl); (case hg => rfl); (case hr => first | (go_simp; done) | (go_simp; rfl)); intro gb213 hg w6 hbox hb; have n0_ := Aside0.mk (below_step (by repeat (first | (with_reducible first | exact HB.out | apply below_alloc | apply pw_below_drewN | apply below_drew1) | exact HB.out)) hb); have n1_ := Aside0.mk (hbox); have n2_ := Aside0.mk ((by rw [hg]; exact (below_size (by repeat (first | (with_reducible first | exact HB.out | apply below_alloc | apply pw_below_drewN | apply below_drew1) | exact HB.out))) : w.heap.size ≤ gb213)); have n3_ := Aside0.mk ((by rw [hg]; exact (below_size (by repeat (first | (with_reducible first | exact HB.out | apply below_alloc | apply pw_below_drewN | apply below_drew1) | exact HB.out))) : w.heap.size ≤ gb213)); clear HB; have HB := n0_; have BK213 := n1_; have GW213 := n2_; have GE213 := n3_; clear n0_ n1_ n2_ n3_; clear hb hbox hg; have hcz7_0 : w6.cell? ⟨gb213, 0, none⟩ = some (.int .i64 a0_0) := (blk_cell BK213.out 0).trans rfl; have hcz7_1 : w6.cell? ⟨gb213, 1, none⟩ = some (.int .i64 a0_1) := (blk_cell BK213.out 1).trans rfl; have hcz7_2 : w6.cell? ⟨gb213, 2, none⟩ = some (.slice A0_2 l0_2.length c0_2) := (blk_cell BK213.out 2).trans rfl; have hcz7_3 : w6.cell? ⟨gb213, 3, none⟩ = some (.slice A0_3 l0_3.length c0_3) := (blk_cell BK213.out 3).trans rfl; have hfz7_0 := blk_frozen BK213.out 0; have hfz7_1 := blk_frozen BK213.out 1; have hfz7_2 := blk_frozen BK213.out 2; have hfz7_3 := blk_frozen BK213.out 3) | ((with_reducible refine gate_callee (f := 25) rfl ?_); refine goesL_ (some 6) rfl rfl Tryd.func25 (by kernel_rfl) rfl #[.int .i64 a0_1] rfl (by (try simp only [List.map_toArray, List.map_cons, List.map_nil]); first | done | rfl | (simp only [List.length_drop, List.length_take]; rfl)) ?_; (with_reducible refine (slotmeshref34_Seed.calls a0_1 true _ A2.out).mono ?_); rintro e w' ⟨rfl, ⟨nd, rfl⟩⟩; refine ⟨_, rfl, ?_⟩))
        go_ret
        exact ⟨by first | rfl | (simp [errW_none, errW_some] <;> rfl) | (simp [*, errW_none, errW_some] <;> rfl), by repeat (first | (with_reducible first | exact HB.out | apply below_alloc | apply pw_below_drewN | apply below_drew1 | refine below_set ?_ GE213.out) | exact HB.out)⟩
      · rw [if_neg c5] at H
        have c5b0 : decide (a0_0 < 16) = false := decide_eq_false c5
        clear c5
        obtain rfl := Option.some.inj H
        go_enter Tryd.func35, Tryd.ntmps35
        go_wp2_with (first | ((with_reducible refine gate_dst (N := 1) rfl ?_); (try (refine gate_guard (by rfl) ?_; dsimp only)); refine box_event ?hg (N := 1) ?hd (cs := #[.int .i64 a0_0, .int .i64 a0_1, .slice A0_2 l0_2.length c0_2, .slice A0_3 l0_3.length c0_3]) (t := 26) ?hr ?_; (case hd => rfl); (case hg => rfl); (case hr => first | (go_simp; done) | (go_simp; rfl)); intro gb213 hg w8 hbox hb; have n0_ := Aside0.mk (below_step (by repeat (first | (with_reducible first | exact HB.out | apply below_alloc | apply pw_below_drewN | apply below_drew1) | exact HB.out)) hb); have n1_ := Aside0.mk (hbox); have n2_ := Aside0.mk ((by rw [hg]; exact (below_size (by repeat (first | (with_reducible first | exact HB.out | apply below_alloc | apply pw_below_drewN | apply below_drew1) | exact HB.out))) : w.heap.size ≤ gb213)); have n3_ := Aside0.mk ((by rw [hg]; exact (below_size (by repeat (first | (with_reducible first | exact HB.out | apply below_alloc | apply pw_below_drewN | apply below_drew1) | exact HB.out))) : w.heap.size ≤ gb213)); clear HB; have HB := n0_; have BK213 := n1_; have GW213 := n2_; have GE213 := n3_; clear n0_ n1_ n2_ n3_; clear hb hbox hg; have hcz9_0 : w8.cell? ⟨gb213, 0, none⟩ = some (.int .i64 a0_0) := (blk_cell BK213.out 0).trans rfl; have hcz9_1 : w8.cell? ⟨gb213, 1, none⟩ = some (.int .i64 a0_1) := (blk_cell BK213.out 1).trans rfl; have hcz9_2 : w8.cell? ⟨gb213, 2, none⟩ = some (.slice A0_2 l0_2.length c0_2) := (blk_cell BK213.out 2).trans rfl; have hcz9_3 : w8.cell? ⟨gb213, 3, none⟩ = some (.slice A0_3 l0_3.length c0_3) := (blk_cell BK213.out 3).trans rfl; have hfz9_0 := blk_frozen BK213.out 0; have hfz9_1 := blk_frozen BK213.out 1; have hfz9_2 := blk_frozen BK213.out 2; have hfz9_3 := blk_frozen BK213.out 3) | ((with_reducible refine gate_callee (f := 25) rfl ?_); refine goesL_ (some 6) rfl rfl Tryd.func25 (by kernel_rfl) rfl #[.int .i64 a0_1] rfl (by (try simp only [List.map_toArray, List.map_cons, List.map_nil]); first | done | rfl | (simp only [List.length_drop, List.length_take]; rfl)) ?_; (with_reducible refine (slotmeshref34_Seed.calls a0_1 true _ A2.out).mono ?_); rintro e w' ⟨rfl, ⟨nd, rfl⟩⟩; refine ⟨_, rfl, ?_⟩))
        go_ret
        exact ⟨by first | rfl | (simp [errW_none, errW_some] <;> rfl) | (simp [*, errW_none, errW_some] <;> rfl), by repeat (first | (with_reducible first | exact HB.out | apply below_alloc | apply pw_below_drewN | apply below_drew1 | refine below_set ?_ GE213.out) | exact HB.out)⟩
    · rw [if_neg c4] at H
      have c4b0 : decide (0 ≤ a0_0) = false := decide_eq_false c4
      clear c4
      obtain rfl := Option.some.inj H
      go_enter Tryd.func35, Tryd.ntmps35
      go_wp2_with (first | ((with_reducible refine gate_dst (N := 1) rfl ?_); (try (refine gate_guard (by rfl) ?_; dsimp only)); refine box_event ?hg (N := 1) ?hd (cs := #[.int .i64 a0_0, .int .i64 a0_1, .slice A0_2 l0_2.length c0_2, .slice A0_3 l0_3.length c0_3]) (t := 26) ?hr ?_; (case hd => rfl); (case hg => rfl); (case hr => first | (go_simp; done) | (go_simp; rfl)); intro gb213 hg w10 hbox hb; have n0_ := Aside0.mk (below_step (by repeat (first | (with_reducible first | exact HB.out | apply below_alloc | apply pw_below_drewN | apply below_drew1) | exact HB.out)) hb); have n1_ := Aside0.mk (hbox); have n2_ := Aside0.mk ((by rw [hg]; exact (below_size (by repeat (first | (with_reducible first | exact HB.out | apply below_alloc | apply pw_below_drewN | apply below_drew1) | exact HB.out))) : w.heap.size ≤ gb213)); have n3_ := Aside0.mk ((by rw [hg]; exact (below_size (by repeat (first | (with_reducible first | exact HB.out | apply below_alloc | apply pw_below_drewN | apply below_drew1) | exact HB.out))) : w.heap.size ≤ gb213)); clear HB; have HB := n0_; have BK213 := n1_; have GW213 := n2_; have GE213 := n3_; clear n0_ n1_ n2_ n3_; clear hb hbox hg; have hcz11_0 : w10.cell? ⟨gb213, 0, none⟩ = some (.int .i64 a0_0) := (blk_cell BK213.out 0).trans rfl; have hcz11_1 : w10.cell? ⟨gb213, 1, none⟩ = some (.int .i64 a0_1) := (blk_cell BK213.out 1).trans rfl; have hcz11_2 : w10.cell? ⟨gb213, 2, none⟩ = some (.slice A0_2 l0_2.length c0_2) := (blk_cell BK213.out 2).trans rfl; have hcz11_3 : w10.cell? ⟨gb213, 3, none⟩ = some (.slice A0_3 l0_3.length c0_3) := (blk_cell BK213.out 3).trans rfl; have hfz11_0 := blk_frozen BK213.out 0; have hfz11_1 := blk_frozen BK213.out 1; have hfz11_2 := blk_frozen BK213.out 2; have hfz11_3 := blk_frozen BK213.out 3) | ((with_reducible refine gate_callee (f := 25) rfl ?_); refine goesL_ (some 6) rfl rfl Tryd.func25 (by kernel_rfl) rfl #[.int .i64 a0_1] rfl (by (try simp only [List.map_toArray, List.map_cons, List.map_nil]); first | done | rfl | (simp only [List.length_drop, List.length_take]; rfl)) ?_; (with_reducible refine (slotmeshref34_Seed.calls a0_1 true _ A2.out).mono ?_); rintro e w' ⟨rfl, ⟨nd, rfl⟩⟩; refine ⟨_, rfl, ?_⟩))
      go_ret
      exact ⟨by first | rfl | (simp [errW_none, errW_some] <;> rfl) | (simp [*, errW_none, errW_some] <;> rfl), by repeat (first | (with_reducible first | exact HB.out | apply below_alloc | apply pw_below_drewN | apply below_drew1 | refine below_set ?_ GE213.out) | exact HB.out)⟩
  · replace c3 := Bool.eq_false_iff.mpr c3
    subst c3
    have H1 : (some false) = some r := by rw [if_neg (show ¬ (false = true) by decide)] at H; exact H
    clear H
    have H := H1
    clear H1
    obtain rfl := Option.some.inj H
    go_enter Tryd.func35, Tryd.ntmps35
    go_wp2_with (first | ((with_reducible refine gate_dst (N := 1) rfl ?_); (try (refine gate_guard (by rfl) ?_; dsimp only)); refine box_event ?hg (N := 1) ?hd (cs := #[.int .i64 a0_0, .int .i64 a0_1, .slice A0_2 l0_2.length c0_2, .slice A0_3 l0_3.length c0_3]) (t := 26) ?hr ?_; (case hd => rfl); (case hg => rfl); (case hr => first | (go_simp; done) | (go_simp; rfl)); intro gb213 hg w12 hbox hb; have n0_ := Aside0.mk (below_step (by repeat (first | (with_reducible first | exact HB.out | apply below_alloc | apply pw_below_drewN | apply below_drew1) | exact HB.out)) hb); have n1_ := Aside0.mk (hbox); have n2_ := Aside0.mk ((by rw [hg]; exact (below_size (by repeat (first | (with_reducible first | exact HB.out | apply below_alloc | apply pw_below_drewN | apply below_drew1) | exact HB.out))) : w.heap.size ≤ gb213)); have n3_ := Aside0.mk ((by rw [hg]; exact (below_size (by repeat (first | (with_reducible first | exact HB.out | apply below_alloc | apply pw_below_drewN | apply below_drew1) | exact HB.out))) : w.heap.size ≤ gb213)); clear HB; have HB := n0_; have BK213 := n1_; have GW213 := n2_; have GE213 := n3_; clear n0_ n1_ n2_ n3_; clear hb hbox hg; have hcz13_0 : w12.cell? ⟨gb213, 0, none⟩ = some (.int .i64 a0_0) := (blk_cell BK213.out 0).trans rfl; have hcz13_1 : w12.cell? ⟨gb213, 1, none⟩ = some (.int .i64 a0_1) := (blk_cell BK213.out 1).trans rfl; have hcz13_2 : w12.cell? ⟨gb213, 2, none⟩ = some (.slice A0_2 l0_2.length c0_2) := (blk_cell BK213.out 2).trans rfl; have hcz13_3 : w12.cell? ⟨gb213, 3, none⟩ = some (.slice A0_3 l0_3.length c0_3) := (blk_cell BK213.out 3).trans rfl; have hfz13_0 := blk_frozen BK213.out 0; have hfz13_1 := blk_frozen BK213.out 1; have hfz13_2 := blk_frozen BK213.out 2; have hfz13_3 := blk_frozen BK213.out 3) | ((with_reducible refine gate_callee (f := 25) rfl ?_); refine goesL_ (some 6) rfl rfl Tryd.func25 (by kernel_rfl) rfl #[.int .i64 a0_1] rfl (by (try simp only [List.map_toArray, List.map_cons, List.map_nil]); first | done | rfl | (simp only [List.length_drop, List.length_take]; rfl)) ?_; (with_reducible refine (slotmeshref34_Seed.calls a0_1 false _ A2.out).mono ?_); rintro e w' ⟨rfl, ⟨nd, rfl⟩⟩; refine ⟨_, rfl, ?_⟩))
    go_ret
    exact ⟨by first | rfl | (simp [errW_none, errW_some] <;> rfl) | (simp [*, errW_none, errW_some] <;> rfl), by repeat (first | (with_reducible first | exact HB.out | apply below_alloc | apply pw_below_drewN | apply below_drew1 | refine below_set ?_ GE213.out) | exact HB.out)⟩
end Go.Proofs.YtknlbeojdmeljaaDoor.P
namespace Go.Proofs.YtknlbeojdmeljaaDoor.H
open Go.RowKit Go.Proofs.YtknlbeojdmeljaaDoorW.PrintWords Go.Proofs.YtknlbeojdmeljaaDoorW.PrintLast Go.Proofs.YtknlbeojdmeljaaDoorW.PrintMore Go.Proofs.YtknlbeojdmeljaaDoor.P
set_option linter.unusedVariables false
set_option linter.unusedSimpArgs false
def shS : Nat → Int
  | 0 => 30
  | 1 => 27
  | _ => 31
def faS : Nat → Int
  | 0 => 13787848793156543929
  | 1 => 10723151780598845931
  | _ => 1
def stepsV : List Value := [.int .i64 (shS 0), .int .u64 (faS 0), .int .i64 (shS 1), .int .u64 (faS 1), .int .i64 (shS 2), .int .u64 (faS 2)]
structure Tabs (w : World) : Prop where
  steps : w.rangeAt 2 0 stepsV
  tz : TabAt 1 Lib.deBruijn64tab w
theorem Tabs.lt {w : World} (h : Tabs w) : 2 < w.heap.size := World.block_lt_of_cell? (a := ⟨2, 0, none⟩) _ (h.steps 0 _ rfl)
theorem Tabs.below {w w1 : World} {B : Nat} (h : Tabs w) (hB : 3 ≤ B) (hb : Below B w w1) : Tabs w1 :=
  ⟨fun j v hv => (hb.cell (p := ⟨2, 0 + j, none⟩) (show 2 < B by omega)).trans (h.steps j v hv), fun j hj => (hb.cell (p := ⟨1, j, none⟩) (show 1 < B by omega)).trans (h.tz j hj)⟩
theorem Tabs.keep {w w1 : World} (h : Tabs w) (hb : Below w.heap.size w w1) : Tabs w1 := h.below h.lt hb
theorem und99 : Tryd.prog.underlying 99 = some (.array 3 98) := by kernel_rfl
theorem size99 : (Tryd.prog.info? 99).map (·.size) = some 6 := by kernel_rfl
theorem size98 : (Tryd.prog.info? 98).map (·.size) = some 2 := by kernel_rfl
theorem run_index99 (a0 a1 a2 a3 a4 a5 : Int) (w : World) : (Instr.index 99 (.agg #[.int .i64 a0, .int .u64 a1, .int .i64 a2, .int .u64 a3, .int .i64 a4, .int .u64 a5]) (.int .i64 0)).run Tryd.prog w = .ok (.agg #[.int .i64 a0, .int .u64 a1]) w ∧
    (Instr.index 99 (.agg #[.int .i64 a0, .int .u64 a1, .int .i64 a2, .int .u64 a3, .int .i64 a4, .int .u64 a5]) (.int .i64 1)).run Tryd.prog w = .ok (.agg #[.int .i64 a2, .int .u64 a3]) w ∧
    (Instr.index 99 (.agg #[.int .i64 a0, .int .u64 a1, .int .i64 a2, .int .u64 a3, .int .i64 a4, .int .u64 a5]) (.int .i64 2)).run Tryd.prog w = .ok (.agg #[.int .i64 a4, .int .u64 a5]) w := ⟨by kernel_rfl, by kernel_rfl, by kernel_rfl⟩
theorem run_ix99 (k : Nat) (hk : k < 3) (w : World) : (Instr.index 99 (.agg stepsV.toArray) (.int .i64 (k : Int))).run Tryd.prog w = .ok (.agg #[.int .i64 (shS k), .int .u64 (faS k)]) w := by
  have h := run_index99 (shS 0) (faS 0) (shS 1) (faS 1) (shS 2) (faS 2) w
  match k, hk with
  | 0, _ => exact h.1
  | 1, _ => exact h.2.1
  | 2, _ => exact h.2.2
def mixS (x sh fa : Int) : Int := IntKind.u64.wrap (Go.bits .xor .u64 x (x / 2 ^ min sh.toNat 64) * fa)
def nextTo (s : Int) : Nat → Int
  | 0 => IntKind.u64.wrap (s + 11400714819323198485)
  | k + 1 => mixS (nextTo s k) (shS k) (faS k)
def nextS (s : Int) : Int := nextTo s 3
set_option maxRecDepth 100000 in
set_option maxHeartbeats 1000000 in
theorem next_calls (s : Int) (w : World) (ht : Tabs w) : Calls Tryd.prog 67 #[.int .u64 s] w fun e w' => e = .returned (.int .u64 (nextS s)) ∧ Below w.heap.size w w' := by
  have HT := Lib.hid ht
  clear ht
  obtain ⟨V, hV⟩ : ∃ V, V = stepsV := ⟨_, rfl⟩
  have HV := Lib.hid hV
  have hl : (Tryd.prog.info? 99).map (·.size) = some V.length := by rw [hV]; exact size99
  have hr : w.rangeAt 2 0 V := by rw [hV]; exact HT.out.steps
  have HL := Lib.hid hl
  have HRG := Lib.hid hr
  clear hV hl hr
  go_enter Tryd.func67, Tryd.ntmps67
  go_wp2_with (first | (refine wpList_load_mid rfl 99 _ rfl 2 0 rfl V _ HRG.out und99 rfl HL.out ?_))
  go_loopw [3, 9] (fun x i wr => ∃ k : Nat, k ≤ 3 ∧ i = .int .i64 (k : Int) ∧ x = .int .u64 (nextTo s k) ∧ Below w.heap.size w wr) (fun _ i _ => 3 - (intOf i).toNat)
  case atStart => exact ⟨0, by omega, rfl, rfl, Below.refl _ _⟩
  case round =>
    obtain ⟨k, hk, rfl, rfl, hB⟩ := hrel
    by_cases hlt : k < 3
    · have hix := run_ix99 k hlt
      have hnx : nextTo s (k + 1) = mixS (nextTo s k) (shS k) (faS k) := rfl
      have hs0 : 0 ≤ shS k := by match k, hlt with | 0, _ => decide | 1, _ => decide | 2, _ => decide
      rw [← HV.out] at hix
      obtain ⟨x, hx⟩ : ∃ x, x = nextTo s k := ⟨_, rfl⟩
      obtain ⟨sh, hsh⟩ : ∃ sh, sh = shS k := ⟨_, rfl⟩
      obtain ⟨fa, hfa⟩ : ∃ fa, fa = faS k := ⟨_, rfl⟩
      rw [← hx, ← hsh, ← hfa] at hnx
      rw [← hsh, ← hfa] at hix
      rw [← hsh] at hs0
      rw [← hx]
      have HN := Lib.hid hnx
      clear hnx hx hsh hfa
      go_wp2_with (first | (refine wpList_store_row rfl 98 _ _ rfl wr.heap.size [.int .i64 sh, .int .u64 fa] _ 98 rfl rfl (blk_new rfl) rfl size98 (by intro v hv; simp at hv; rcases hv with rfl | rfl <;> rfl) ?_; intro w1 g1 g2 g3 g4; have c0 : w1.cell? ⟨wr.heap.size, 0, none⟩ = some (.int .i64 sh) := (cell_of_row w1 _ 0 _ 98 (0, 0) g1).trans rfl; have c1 : w1.cell? ⟨wr.heap.size, 1, none⟩ = some (.int .u64 fa) := (cell_of_row w1 _ 1 _ 98 (0, 0) g1).trans rfl; have G4 := Lib.hid (g4 _ _ hB.size (hB.alloc hB.size _)); clear g1 g2 g3 g4))
      go_region
      all_goals go_wp2
      all_goals go_roundw
      all_goals first
        | exact ⟨k + 1, by omega, by go_num, by rw [HN.out]; rfl, G4.out.drew⟩
        | (simp [intOf]; omega)
    · obtain rfl : k = 3 := by omega
      go_wp2
      go_ret
      exact ⟨rfl, hB⟩
theorem nextS_range (s : Int) : 0 ≤ nextS s ∧ nextS s < 18446744073709551616 := by
  unfold nextS
  show 0 ≤ IntKind.u64.wrap _ ∧ IntKind.u64.wrap _ < _
  rw [IntKind.wrap_u64]
  omega
/-- the upper half of the next state -/
def firstS (s : Int) : Int := nextS s / 4294967296
theorem firstS_range (s : Int) : 0 ≤ firstS s ∧ firstS s < 4294967296 := by
  have := nextS_range s
  unfold firstS
  omega
end Go.Proofs.YtknlbeojdmeljaaDoor.H
namespace Go.Proofs.YtknlbeojdmeljaaDoor.R
open Go.ChangeShapes Go.WideShapes Go.ChangeAt Go.RowKit Go.Proofs.YtknlbeojdmeljaaDoor.H
set_option linter.unusedVariables false
def laid3 : List (String × DataW Unit) := [("math/bits.deBruijn32tab", Rows.laid_math_bits_deBruijn32tab), ("math/bits.deBruijn64tab", Rows.laid_math_bits_deBruijn64tab), ("slotmesh/random.steps", Rows.laid_slotmesh_random_steps)]
theorem g64 : Tryd.prog.globalNamed "math/bits.deBruijn64tab" = some 1 := by kernel_rfl
theorem gSt : Tryd.prog.globalNamed "slotmesh/random.steps" = some 2 := by kernel_rfl
theorem t64 : (Tryd.prog.globals[1]?).map (·.type) = some 93 := by kernel_rfl
theorem und93 : Tryd.prog.underlying 93 = some (.array 64 5) := by kernel_rfl
theorem cell93 : Tryd.prog.cellsOf 93 = 64 := by kernel_rfl
theorem cell3' : Tryd.prog.cellsOf 3 = 1 := by kernel_rfl
theorem cell69 : Tryd.prog.cellsOf 69 = 1 := by kernel_rfl
theorem tSt : (Tryd.prog.globals[2]?).map (·.type) = some 99 := by kernel_rfl
theorem cell5' : Tryd.prog.cellsOf 5 = 1 := by kernel_rfl
theorem cell98 : Tryd.prog.cellsOf 98 = 2 := by kernel_rfl
theorem cell99 : Tryd.prog.cellsOf 99 = 6 := by kernel_rfl
theorem tab64 {H : Type} : (Rows.laid_math_bits_deBruijn64tab : DataW H) = Lib.tabData .u8 (Lib.deBruijn64tab.map Int.ofNat) := rfl
/-- A world that meets the condition: the heap that the door's own run leaves. -/
theorem door_met (os : Os) (args : Array Value) : laidMetH Tryd.prog laid3 ((World.doorLaid Tryd.prog 27 os).forCall (fun _ _ => 0) ⟨#[], args, []⟩).memory :=
  laidMetH_of_parts3 (fuel := 8) (laidMet_of_run' 8 (by kernel_rfl) (by kernel_rfl)) (by kernel_rfl) (by kernel_rfl)
theorem step_cells {W : World} {m : Nat} {cs : List Value} {a b : Int} {p : List MemPlace} (h : DataW.trod (fun _ => ()) Tryd.prog W 0 (fun _ => true) false m 98 cs = some (.agg [.lit (.int .i64 a), .lit (.int .u64 b)], p)) : cs = [.int .i64 a, .int .u64 b] := by
  obtain ⟨y0, y1, n, hx, hl, h0, h1⟩ := trod_struct2 Tryd.underlying98 h
  simp only [cell3', cell69] at h0 h1
  rw [cell98] at hl
  obtain ⟨a', e0, d0, _⟩ := DataW.trod_int Tryd.underlying3 h0
  obtain ⟨b', e1, d1, _⟩ := DataW.trod_int Tryd.underlying69 h1
  simp only [Prod.mk.injEq, DataW.agg.injEq, List.cons.injEq, and_true] at hx
  rw [d0, d1] at hx
  match cs, hl with
  | [x0, x1], _ =>
    simp at e0 e1
    obtain ⟨⟨hx0, hx1⟩, _⟩ := hx
    simp at hx0 hx1
    rw [e0, e1, hx0, hx1]
theorem tabs_of_laid {W : World} (h : laidMetH Tryd.prog laid3 W) : Tabs W := by
  rw [MakeChecks.laidMetH_plain _ _ _ (by kernel_rfl)] at h
  obtain ⟨ps, ⟨g0, t0, cs0, f0, p0, q0, hg0, ht0, hv0, hd0, ⟨g1, t1, cs1, f1, p1, q1, hg1, ht1, hv1, hd1, ⟨g2, t2, cs2, f2, p2, q2, hg2, ht2, hv2, hd2, _, _⟩, _⟩, _⟩, _, _⟩ := h
  obtain rfl := Option.some.inj (g64.symm.trans hg1)
  obtain rfl := Option.some.inj (gSt.symm.trans hg2)
  obtain rfl := Option.some.inj (t64.symm.trans ht1)
  obtain rfl := Option.some.inj (tSt.symm.trans ht2)
  refine ⟨?_, ?_⟩
  · obtain ⟨xs, m1, rfl, hx1, hlen, hn3, hel⟩ := DataW.trod_array und99 hd2
    rw [cell98] at hel
    rw [cell99] at hlen
    have h0 := hel 0 (by decide)
    have h1 := hel 1 (by decide)
    have h2 := hel 2 (by decide)
    have hcells : cs2.toList = stepsV := by
      match xs, hn3, hx1, h0, h1, h2 with
      | [x0, x1, x2], _, hx1, h0, h1, h2 =>
        simp only [Prod.mk.injEq, Rows.laid_slotmesh_random_steps, DataW.agg.injEq, List.map_cons, List.map_nil, List.cons.injEq, and_true] at hx1
        obtain ⟨⟨a0, a1, a2⟩, _⟩ := hx1
        obtain ⟨x00, x01⟩ := x0
        obtain ⟨x10, x11⟩ := x1
        obtain ⟨x20, x21⟩ := x2
        simp only at a0 a1 a2
        subst a0 a1 a2
        have k0 := step_cells h0
        have k1 := step_cells h1
        have k2 := step_cells h2
        match hc : cs2.toList, hlen with
        | [c0, c1, c2, c3, c4, c5], _ =>
          rw [hc] at k0 k1 k2
          simp at k0 k1 k2
          obtain ⟨rfl, rfl⟩ := k0
          obtain ⟨rfl, rfl⟩ := k1
          obtain ⟨rfl, rfl⟩ := k2
          rfl
    intro j v hj
    have := World.var?_cell hg2 hv2 (0 + j)
    rw [this, ← hj, Nat.zero_add]
    rw [← hcells]
    simp
  · rw [tab64] at hd1
    have hc := Lib.cells_of_tab und93 Tryd.underlying5 cell5' cell93 hd1
    intro j hj
    have := World.var?_cell hg1 hv1 j
    rw [this]
    obtain ⟨l⟩ := cs1
    simp only at hc
    subst hc
    simp [List.getD, hj]
end Go.Proofs.YtknlbeojdmeljaaDoor.R
