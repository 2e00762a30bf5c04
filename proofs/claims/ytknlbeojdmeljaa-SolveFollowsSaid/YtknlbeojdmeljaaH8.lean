import Derived.Test.YtknlbeojdmeljaaH7
import Derived.Test.YtknlbeojdmeljaaWApart
import Derived.Test.YtknlbeojdmeljaaWEqStruct
namespace Go.Proofs.Ytknlbeojdmeljaa.H
open Go.RowKit Go.Proofs.YtknlbeojdmeljaaW.PrintWords Go.Proofs.YtknlbeojdmeljaaW.PrintLast Go.Proofs.YtknlbeojdmeljaaW.PrintMore Go.Proofs.Ytknlbeojdmeljaa.P
set_option linter.unusedVariables false
set_option linter.unusedSimpArgs false

def mixE (e : Nat × List Int) (r : S25) : S25 := if r.f0.toNat &&& lead e.1 ≠ 0 then ⟨((r.f0.toNat ^^^ e.1 : Nat) : Int), xorD r.f1 e.2⟩ else r
def rowE (e : Nat × List Int) : S25 := ⟨(e.1 : Int), e.2⟩
def insStep (e : Nat × List Int) (s : List S25 × Bool) (r : S25) : List S25 × Bool :=
  if s.2 = false ∧ lead r.f0.toNat < lead e.1 then (s.1 ++ [rowE e, mixE e r], true) else (s.1 ++ [mixE e r], s.2)
def insL (e : Nat × List Int) (l : List S25) : List S25 × Bool := l.foldl (insStep e) ([], false)
def insS (e : Nat × List Int) (l : List S25) : List S25 := if (insL e l).2 = true then (insL e l).1 else (insL e l).1 ++ [rowE e]
def addS (l : List S25) (m : Int) (d : List Int) : List S25 × Bool × Int :=
  if validS l = false ∨ fineB m d = false then ([], false, 1)
  else if redS l (m.toNat, d) = (0, z16) then (l, false, 0)
  else if (redS l (m.toNat, d)).1 = 0 then ([], false, 12)
  else (insS (redS l (m.toNat, d)) l, true, 0)

theorem all_range_int : ∀ (xs ys : List Int), xs.length = ys.length → ((List.range xs.length).all fun i => xs.getD i 0 == ys.getD i 0) = (xs == ys)
  | [], [], _ => rfl
  | x :: xs, y :: ys, h => by
    have ih := all_range_int xs ys (by simpa using h)
    rw [List.length_cons, List.range_succ_eq_map, List.all_cons, List.all_map]
    simp only [List.getD_cons_zero, Function.comp_def, List.getD_cons_succ, ih]
    simp [List.cons_beq_cons]
  | [], _ :: _, h => by simp at h
  | _ :: _, [], h => by simp at h
theorem equalIn_bys {P : Program} (w : World) (d : Nat) (t e : TypeId) (n : Nat) (ht : P.underlying t = some (.array n e)) (he : P.underlying e = some (.int .u8)) (hsz : ∀ w, (sizeOf e).run P w = .ok 1 w)
    (xs ys : List Int) (hx : xs.length = n) (hy : ys.length = n) :
    (Op.equalIn (d + 2) t (.agg (bys xs).toArray) (.agg (bys ys).toArray)).run P w = .ok (xs == ys) w := by
  rw [← all_range_int xs ys (hx.trans hy.symm), hx, List.range_eq_range', Op.equalIn]
  simp only [Sem.run_bind, run_underlying ht, Result.andThen_ok, hsz, Std.Legacy.Range.forIn_eq_forIn_range', Std.Legacy.Range.size, Nat.sub_zero, Nat.add_sub_cancel, Nat.div_one]
  have hl : ∀ i ∈ List.range' 0 n 1, i < n := fun i hi => by simpa using (List.mem_range'_1.1 hi).2
  generalize List.range' 0 n 1 = l at hl ⊢
  induction l with
  | nil => simp
  | cons i l ih =>
    have hi : i < n := hl i (by simp)
    have px : (part e (bys xs).toArray (i * 1)).run P w = .ok (.int .u8 (xs.getD i 0)) w := by
      simp [bys, part, isAgg, run_underlying he, List.getD, List.getElem?_eq_getElem (show i < xs.length by omega)]
    have py : (part e (bys ys).toArray (i * 1)).run P w = .ok (.int .u8 (ys.getD i 0)) w := by
      simp [bys, part, isAgg, run_underlying he, List.getD, List.getElem?_eq_getElem (show i < ys.length by omega)]
    have pe : (Op.equalIn (d + 1) e (.int .u8 (xs.getD i 0)) (.int .u8 (ys.getD i 0))).run P w = .ok (xs.getD i 0 == ys.getD i 0) w := by
      rw [run_equalIn_int w d e .u8 .u8 _ _ he]
    simp only [List.forIn_cons, Sem.run_bind, px, py, pe, Result.andThen_ok, List.all_cons]
    cases hb : (xs.getD i 0 == ys.getD i 0)
    · simp
    · simp only [Bool.not_true, Bool.false_eq_true, if_false, Sem.run_pure, Result.andThen_ok, Bool.true_and]
      exact ih fun j hj => hl j (by simp [hj])
theorem part53 (m a0 a1 a2 a3 a4 a5 a6 a7 a8 a9 a10 a11 a12 a13 a14 a15 : Int) (w : World) : (part 51 #[.int .i64 m, .int .u8 a0, .int .u8 a1, .int .u8 a2, .int .u8 a3, .int .u8 a4, .int .u8 a5, .int .u8 a6, .int .u8 a7, .int .u8 a8, .int .u8 a9, .int .u8 a10, .int .u8 a11, .int .u8 a12, .int .u8 a13, .int .u8 a14, .int .u8 a15] 1).run Try.prog w = .ok (.agg #[.int .u8 a0, .int .u8 a1, .int .u8 a2, .int .u8 a3, .int .u8 a4, .int .u8 a5, .int .u8 a6, .int .u8 a7, .int .u8 a8, .int .u8 a9, .int .u8 a10, .int .u8 a11, .int .u8 a12, .int .u8 a13, .int .u8 a14, .int .u8 a15]) w := by
  kernel_rfl
theorem part53b (m : Int) (d : List Int) (hd : d.length = 16) (w : World) : (part 51 (.int .i64 m :: bys d).toArray 1).run Try.prog w = .ok (.agg (bys d).toArray) w := by
  match d, hd with
  | [a0, a1, a2, a3, a4, a5, a6, a7, a8, a9, a10, a11, a12, a13, a14, a15], _ => exact part53 m a0 a1 a2 a3 a4 a5 a6 a7 a8 a9 a10 a11 a12 a13 a14 a15 w
theorem part53a (m : Int) (d : List Int) (w : World) : (part 3 (.int .i64 m :: bys d).toArray 0).run Try.prog w = .ok (.int .i64 m) w := by
  simp [part, isAgg, run_underlying Try.underlying3]
theorem size5 (w : World) : (sizeOf 5).run Try.prog w = .ok 1 w := by kernel_rfl
theorem eq53 (m : Int) (d : List Int) (hd : d.length = 16) (w : World) : (Go.binOp .eql 53 (.agg (.int .i64 m :: bys d).toArray) (.agg (.int .i64 0 :: bys z16).toArray)).run Try.prog w = .ok (.bool (m == 0 && d == z16)) w := by
  rw [run_eql_struct, eqA_of (d := 9999) Try.underlying53 (by kernel_rfl) (eqf_cons rfl (part53a m d w) (part53a 0 z16 w) (run_equalIn_int w 9998 3 .i64 .i64 _ _ Try.underlying3) (eqf_last rfl (part53b m d hd w) (part53b 0 z16 rfl w) (equalIn_bys w 9997 51 5 16 Try.underlying51 Try.underlying5 size5 d z16 hd rfl)))]
  rfl

def OutC (base g : Nat) (xs : List S25) (W : World) : Prop := ∃ v, Boxed W g 22 v ∧ Kd.S k25 25 W base (fun _ => True) v xs
theorem S_keepc {A B : World} {row : Option Nat} {base : Nat} {v : Value} {xs : List S25} (h : Kd.S k25 25 A base (fun _ => True) v xs) (hg : A.grownBy B row)
    (hr : ∀ r, row = some r → ∃ o : Obj, A.heap[r]? = some o ∧ o.isCells = false) : Kd.S k25 25 B base (fun _ => True) v xs :=
  Kd.S_mono (Kd.S_grown (Kd.S_bound h) hg (fun k hk e => by
    obtain ⟨o, ho, hc⟩ := hr k e.symm
    obtain ⟨_, _, _, q, _, cells, hcell⟩ := hk
    rw [hcell] at ho
    cases ho
    cases hc)) (fun _ _ => trivial)
theorem outC_round {A B : World} {row : Option Nat} {base g b : Nat} {xs : List S25} (h : OutC base g xs A) (hg : A.grownBy B row)
    (hr : ∀ r, row = some r → b ≤ r ∧ ∃ o : Obj, A.heap[r]? = some o ∧ o.isCells = false) : OutC base g xs B := by
  obtain ⟨v, h1, h2⟩ := h
  exact ⟨v, boxed_keep h1 hg hr, S_keepc h2 hg (fun r e => (hr r e).2)⟩
theorem outC_below {A B : World} {base g : Nat} {xs : List S25} (h : OutC base g xs A) (hb : Below A.heap.size A B) : OutC base g xs B := by
  obtain ⟨v, h1, h2⟩ := h
  exact ⟨v, boxed_block h1 hb, Kd.S_below h2 hb⟩
theorem E25 (q : Nat) (h : q ∈ 25 :: k25.E) : q = 25 ∨ q = 5 := by
  have : k25.E = [5] := rfl
  rw [this] at h
  simpa using h
/-- one block, of no type of the rows, was written -/
theorem outC_write {A B : World} {base g b t : Nat} {cells : Array Value} {xs : List S25} (h : OutC base g xs A) (hb : A.heap[b]? = some (.cells cells t (0, 0))) (h25 : t ≠ 25) (h5 : t ≠ 5) (hgb : g ≠ b)
    (hk : ∀ k, k ≠ b → B.heap[k]? = A.heap[k]?) : OutC base g xs B := by
  obtain ⟨v, h1, h2⟩ := h
  refine ⟨v, (hk g hgb).trans h1, Kd.S_mono (Kd.S_step (Kd.S_types h2 hb (fun q hq e => ?_)) (fun k hk' _ => hk k hk'.2)) (fun _ _ => trivial)⟩
  rcases E25 q hq with rfl | rfl
  · exact h25 e.symm
  · exact h5 e.symm
theorem S_own {A : World} {base g : Nat} {v u : Value} {xs : List S25} (h : Kd.S k25 25 A base (fun _ => True) v xs) (hb : Boxed A g 22 u) (z : Value) : Kd.S k25 25 (A.setCell ⟨g, 0, none⟩ z) base (fun _ => True) v xs :=
  Kd.S_set h hb (fun q hq e => by rcases E25 q hq with rfl | rfl <;> cases e) 0 z

section
variable {P : Program} {ops : Array Oper} {o : Oper} {a : Act} {Q : Exit → Act → World → Prop} {Kc : Act → World → Prop}
theorem app_step (hw : Region.wanted o (yielded ops a.tmps) = true) (s x : Operand) (ho : o.op = .call { callee := .builtin .append, args := #[s, x], argTypes := #[22, 22] })
    (w0 W : World) (base : Nat) (v : Value) (xs : List S25) (m : Int) (d : List Int) (gr : Nat) (hs : a.eval s = v) (hx : a.eval x = .slice (some ⟨W.heap.size, 0, none⟩) 1 1)
    (HS : Kd.S k25 25 W base (fun k => k ≠ gr) v xs) (hgr : W.heap[gr]? = some (.cells (bys d).toArray 5 (0, 0))) (hb : base ≤ gr) (hd : d.length = 16) (HB : Below base w0 W) (hbase : base ≤ W.heap.size) (hl : xs.length ≤ 2147483648)
    (h : ∀ (v1 : Value) (w1 : World), Kd.S k25 25 w1 base (fun _ => True) v1 (xs ++ [⟨m, d⟩]) → Below base w0 w1 → W.heap.size ≤ w1.heap.size → (∀ (k : Nat) (ob : Obj), W.heap[k]? = some ob → (∀ cs, ob ≠ Obj.cells cs 25 (0, 0)) → w1.heap[k]? = some ob) → Kc (a.put o.dst v1) w1) :
    if Region.wanted o (yielded ops a.tmps) = true then Oper.wp Try.prog o a (W.alloc (.cells #[.int .i64 m, .slice (some ⟨gr, 0, none⟩) 16 16] 25)) Kc Q else Kc (a.put o.dst undef) (W.alloc (.cells #[.int .i64 m, .slice (some ⟨gr, 0, none⟩) 16 16] 25)) := by
  refine Kd.S_append_step (w0 := w0) k25 base hw s x 22 25 (.agg #[(.int .i64 0), (.slice none 0 0)]) 32 ho Try.underlying22 info25 rfl (by decide) (by decide) v xs ⟨m, d⟩ [.int .i64 m, .slice (some ⟨gr, 0, none⟩) 16 16] (fun _ => True) (fun k => k = gr) hs hx ?_ ?_ (fun _ _ => trivial) ?_ HB hbase (by omega) ?_
  · exact k25_mkM W base _ ⟨m, d⟩ (row_R base _ hd hb rfl hgr)
  · rintro k rfl
    exact ⟨trivial, fun e => (Kd.S_R HS).1 k e.symm rfl⟩
  · exact Kd.S_mono HS (fun k hk => ⟨trivial, hk⟩)
  · intro v1 w1 h1 h2 h3 h4
    refine h v1 w1 h1 h2 h3.size (fun k ob hk hn => ?_)
    have hlt := (Array.getElem?_eq_some_iff.1 hk).1
    rw [h3.block k hlt (fun e => ?_)]
    · exact hk
    · obtain ⟨cells, hc⟩ := Kd.S_typed HS k e.symm
      rw [hk] at hc
      cases hc
      exact hn _ rfl
theorem run_bs (m : Int) (gr : Nat) (w : World) : (Instr.buildSlice 22 1 #[(0, .agg #[.int .i64 m, .slice (some ⟨gr, 0, none⟩) 16 16])]).run Try.prog w = .ok (.slice (some ⟨w.heap.size, 0, none⟩) 1 1) (w.alloc (.cells #[.int .i64 m, .slice (some ⟨gr, 0, none⟩) 16 16] 25)) := by
  kernel_rfl
theorem exec_bs {t : TypeId} {n : Nat} {parts : Array (Nat × Operand)} {vs : Array (Nat × Value)} {v : Value} {w w1 : World} (ho : o.op = .buildSlice t n parts) (hp : parts.map (fun p => (p.1, a.eval p.2)) = vs)
    (hrun : (Instr.buildSlice t n vs).run P w = .ok v w1) : (execOp a.eval o).run P w = .ok (.value v) w1 := by
  subst hp
  unfold execOp
  simp only [ho, Sem.run_bind]
  have : (Instr.buildSlice t n (parts.map fun x => match x with | (i, x) => (i, a.eval x))).run P w = .ok v w1 := hrun
  rw [this]
  rfl
theorem run_st22 (g : Nat) (v : Value) (W : World) (A : Option Addr) (n c : Nat) (hb : Boxed W g 22 v) : (Instr.storeAt 22 (.pointer (some ⟨g, 0, none⟩)) (.slice A n c)).run Try.prog W = .ok () (W.setCell ⟨g, 0, none⟩ (.slice A n c)) := by
  have h1 := hb.cell
  have h2 := hb.frozen
  have hu := Try.underlying22
  simp [go_sem, h1, h2, hu]
theorem run_st4 (g : Nat) (v : Value) (W : World) (b : Bool) (hb : Boxed W g 4 v) : (Instr.storeAt 4 (.pointer (some ⟨g, 0, none⟩)) (.bool b)).run Try.prog W = .ok () (W.setCell ⟨g, 0, none⟩ (.bool b)) := by
  have h1 := hb.cell
  have h2 := hb.frozen
  have hu := Try.underlying4
  simp [go_sem, h1, h2, hu]
theorem store_step {W w1 : World} {ty : TypeId} {x y : Operand} {u v : Value} (hw : Region.wanted o (yielded ops a.tmps) = true) (hN : o.dst = none) (ho : o.op = .store ty x y) (hx : a.eval x = u) (hy : a.eval y = v)
    (hrun : (Instr.storeAt ty u v).run P W = .ok () w1) (h : Kc a w1) : if Region.wanted o (yielded ops a.tmps) = true then Oper.wp P o a W Kc Q else Kc (a.put o.dst undef) W := by
  subst hx
  subst hy
  have hr : (execOp a.eval o).run P W = .ok .skip w1 := by
    unfold execOp
    simp only [ho, Sem.run_bind]
    rw [hrun]
    rfl
  rw [if_pos hw]
  unfold Oper.wp
  rw [hr]
  show Kc (a.put o.dst undef) w1
  rw [hN]
  exact h
end
end Go.Proofs.Ytknlbeojdmeljaa.H
