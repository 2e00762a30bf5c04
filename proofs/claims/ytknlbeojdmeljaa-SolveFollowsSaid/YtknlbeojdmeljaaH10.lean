import Derived.Test.YtknlbeojdmeljaaH9
import Derived.Test.YtknlbeojdmeljaaP4
namespace Go.Proofs.Ytknlbeojdmeljaa.H
open Go.RowKit Go.Proofs.YtknlbeojdmeljaaW.PrintWords Go.Proofs.YtknlbeojdmeljaaW.PrintLast Go.Proofs.YtknlbeojdmeljaaW.PrintMore Go.Proofs.Ytknlbeojdmeljaa.P
set_option linter.unusedVariables false
set_option linter.unusedSimpArgs false

def rp (x : Int) : List Int := [x, x, x, x, x, x, x, x, x, x, x, x, x, x, x, x]
theorem block_f (x : Int) : slotmeshlaw33_block.f 40 x = some (rp x) := by kernel_rfl
theorem row_f (m x : Int) : slotmeshlaw33_row.f 40 m x = some (m, rp x) := by kernel_rfl
/-- What is held of rows and blocks, in one bundle. -/
def Hold (w0 w : World) (ls : List (Option Addr × Nat × List S25)) (bs : List (Option Addr × Nat × List Int)) : Prop :=
  Below w0.heap.size w0 w ∧ (∀ p ∈ ls, Kd.C k25 w p.1 p.2.1 p.2.2) ∧ (∀ p ∈ bs, Kd.C (Kd.int .u8) w p.1 p.2.1 p.2.2)
theorem Hold.below {w0 w u : World} {ls : List (Option Addr × Nat × List S25)} {bs : List (Option Addr × Nat × List Int)} (h : Hold w0 w ls bs) (hb : Below w.heap.size w u) : Hold w0 u ls bs :=
  ⟨h.1.trans (hb.mono h.1.size), fun p hp => Kd.C_below (h.2.1 p hp) hb, fun p hp => Kd.C_below (h.2.2 p hp) hb⟩
theorem Hold.addl {w0 w : World} {ls : List (Option Addr × Nat × List S25)} {bs : List (Option Addr × Nat × List Int)} (h : Hold w0 w ls bs) {A : Option Addr} {n : Nat} {xs : List S25} (hc : Kd.C k25 w A n xs) : Hold w0 w ((A, n, xs) :: ls) bs :=
  ⟨h.1, fun p hp => by rcases List.mem_cons.1 hp with rfl | hp; exact hc; exact h.2.1 p hp, h.2.2⟩
theorem Hold.addb {w0 w : World} {ls : List (Option Addr × Nat × List S25)} {bs : List (Option Addr × Nat × List Int)} (h : Hold w0 w ls bs) {A : Option Addr} {n : Nat} {xs : List Int} (hc : Kd.C (Kd.int .u8) w A n xs) : Hold w0 w ls ((A, n, xs) :: bs) :=
  ⟨h.1, h.2.1, fun p hp => by rcases List.mem_cons.1 hp with rfl | hp; exact hc; exact h.2.2 p hp⟩
theorem row_h {w0 w : World} {ls : List (Option Addr × Nat × List S25)} {bs : List (Option Addr × Nat × List Int)} (m x : Int) (h : Hold w0 w ls bs) :
    Calls Try.prog 26 #[.int .i64 m, .int .u8 x] w fun e u => ∃ A c, e = .returned (.agg #[.int .i64 m, .slice A 16 c]) ∧ 16 ≤ c ∧ Hold w0 u ls ((A, 16, rp x) :: bs) := by
  refine (slotmeshlaw33_row.calls 40 m x m (rp x) w (row_f m x)).mono ?_
  rintro e u ⟨v, rfl, hR, hb⟩
  obtain ⟨A, c, rfl⟩ := Kd.R_slice hR
  obtain ⟨_, hl, hc⟩ := Kd.R_reads' hR
  exact ⟨A, c, rfl, hl, (h.below hb).addb hc⟩
theorem block_h {w0 w : World} {ls : List (Option Addr × Nat × List S25)} {bs : List (Option Addr × Nat × List Int)} (x : Int) (h : Hold w0 w ls bs) :
    Calls Try.prog 27 #[.int .u8 x] w fun e u => ∃ A c, e = .returned (.slice A 16 c) ∧ 16 ≤ c ∧ Hold w0 u ls ((A, 16, rp x) :: bs) := by
  refine (slotmeshlaw33_block.calls 40 x (rp x) w (block_f x)).mono ?_
  rintro e u ⟨v, rfl, hR, hb⟩
  obtain ⟨A, c, rfl⟩ := Kd.R_slice hR
  obtain ⟨_, hl, hc⟩ := Kd.R_reads' hR
  exact ⟨A, c, rfl, hl, (h.below hb).addb hc⟩
theorem add_h {w0 w : World} {ls : List (Option Addr × Nat × List S25)} {bs : List (Option Addr × Nat × List Int)} (h : Hold w0 w ls bs) {A A1 : Option Addr} {cap c1 n n1 : Nat} (xs : List S25) (m : Int) (d : List Int) (ys : List S25) (b : Bool) (er : Int) (k : Nat)
    (hA : (A, n, xs) ∈ ls) (hB : (A1, n1, d) ∈ bs) (hn : n = xs.length) (hn1 : n1 = d.length) (hl : xs.length ≤ 1000000) (hr : addS xs m d = (ys, b, er)) (hk : ys.length = k) :
    Calls Try.prog 12 #[.slice A n cap, .agg #[.int .i64 m, .slice A1 n1 c1]] w fun e u => ∃ A' c', e = .returned (.tuple #[.slice A' k c', .bool b, .int .i64 er]) ∧ k ≤ c' ∧ Hold w0 u ((A', k, ys) :: ls) bs := by
  subst hn hn1 hk
  have hc := add_calls A cap xs m A1 c1 d w (h.2.1 _ hA) (h.2.2 _ hB) hl
  rw [hr] at hc
  refine hc.mono ?_
  rintro e u ⟨v, rfl, hS, hb⟩
  obtain ⟨A', c', rfl⟩ := Kd.R_slice (Kd.S_R hS)
  obtain ⟨_, hl', hc⟩ := Kd.R_reads' (Kd.S_R hS)
  exact ⟨A', c', rfl, hl', (h.below hb).addl hc⟩
theorem solved_h {w0 w : World} {ls : List (Option Addr × Nat × List S25)} {bs : List (Option Addr × Nat × List Int)} (h : Hold w0 w ls bs) {A : Option Addr} {cap n : Nat} (xs : List S25) (i : Int) (ys : List Int) (b : Bool) (k : Nat)
    (hA : (A, n, xs) ∈ ls) (hn : n = xs.length) (hr : solvedS xs i = (ys, b)) (hk : ys.length = k) :
    Calls Try.prog 14 #[.slice A n cap, .int .i64 i] w fun e u => ∃ A' c', e = .returned (.tuple #[.slice A' k c', .bool b]) ∧ k ≤ c' ∧ Hold w0 u ls ((A', k, ys) :: bs) := by
  subst hn hk
  have hc := solved_calls A cap xs i w (h.2.1 _ hA)
  rw [hr] at hc
  refine hc.mono ?_
  rintro e u ⟨v, rfl, hR, hb⟩
  obtain ⟨A', c', rfl⟩ := Kd.R_slice hR
  obtain ⟨_, hl', hc⟩ := Kd.R_reads' hR
  exact ⟨A', c', rfl, hl', (h.below hb).addb hc⟩
theorem sum_h {w0 w : World} {ls : List (Option Addr × Nat × List S25)} {bs : List (Option Addr × Nat × List Int)} (h : Hold w0 w ls bs) {A : Option Addr} {cap n : Nat} (xs : List S25) (i : Int) (ys : List Int) (b : Bool) (k : Nat)
    (hA : (A, n, xs) ∈ ls) (hn : n = xs.length) (hr : sumS xs i = (ys, b)) (hk : ys.length = k) :
    Calls Try.prog 16 #[.slice A n cap, .int .i64 i] w fun e u => ∃ A' c', e = .returned (.tuple #[.slice A' k c', .bool b]) ∧ k ≤ c' ∧ Hold w0 u ls ((A', k, ys) :: bs) := by
  subst hn hk
  have hc := sum_calls A cap xs i w (h.2.1 _ hA)
  rw [hr] at hc
  refine hc.mono ?_
  rintro e u ⟨v, rfl, hV, hb⟩
  obtain ⟨A', c', rfl⟩ := Kd.V_slice hV
  obtain ⟨_, hl', hc⟩ := Kd.V_reads' hV
  exact ⟨A', c', rfl, hl', (h.below hb).addb hc⟩
theorem valid_h {w0 w : World} {ls : List (Option Addr × Nat × List S25)} {bs : List (Option Addr × Nat × List Int)} (h : Hold w0 w ls bs) {A : Option Addr} {cap n : Nat} (xs : List S25) (r : Bool)
    (hA : (A, n, xs) ∈ ls) (hn : n = xs.length) (hr : validS xs = r) :
    Calls Try.prog 20 #[.slice A n cap] w fun e u => e = .returned (.bool r) ∧ Hold w0 u ls bs := by
  subst hn hr
  refine (valid_calls A cap xs w (h.2.1 _ hA)).mono ?_
  rintro e u ⟨rfl, hb⟩
  exact ⟨rfl, h.below hb⟩
theorem bytes_h {w0 w : World} {ls : List (Option Addr × Nat × List S25)} {bs : List (Option Addr × Nat × List Int)} (h : Hold w0 w ls bs) {A A1 : Option Addr} {c c1 n n1 : Nat} (xs ys : List Int) (r : Bool)
    (hA : (A, n, xs) ∈ bs) (hB : (A1, n1, ys) ∈ bs) (hn : n = xs.length) (hn1 : n1 = ys.length) (hc : n ≤ c) (hc1 : n1 ≤ c1) (hr : slotmeshref33_Bytes.f 60 xs ys = some r) :
    Calls Try.prog 19 #[.slice A n c, .slice A1 n1 c1] w fun e u => e = .returned (.bool r) ∧ Hold w0 u ls bs := by
  subst hn hn1
  refine (slotmeshref33_Bytes.calls 60 A c xs A1 c1 ys r w (h.2.2 _ hA) hc (h.2.2 _ hB) hc1 hr).mono ?_
  rintro e u ⟨rfl, hb⟩
  exact ⟨rfl, h.below (hb.below)⟩
theorem same_h {w0 w : World} {ls : List (Option Addr × Nat × List S25)} {bs : List (Option Addr × Nat × List Int)} (h : Hold w0 w ls bs) {A A1 : Option Addr} {c c1 n n1 : Nat} (xs ys : List S25) (r : Bool)
    (hA : (A, n, xs) ∈ ls) (hB : (A1, n1, ys) ∈ ls) (hn : n = xs.length) (hn1 : n1 = ys.length) (hc : n ≤ c) (hc1 : n1 ≤ c1) (hr : slotmeshref33_Same.f 60 xs ys = some r) :
    Calls Try.prog 18 #[.slice A n c, .slice A1 n1 c1] w fun e u => e = .returned (.bool r) ∧ Hold w0 u ls bs := by
  subst hn hn1
  refine (slotmeshref33_Same.calls 60 A c xs A1 c1 ys r w (h.2.1 _ hA) hc (h.2.1 _ hB) hc1 hr).mono ?_
  rintro e u ⟨rfl, hb⟩
  exact ⟨rfl, h.below (hb.below)⟩
def flat (items : List (S25 × Option Addr × Nat)) : List Value := items.flatMap (fun p => [.int .i64 p.1.f0, .slice p.2.1 p.1.f1.length p.2.2])
theorem flat_at : ∀ (items : List (S25 × Option Addr × Nat)) (j : Nat) (p : S25 × Option Addr × Nat), items[j]? = some p → (flat items)[j * 2]? = some (.int .i64 p.1.f0) ∧ (flat items)[j * 2 + 1]? = some (.slice p.2.1 p.1.f1.length p.2.2)
  | [], j, p, h => by simp at h
  | q :: items, 0, p, h => by simp at h; subst h; simp [flat]
  | q :: items, j + 1, p, h => by
    have := flat_at items j p (by simpa using h)
    rw [show (j + 1) * 2 = j * 2 + 1 + 1 by omega]
    simpa [flat] using this
theorem lit_C {w : World} {g : Nat} (items : List (S25 × Option Addr × Nat)) (hn : items.length ≤ 1000) (hb : w.heap[g]? = some (.cells (flat items).toArray 25 (0, 0)))
    (hC : ∀ p ∈ items, p.1.f1.length ≤ p.2.2 ∧ Kd.C (Kd.int .u8) w p.2.1 p.1.f1.length p.1.f1) : Kd.C k25 w (some ⟨g, 0, none⟩) items.length (items.map (·.1)) := by
  refine ⟨by simp, by omega, fun _ => ⟨⟨g, 0, none⟩, rfl, fun j p hj => ?_⟩⟩
  rw [List.getElem?_map] at hj
  obtain ⟨q, hq, rfl⟩ := Option.map_eq_some_iff.1 hj
  obtain ⟨h1, h2⟩ := hC q (List.mem_of_getElem? hq)
  obtain ⟨f1, f2⟩ := flat_at items j q hq
  refine ⟨[.int .i64 q.1.f0, .slice q.2.1 q.1.f1.length q.2.2], rfl, k25_mk w q.1 h1 h2, fun i u hu => ?_⟩
  have hsz : k25.sz = 2 := rfl
  rw [hsz]
  have hcell := blk_cell hb (j * 2 + i)
  match i, hu with
  | 0, hu =>
    simp at hu; subst hu
    rw [add_at, Nat.zero_add]
    exact hcell.trans (by simpa using f1)
  | 1, hu =>
    simp at hu; subst hu
    rw [add_at, Nat.zero_add]
    exact hcell.trans (by simpa using f2)

def L1 : List S25 := [⟨3, rp 3⟩]
def L2 : List S25 := [⟨5, rp 5⟩, ⟨3, rp 3⟩]
def LM : List S25 := [⟨4, rp 4⟩, ⟨2, rp 2⟩, ⟨1, rp 1⟩]
def LX : List S25 := [⟨6, rp 6⟩, ⟨3, rp 3⟩, ⟨2, rp 2⟩]
theorem e1 : addS [] 3 (rp 3) = (L1, true, 0) := by kernel_rfl
theorem e2 : addS L1 6 (rp 6) = (L2, true, 0) := by kernel_rfl
theorem e3 : solvedS L2 0 = ([], false) := by kernel_rfl
theorem e4 : sumS L2 5 = (rp 5, true) := by kernel_rfl
theorem e5 : addS L2 2 (rp 2) = (LM, true, 0) := by kernel_rfl
theorem e6 : addS LM 5 (rp 5) = (LM, false, 0) := by kernel_rfl
theorem e7 : addS LM 5 (rp 4) = ([], false, 12) := by kernel_rfl
theorem e8 : addS LM 1 [] = ([], false, 1) := by kernel_rfl
theorem e9 : solvedS LM 0 = (rp 1, true) := by kernel_rfl
theorem e10 : validS LM = true := by kernel_rfl
theorem e11 : validS LX = false := by kernel_rfl
theorem e12 : slotmeshref33_Bytes.f 60 (rp 5) (rp 5) = some true := by kernel_rfl
theorem e15 : slotmeshref33_Bytes.f 60 (rp 1) (rp 1) = some true := by kernel_rfl
theorem e13 : slotmeshref33_Same.f 60 L2 L2 = some true := by kernel_rfl
theorem e14 : slotmeshref33_Same.f 60 LM LM = some true := by kernel_rfl

theorem C_nil8 (w : World) : Kd.C (Kd.int .u8) w none 0 [] := (Kd.R_reads' (Kd.R_nil (Kd.int .u8) 5 w 0 (fun _ => True))).2.2
theorem C_nil25 (w : World) : Kd.C k25 w none 0 [] := (Kd.R_reads' (Kd.R_nil k25 25 w 0 (fun _ => True))).2.2
theorem Hold.lit {w0 w : World} {ls : List (Option Addr × Nat × List S25)} {bs : List (Option Addr × Nat × List Int)} (h : Hold w0 w ls bs) (items : List (S25 × Option Addr × Nat)) (hn : items.length ≤ 1000)
    (hC : ∀ p ∈ items, p.1.f1.length ≤ p.2.2 ∧ (p.2.1, p.1.f1.length, p.1.f1) ∈ bs) : Hold w0 (w.alloc (.cells (flat items).toArray 25)) ((some ⟨w.heap.size, 0, none⟩, items.length, items.map (·.1)) :: ls) bs := by
  have hb : Below w.heap.size w (w.alloc (.cells (flat items).toArray 25)) := (Below.refl _ _).alloc (Nat.le_refl _) _
  exact (h.below hb).addl (lit_C items hn (blk_new rfl) (fun p hp => ⟨(hC p hp).1, (h.below hb).2.2 _ (hC p hp).2⟩))
theorem same_lit2 {w0 w : World} {ls : List (Option Addr × Nat × List S25)} {bs : List (Option Addr × Nat × List Int)} (h : Hold w0 w ls bs) {A A1 A2 : Option Addr} {c c1 c2 n : Nat} (xs : List S25) (m1 m2 : Int) (d1 d2 : List Int)
    (hA : (A, n, xs) ∈ ls) (hB1 : (A1, 16, d1) ∈ bs) (hB2 : (A2, 16, d2) ∈ bs) (hn : n = xs.length) (h1 : d1.length = 16) (h2 : d2.length = 16) (hc : n ≤ c) (hc1 : 16 ≤ c1) (hc2 : 16 ≤ c2) (hr : slotmeshref33_Same.f 60 xs [⟨m1, d1⟩, ⟨m2, d2⟩] = some true) :
    Calls Try.prog 18 #[.slice A n c, .slice (some ⟨w.heap.size, 0, none⟩) 2 2] (w.alloc (.cells #[.int .i64 m1, .slice A1 16 c1, .int .i64 m2, .slice A2 16 c2] 25)) fun e u => e = .returned (.bool true) ∧ ∃ ls', Hold w0 u (ls' ++ ls) bs := by
  have hl := h.lit [(⟨m1, d1⟩, A1, c1), (⟨m2, d2⟩, A2, c2)] (by simp) (by intro p hp; simp at hp; rcases hp with rfl | rfl; exact ⟨by simp only; omega, by simp only [h1]; exact hB1⟩; exact ⟨by simp only; omega, by simp only [h2]; exact hB2⟩)
  simp only [flat, List.flatMap_cons, List.flatMap_nil, List.append_nil, List.cons_append, List.nil_append, h1, h2] at hl
  refine (same_h (n := n) (n1 := 2) hl xs [⟨m1, d1⟩, ⟨m2, d2⟩] true (List.mem_cons_of_mem _ hA) (by simp) hn rfl hc (Nat.le_refl _) hr).mono ?_
  rintro e u ⟨rfl, hh⟩
  exact ⟨rfl, [_], hh⟩
theorem same_lit3 {w0 w : World} {ls : List (Option Addr × Nat × List S25)} {bs : List (Option Addr × Nat × List Int)} (h : Hold w0 w ls bs) {A A1 A2 A3 : Option Addr} {c c1 c2 c3 n : Nat} (xs : List S25) (m1 m2 m3 : Int) (d1 d2 d3 : List Int)
    (hA : (A, n, xs) ∈ ls) (hB1 : (A1, 16, d1) ∈ bs) (hB2 : (A2, 16, d2) ∈ bs) (hB3 : (A3, 16, d3) ∈ bs) (hn : n = xs.length) (h1 : d1.length = 16) (h2 : d2.length = 16) (h3 : d3.length = 16) (hc : n ≤ c) (hc1 : 16 ≤ c1) (hc2 : 16 ≤ c2) (hc3 : 16 ≤ c3) (hr : slotmeshref33_Same.f 60 xs [⟨m1, d1⟩, ⟨m2, d2⟩, ⟨m3, d3⟩] = some true) :
    Calls Try.prog 18 #[.slice A n c, .slice (some ⟨w.heap.size, 0, none⟩) 3 3] (w.alloc (.cells #[.int .i64 m1, .slice A1 16 c1, .int .i64 m2, .slice A2 16 c2, .int .i64 m3, .slice A3 16 c3] 25)) fun e u => e = .returned (.bool true) ∧ ∃ ls', Hold w0 u (ls' ++ ls) bs := by
  have hl := h.lit [(⟨m1, d1⟩, A1, c1), (⟨m2, d2⟩, A2, c2), (⟨m3, d3⟩, A3, c3)] (by simp) (by intro p hp; simp at hp; rcases hp with rfl | rfl | rfl; exact ⟨by simp only; omega, by simp only [h1]; exact hB1⟩; exact ⟨by simp only; omega, by simp only [h2]; exact hB2⟩; exact ⟨by simp only; omega, by simp only [h3]; exact hB3⟩)
  simp only [flat, List.flatMap_cons, List.flatMap_nil, List.append_nil, List.cons_append, List.nil_append, h1, h2, h3] at hl
  refine (same_h (n := n) (n1 := 3) hl xs [⟨m1, d1⟩, ⟨m2, d2⟩, ⟨m3, d3⟩] true (List.mem_cons_of_mem _ hA) (by simp) hn rfl hc (Nat.le_refl _) hr).mono ?_
  rintro e u ⟨rfl, hh⟩
  exact ⟨rfl, [_], hh⟩
theorem valid_lit3 {w0 w : World} {ls : List (Option Addr × Nat × List S25)} {bs : List (Option Addr × Nat × List Int)} (h : Hold w0 w ls bs) {A1 A2 A3 : Option Addr} {c1 c2 c3 : Nat} (m1 m2 m3 : Int) (d1 d2 d3 : List Int) (r : Bool)
    (hB1 : (A1, 16, d1) ∈ bs) (hB2 : (A2, 16, d2) ∈ bs) (hB3 : (A3, 16, d3) ∈ bs) (h1 : d1.length = 16) (h2 : d2.length = 16) (h3 : d3.length = 16) (hc1 : 16 ≤ c1) (hc2 : 16 ≤ c2) (hc3 : 16 ≤ c3) (hr : validS [⟨m1, d1⟩, ⟨m2, d2⟩, ⟨m3, d3⟩] = r) :
    Calls Try.prog 20 #[.slice (some ⟨w.heap.size, 0, none⟩) 3 3] (w.alloc (.cells #[.int .i64 m1, .slice A1 16 c1, .int .i64 m2, .slice A2 16 c2, .int .i64 m3, .slice A3 16 c3] 25)) fun e u => e = .returned (.bool r) ∧ ∃ ls', Hold w0 u (ls' ++ ls) bs := by
  have hl := h.lit [(⟨m1, d1⟩, A1, c1), (⟨m2, d2⟩, A2, c2), (⟨m3, d3⟩, A3, c3)] (by simp) (by intro p hp; simp at hp; rcases hp with rfl | rfl | rfl; exact ⟨by simp only; omega, by simp only [h1]; exact hB1⟩; exact ⟨by simp only; omega, by simp only [h2]; exact hB2⟩; exact ⟨by simp only; omega, by simp only [h3]; exact hB3⟩)
  simp only [flat, List.flatMap_cons, List.flatMap_nil, List.append_nil, List.cons_append, List.nil_append, h1, h2, h3] at hl
  refine (valid_h (n := 3) hl [⟨m1, d1⟩, ⟨m2, d2⟩, ⟨m3, d3⟩] r (by simp) rfl hr).mono ?_
  rintro e u ⟨rfl, hh⟩
  exact ⟨rfl, [_], hh⟩
set_option maxRecDepth 100000 in
set_option maxHeartbeats 4000000 in
theorem head_calls (w : World) : Calls Try.prog 10 #[] w fun e w' => e = .returned (.bool true) ∧ Below w.heap.size w w' := by
  have HH := Lib.hid (show Hold w w [(none, 0, [])] [(none, 0, [])] from ⟨Below.refl _ _, by intro p hp; rw [List.mem_singleton.1 hp]; exact C_nil25 w, by intro p hp; rw [List.mem_singleton.1 hp]; exact C_nil8 w⟩)
  go_enter Try.func10, Try.ntmps10
  go_wp2_with (first
    | (go_at_call 26; refine (row_h _ _ HH.out).mono ?_; rintro e u ⟨A', c', rfl, hc', hh⟩; clear HH; have HH := Lib.hid hh; clear hh)
    | (go_at_call 27; refine (block_h _ HH.out).mono ?_; rintro e u ⟨A', c', rfl, hc', hh⟩; clear HH; have HH := Lib.hid hh; clear hh)
    | (go_at_call 20; have := M14; clear this; refine (valid_lit3 HH.out 6 3 2 (rp 6) (rp 3) (rp 2) false (by simp) (by simp) (by simp) rfl rfl rfl (by omega) (by omega) (by omega) e11).mono ?_; rintro e u ⟨rfl, ls', hh⟩; clear HH; have HH := Lib.hid hh; clear hh; have M15 : True := trivial)
    | (go_at_call 20; have := M13; clear this; refine (valid_h (n := 3) HH.out LM true (by simp) rfl e10).mono ?_; rintro e u ⟨rfl, hh⟩; clear HH; have HH := Lib.hid hh; clear hh; have M14 : True := trivial)
    | (go_at_call 18; have := M12; clear this; refine (same_lit3 (n := 3) HH.out LM 4 2 1 (rp 4) (rp 2) (rp 1) (by simp) (by simp) (by simp) (by simp) rfl rfl rfl rfl (by omega) (by omega) (by omega) (by omega) e14).mono ?_; rintro e u ⟨rfl, ls', hh⟩; clear HH; have HH := Lib.hid hh; clear hh; have M13 : True := trivial)
    | (go_at_call 18; have := M11; clear this; refine (same_lit2 (n := 2) HH.out L2 5 3 (rp 5) (rp 3) (by simp) (by simp) (by simp) rfl rfl rfl (by omega) (by omega) (by omega) e13).mono ?_; rintro e u ⟨rfl, ls', hh⟩; clear HH; have HH := Lib.hid hh; clear hh; have M12 : True := trivial)
    | (go_at_call 19; have := M10; clear this; refine (bytes_h (n := 16) (n1 := 16) HH.out (rp 1) (rp 1) true (by simp) (by simp) rfl rfl (by omega) (by omega) e15).mono ?_; rintro e u ⟨rfl, hh⟩; clear HH; have HH := Lib.hid hh; clear hh; have M11 : True := trivial)
    | (go_at_call 19; have := M9; clear this; refine (bytes_h (n := 16) (n1 := 16) HH.out (rp 5) (rp 5) true (by simp) (by simp) rfl rfl (by omega) (by omega) e12).mono ?_; rintro e u ⟨rfl, hh⟩; clear HH; have HH := Lib.hid hh; clear hh; have M10 : True := trivial)
    | (go_at_call 14; have := M8; clear this; refine (solved_h (n := 3) HH.out LM 0 (rp 1) true 16 (by simp) rfl e9 rfl).mono ?_; rintro e u ⟨A', c', rfl, hc', hh⟩; clear HH; have HH := Lib.hid hh; clear hh; have M9 : True := trivial)
    | (go_at_call 12; have := M7; clear this; refine (add_h (n := 3) (n1 := 0) HH.out LM 1 [] [] false 1 0 (by simp) (by simp) rfl rfl (by decide) e8 rfl).mono ?_; rintro e u ⟨A', c', rfl, hc', hh⟩; clear HH; have HH := Lib.hid hh; clear hh; have M8 : True := trivial)
    | (go_at_call 12; have := M6; clear this; refine (add_h (n := 3) (n1 := 16) HH.out LM 5 (rp 4) [] false 12 0 (by simp) (by simp) rfl rfl (by decide) e7 rfl).mono ?_; rintro e u ⟨A', c', rfl, hc', hh⟩; clear HH; have HH := Lib.hid hh; clear hh; have M7 : True := trivial)
    | (go_at_call 12; have := M5; clear this; refine (add_h (n := 3) (n1 := 16) HH.out LM 5 (rp 5) LM false 0 3 (by simp) (by simp) rfl rfl (by decide) e6 rfl).mono ?_; rintro e u ⟨A', c', rfl, hc', hh⟩; clear HH; have HH := Lib.hid hh; clear hh; have M6 : True := trivial)
    | (go_at_call 12; have := M4; clear this; refine (add_h (n := 2) (n1 := 16) HH.out L2 2 (rp 2) LM true 0 3 (by simp) (by simp) rfl rfl (by decide) e5 rfl).mono ?_; rintro e u ⟨A', c', rfl, hc', hh⟩; clear HH; have HH := Lib.hid hh; clear hh; have M5 : True := trivial)
    | (go_at_call 16; have := M3; clear this; refine (sum_h (n := 2) HH.out L2 5 (rp 5) true 16 (by simp) rfl e4 rfl).mono ?_; rintro e u ⟨A', c', rfl, hc', hh⟩; clear HH; have HH := Lib.hid hh; clear hh; have M4 : True := trivial)
    | (go_at_call 14; have := M2; clear this; refine (solved_h (n := 2) HH.out L2 0 [] false 0 (by simp) rfl e3 rfl).mono ?_; rintro e u ⟨A', c', rfl, hc', hh⟩; clear HH; have HH := Lib.hid hh; clear hh; have M3 : True := trivial)
    | (go_at_call 12; have := M1; clear this; refine (add_h (n := 1) (n1 := 16) HH.out L1 6 (rp 6) L2 true 0 2 (by simp) (by simp) rfl rfl (by decide) e2 rfl).mono ?_; rintro e u ⟨A', c', rfl, hc', hh⟩; clear HH; have HH := Lib.hid hh; clear hh; have M2 : True := trivial)
    | (go_at_call 12; refine (add_h (n := 0) (n1 := 16) HH.out [] 3 (rp 3) L1 true 0 1 (by simp) (by simp) rfl rfl (by decide) e1 rfl).mono ?_; rintro e u ⟨A', c', rfl, hc', hh⟩; clear HH; have HH := Lib.hid hh; clear hh; have M1 : True := trivial))
  go_ret
  exact ⟨rfl, HH.out.1⟩
end Go.Proofs.Ytknlbeojdmeljaa.H
