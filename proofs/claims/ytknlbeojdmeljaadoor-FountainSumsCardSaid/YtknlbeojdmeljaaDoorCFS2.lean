-- cut by shake.py (own program) out of this session's texts
import Derived.Test.YtknlbeojdmeljaaDoorCFS1
namespace Go.Proofs.YtknlbeojdmeljaaDoor.R
open Go.ChangeShapes Go.WideShapes Go.ChangeAt Go.RowKit Go.Proofs.YtknlbeojdmeljaaDoorW.PrintWords Go.Proofs.YtknlbeojdmeljaaDoor.P
open Go.Proofs.YtknlbeojdmeljaaDoor.L (isB)
set_option linter.unusedVariables false
theorem open_num {k : IntKind} {t te : TypeId} (hu : Tryd.prog.underlying t = some (.slice te)) (hk : Tryd.prog.underlying te = some (.int k)) (hc1 : Tryd.prog.cellsOf te = 1) {H : Type} {enc : TypeId × Value → H} {W : World} {a : Option Addr} {len cap : Nat} {d : DataW H} {p : List MemPlace} (h : DataW.Trod enc Tryd.prog W 0 (fun _ => true) true t (.slice a len cap) d p) :
    ∃ ds : List Int, len = ds.length ∧ len ≤ cap ∧ Kd.C (Kd.int k) W a len ds ∧ ∀ b ∈ ds, (Lit.int k b).wf = true := by
  obtain ⟨n, h⟩ := h
  rcases open_ints hu hk hc1 h with ⟨hcs, _⟩ | ⟨ad, l, c, zs, hcs, _, hl, hm, hz, _, hcell, hwz⟩
  · simp [Value.cells] at hcs
    obtain ⟨rfl, rfl, rfl⟩ := hcs
    exact ⟨[], rfl, Nat.le_refl _, ⟨rfl, by simp, fun h => absurd h (by simp)⟩, by simp⟩
  · simp [Value.cells] at hcs
    obtain ⟨rfl, rfl, rfl⟩ := hcs
    have hz' : zs.length = cap := by simpa using hz
    have hl' : len ≤ cap := by simpa using hl
    have htl : (zs.take len).length = len := by rw [List.length_take]; omega
    refine ⟨zs.take len, htl.symm, hl', ⟨htl, by have : cap ≤ maxLen := hm; unfold maxLen at this; omega, fun _ => ⟨ad, rfl, fun j p hj => ⟨[.int k p], rfl, rfl, fun i u hu => ?_⟩⟩⟩, fun b hb => hwz b (List.mem_of_mem_take hb)⟩
    match i, hu with
    | 0, hu =>
      simp at hu
      subst hu
      rw [List.getElem?_take] at hj
      split at hj
      · rename_i hjl
        have h2 := hcell j (by omega)
        rw [List.getD_eq_getElem?_getD, hj] at h2
        have e : (Kd.int k).sz = 1 := rfl
        rw [e, Nat.mul_one]
        exact h2
      · cases hj
theorem open_byteS {H : Type} {enc : TypeId × Value → H} {W : World} {a : Option Addr} {len cap : Nat} {d : DataW H} {p : List MemPlace} (h : DataW.Trod enc Tryd.prog W 0 (fun _ => true) true 22 (.slice a len cap) d p) :
    ∃ ds : List Int, len = ds.length ∧ len ≤ cap ∧ Kd.C (Kd.int .u8) W a len ds ∧ ∀ b ∈ ds, isB b := by
  obtain ⟨ds, h1, h2, h3, h4⟩ := open_num Tryd.underlying22 Tryd.underlying5 cell5' h
  refine ⟨ds, h1, h2, h3, fun b hb => ?_⟩
  have h3 := h4 b hb
  simp only [Lit.wf, Bool.and_eq_true, decide_eq_true_eq] at h3
  have e1 : IntKind.u8.min = 0 := rfl
  have e2 : IntKind.u8.max = 255 := rfl
  rw [e1, e2] at h3
  exact ⟨h3.1, by omega⟩
end Go.Proofs.YtknlbeojdmeljaaDoor.R
namespace Go.Proofs.YtknlbeojdmeljaaDoor.H
open Go.RowKit Go.Proofs.YtknlbeojdmeljaaDoorW.PrintWords Go.Proofs.YtknlbeojdmeljaaDoorW.PrintLast Go.Proofs.YtknlbeojdmeljaaDoorW.PrintMore Go.Proofs.YtknlbeojdmeljaaDoor.P
set_option linter.unusedVariables false
set_option linter.unusedSimpArgs false
/-- What is held of rows and blocks, in one bundle. -/
def Hold (w0 w : World) (ls : List (Option Addr × Nat × List S25)) (bs : List (Option Addr × Nat × List Int)) : Prop :=
  Below w0.heap.size w0 w ∧ (∀ p ∈ ls, Kd.C k25 w p.1 p.2.1 p.2.2) ∧ (∀ p ∈ bs, Kd.C (Kd.int .u8) w p.1 p.2.1 p.2.2)
theorem Hold.below {w0 w u : World} {ls : List (Option Addr × Nat × List S25)} {bs : List (Option Addr × Nat × List Int)} (h : Hold w0 w ls bs) (hb : Below w.heap.size w u) : Hold w0 u ls bs :=
  ⟨h.1.trans (hb.mono h.1.size), fun p hp => Kd.C_below (h.2.1 p hp) hb, fun p hp => Kd.C_below (h.2.2 p hp) hb⟩
theorem Hold.addl {w0 w : World} {ls : List (Option Addr × Nat × List S25)} {bs : List (Option Addr × Nat × List Int)} (h : Hold w0 w ls bs) {A : Option Addr} {n : Nat} {xs : List S25} (hc : Kd.C k25 w A n xs) : Hold w0 w ((A, n, xs) :: ls) bs :=
  ⟨h.1, fun p hp => by rcases List.mem_cons.1 hp with rfl | hp; exact hc; exact h.2.1 p hp, h.2.2⟩
theorem Hold.addb {w0 w : World} {ls : List (Option Addr × Nat × List S25)} {bs : List (Option Addr × Nat × List Int)} (h : Hold w0 w ls bs) {A : Option Addr} {n : Nat} {xs : List Int} (hc : Kd.C (Kd.int .u8) w A n xs) : Hold w0 w ls ((A, n, xs) :: bs) :=
  ⟨h.1, h.2.1, fun p hp => by rcases List.mem_cons.1 hp with rfl | hp; exact hc; exact h.2.2 p hp⟩
theorem ex_h {w0 w : World} {ls : List (Option Addr × Nat × List S25)} {bs : List (Option Addr × Nat × List Int)} (h : Hold w0 w ls bs) :
    Calls Tryd.prog 27 #[] w fun e u => ∃ A c, e = .returned (.slice A 256 c) ∧ 256 ≤ c ∧ Hold w0 u ls ((A, 256, exB) :: bs) := by
  obtain ⟨E, hE⟩ : ∃ E, E = exB := ⟨_, rfl⟩
  have hcall := slotmeshlaw34_example.calls 300 E w (by rw [hE]; exact ex_is)
  rw [← hE]
  have hl256 : E.length = 256 := by rw [hE]; simp [exB]
  clear hE
  refine hcall.mono ?_
  rintro e u ⟨v, rfl, hR, hb⟩
  obtain ⟨A, c, rfl⟩ := Kd.R_slice hR
  obtain ⟨_, hl, hc⟩ := Kd.R_reads' hR
  rw [hl256] at hl hc ⊢
  exact ⟨A, c, rfl, hl, (h.below hb).addb hc⟩
theorem enc_h {w0 w : World} {ls : List (Option Addr × Nat × List S25)} {bs : List (Option Addr × Nat × List Int)} (h : Hold w0 w ls bs) (ht : Tabs w0) {A : Option Addr} {c : Nat} (B : List Int) (p s : Int) (hA : (A, 256, B) ∈ bs) (hc : 256 ≤ c) (hp : 0 ≤ p ∧ p < 16) (hs : 0 ≤ s ∧ s ≤ 1000000000) :
    Calls Tryd.prog 12 #[.slice A 256 c, .int .i64 p, .int .i64 s] w fun e u => ∃ A' c', e = .returned (.tuple #[.agg #[.int .i64 p, .int .i64 s, .slice A' 16 c', .slice none 0 0], .int .i64 0]) ∧ 16 ≤ c' ∧ Hold w0 u ls ((A', 16, sumE B s) :: bs) := by
  refine (encode_good A c B p s w hc (h.2.2 _ hA) (ht.keep h.1) hp hs).mono ?_
  rintro e u ⟨v, rfl, hR, hb⟩
  have hl16 : (sumE B s).length = 16 := sumE_len (h.2.2 _ hA).1 s hs
  obtain ⟨A', c', rfl⟩ := Kd.R_slice hR
  obtain ⟨_, hl, hcc⟩ := Kd.R_reads' hR
  rw [show (foldE B (setS s).toNat (fr 16)).1 = sumE B s from rfl, hl16] at hl hcc ⊢
  exact ⟨A', c', rfl, hl, (h.below hb).addb hcc⟩
theorem rcv_h {w0 w : World} {ls : List (Option Addr × Nat × List S25)} {bs : List (Option Addr × Nat × List Int)} (h : Hold w0 w ls bs) (ht : Tabs w0) {A : Option Addr} {c : Nat} (B : List Int) (A2 : Option Addr) (c2 n2 : Nat) (seeds : List Int) (hn : n2 = seeds.length) (hA : (A, 256, B) ∈ bs) (hc : 256 ≤ c)
    (hr2 : Kd.C (Kd.int .i64) w A2 seeds.length seeds) (hl : seeds.length ≤ 200) (hg : ∀ s ∈ seeds, 0 ≤ s ∧ s ≤ 1000000000) (zs : List S25) (m : Int) (b : Bool) (k : Nat) (hres : recL B seeds [] 0 = (zs, m, b)) (hk : zs.length = k) :
    Calls Tryd.prog 24 #[.slice A 256 c, .slice A2 n2 c2] w fun e u => ∃ A' c', e = .returned (.tuple #[.slice A' k c', .int .i64 m, .bool b]) ∧ k ≤ c' ∧ Hold w0 u ((A', k, zs) :: ls) bs := by
  subst hn hk
  have hcall := received_calls A c B A2 c2 seeds w hc (h.2.2 _ hA) hr2 hl hg (ht.keep h.1)
  rw [hres] at hcall
  refine hcall.mono ?_
  rintro e u ⟨v, rfl, hS, hb⟩
  obtain ⟨A', c', rfl⟩ := Kd.R_slice (Kd.S_R hS)
  obtain ⟨_, hl', hcc⟩ := Kd.R_reads' (Kd.S_R hS)
  exact ⟨A', c', rfl, hl', (h.below hb).addl hcc⟩
theorem page_h {w0 w : World} {ls : List (Option Addr × Nat × List S25)} {bs : List (Option Addr × Nat × List Int)} (h : Hold w0 w ls bs) {A : Option Addr} {cap n : Nat} (xs : List S25) (ys : List Int) (b : Bool) (k : Nat)
    (hA : (A, n, xs) ∈ ls) (hn : n = xs.length) (hr : pageS xs = (ys, b)) (hk : ys.length = k) :
    Calls Tryd.prog 16 #[.slice A n cap] w fun e u => ∃ A' c', e = .returned (.tuple #[.slice A' k c', .bool b]) ∧ k ≤ c' ∧ Hold w0 u ls ((A', k, ys) :: bs) := by
  subst hn hk
  have hc := page_calls A cap xs w (h.2.1 _ hA)
  rw [hr] at hc
  refine hc.mono ?_
  rintro e u ⟨v, rfl, hR, hb⟩
  obtain ⟨A', c', rfl⟩ := Kd.R_slice hR
  obtain ⟨_, hl', hcc⟩ := Kd.R_reads' hR
  exact ⟨A', c', rfl, hl', (h.below hb).addb hcc⟩
theorem bytes_h {w0 w : World} {ls : List (Option Addr × Nat × List S25)} {bs : List (Option Addr × Nat × List Int)} (h : Hold w0 w ls bs) {A A1 : Option Addr} {c c1 n n1 : Nat} (xs ys : List Int) (b : Bool) (k : Nat) (hA : (A, n, xs) ∈ bs) (hB : (A1, n1, ys) ∈ bs) (hn : n = xs.length) (hn1 : n1 = ys.length) (hc : n ≤ c) (hc1 : n1 ≤ c1) (hr : slotmeshref33_Bytes.f k xs ys = some b) :
    Calls Tryd.prog 22 #[.slice A n c, .slice A1 n1 c1] w fun e u => e = .returned (.bool b) ∧ Hold w0 u ls bs := by
  subst hn hn1
  refine (slotmeshref33_Bytes.calls k A c xs A1 c1 ys b w (h.2.2 _ hA) hc (h.2.2 _ hB) hc1 hr).mono ?_
  rintro e u ⟨rfl, hd⟩
  exact ⟨rfl, h.below hd.below⟩
end Go.Proofs.YtknlbeojdmeljaaDoor.H
namespace Go.Proofs.YtknlbeojdmeljaaDoor.H
open Go.RowKit Go.Proofs.YtknlbeojdmeljaaDoorW.PrintWords Go.Proofs.YtknlbeojdmeljaaDoorW.PrintLast Go.Proofs.YtknlbeojdmeljaaDoorW.PrintMore Go.Proofs.YtknlbeojdmeljaaDoor.P
set_option linter.unusedVariables false
set_option linter.unusedSimpArgs false
/-- a block's cells, told by their values -/
def Box (w : World) (b : Nat) (vs : List Value) : Prop := b < w.heap.size ∧ ∀ k v, vs[k]? = some v → w.cell? ⟨b, k, none⟩ = some v
theorem Box.below {w u : World} {b : Nat} {vs : List Value} (h : Box w b vs) (hb : Below w.heap.size w u) : Box u b vs :=
  ⟨Nat.lt_of_lt_of_le h.1 hb.size, fun k v hk => (hb.cell (p := ⟨b, k, none⟩) h.1).trans (h.2 k v hk)⟩
theorem Box.new (w : World) (vs : List Value) (t : TypeId) : Box (w.alloc (.cells vs.toArray t)) w.heap.size vs := by
  refine ⟨blk_lt (heap_alloc_new w _), fun k v hk => ?_⟩
  rw [blk_cell (heap_alloc_new w _) k]
  simpa using hk
theorem Hold.alloc {w0 w : World} {ls : List (Option Addr × Nat × List S25)} {bs : List (Option Addr × Nat × List Int)} (h : Hold w0 w ls bs) (o : Obj) : Hold w0 (w.alloc o) ls bs :=
  h.below ((Below.refl _ _).alloc (Nat.le_refl _) _)
theorem lit_C (k : IntKind) (w : World) (e : TypeId) (xs : List Int) (h : xs.length ≤ 9223372036854775807) : Kd.C (Kd.int k) (w.alloc (.cells (nums k xs).toArray e)) (some ⟨w.heap.size, 0, none⟩) xs.length xs := by
  refine ⟨rfl, h, fun _ => ⟨_, rfl, fun j p hj => ⟨[.int k p], rfl, rfl, fun i u hu => ?_⟩⟩⟩
  match i, hu with
  | 0, hu =>
    simp at hu
    subst hu
    have e1 : (Kd.int k).sz = 1 := rfl
    rw [e1, Nat.mul_one, Nat.add_zero, add_plain, blk_cell (heap_alloc_new w _) j]
    simp [nums, hj]
theorem Hold.rebase {w0 w : World} {ls : List (Option Addr × Nat × List S25)} {bs : List (Option Addr × Nat × List Int)} (h : Hold w0 w ls bs) : Hold w w ls bs := ⟨Below.refl _ _, h.2.1, h.2.2⟩
theorem Hold.onto {w0 w u : World} {ls ls' : List (Option Addr × Nat × List S25)} {bs bs' : List (Option Addr × Nat × List Int)} (h : Hold w0 w ls bs) (k : Hold w u ls' bs') : Hold w0 u ls' bs' := ⟨h.1.trans (k.1.mono h.1.size), k.2.1, k.2.2⟩
theorem set_h {w0 w : World} {ls : List (Option Addr × Nat × List S25)} {bs : List (Option Addr × Nat × List Int)} (h : Hold w0 w ls bs) (ht : Tabs w0) (n v : Int) (hv : setS n = v) :
    Calls Tryd.prog 18 #[.int .i64 n] w fun e u => e = .returned (.int .i64 v) ∧ Hold w0 u ls bs := by
  subst hv
  exact (set_calls n w (ht.keep h.1)).mono fun e u ⟨he, hb⟩ => ⟨he, h.below hb⟩
theorem bad_h {w0 w : World} {ls : List (Option Addr × Nat × List S25)} {bs : List (Option Addr × Nat × List Int)} (h : Hold w0 w ls bs) (A : Option Addr) (n c : Nat) (p s : Int) (hg : ¬ goodE n p s) :
    Calls Tryd.prog 12 #[.slice A n c, .int .i64 p, .int .i64 s] w fun e u => e = .returned (.tuple #[.agg #[.int .i64 0, .int .i64 0, .slice none 0 0, .slice none 0 0], .int .i64 1]) ∧ Hold w0 u ls bs :=
  (encode_bad A n c p s w hg).mono fun e u ⟨hb, he⟩ => ⟨he, h.below hb⟩
set_option maxRecDepth 100000 in
set_option maxHeartbeats 1000000 in
theorem head_calls (w : World) (ht : Tabs w) : Calls Tryd.prog 10 #[] w fun e w' => e = .returned (.bool true) ∧ Below w.heap.size w w' := by
  have HT := Lib.hid ht
  have H0 := Lib.hid (show Hold w w [] [] from ⟨Below.refl _ _, (fun _ h => by cases h), (fun _ h => by cases h)⟩)
  obtain ⟨E, hE⟩ : ∃ E, E = exB := ⟨_, rfl⟩
  have HE := Lib.hid hE
  obtain ⟨z1, hz1⟩ : ∃ z, z = (recL exB up15 [] 0).1 := ⟨_, rfl⟩
  obtain ⟨z2, hz2⟩ : ∃ z, z = (recL exB dn16 [] 0).1 := ⟨_, rfl⟩
  have R1 := Lib.hid (show recL E up15 [] 0 = (z1, 15, true) by rw [hE, hz1, ← ex_up])
  have R2 := Lib.hid (show recL E dn16 [] 0 = (z2, 16, true) by rw [hE, hz2, ← ex_dn])
  obtain ⟨⟨p1, b1⟩, hp1⟩ : ∃ p, p = pageS z1 := ⟨_, rfl⟩
  have hb1 : b1 = false := by have := ex_upP; rw [← hz1, ← hp1] at this; exact this
  subst hb1
  have P1 := Lib.hid hp1.symm
  have P2 := Lib.hid (show pageS z2 = (E, true) by rw [hE, hz2, ex_dnP])
  have S3 := Lib.hid (show sumE E 3 = List.replicate 16 3 by rw [hE]; exact ex_enc)
  have EX := Lib.hid (fun w0 w1 ls bs (h : Hold w0 w1 ls bs) => hE ▸ ex_h h)
  have LE := Lib.hid (show E.length = 256 by rw [hE]; simp [exB])
  clear ht hE hz1 hz2 hp1
  go_enter Tryd.func10, Tryd.ntmps10
  go_wp2_with fail
  refine (EX.out _ _ _ _ H0.out).mono ?_
  rintro e u1 ⟨A1, c1, rfl, hc1, h1⟩
  have H1 := Lib.hid h1
  clear h1
  go_wp2_with fail
  refine (enc_h H1.out HT.out E 2 3 (List.mem_cons_self) hc1 (by omega) (by omega)).mono ?_
  rintro e u2 ⟨A2, c2, rfl, hc2, h2⟩
  have H2 := Lib.hid h2
  clear h2
  go_wp2_with fail
  obtain ⟨u2b, hu2⟩ : ∃ u, u = u2.alloc (Obj.cells #[Value.int IntKind.i64 2, Value.int IntKind.i64 3, Value.slice A2 16 c2, Value.slice none 0 0] 26) := ⟨_, rfl⟩
  have X2 := Lib.hid (show Box u2b u2.heap.size [Value.int IntKind.i64 2, Value.int IntKind.i64 3, Value.slice A2 16 c2, Value.slice none 0 0] by rw [hu2]; exact Box.new _ _ _)
  have H2b := Lib.hid (show Hold w u2b _ _ by rw [hu2]; exact H2.out.alloc _)
  have K2 := Lib.hid H2b.out.rebase
  have TB := Lib.hid (HT.out.keep H2b.out.1)
  rw [← hu2]
  clear hu2
  refine (EX.out _ _ _ _ K2.out).mono ?_
  rintro e u3 ⟨A3, c3, rfl, hc3, h3⟩
  have H3 := Lib.hid h3
  clear h3
  go_wp2_with fail
  refine (rcv_h (H3.out.alloc _) TB.out E _ _ _ up15 rfl List.mem_cons_self hc3 (lit_C .i64 u3 3 up15 (by decide)) (by decide) (by decide) z1 15 true _ R1.out rfl).mono ?_
  rintro e u4 ⟨A4, c4, rfl, hc4, h4⟩
  have H4 := Lib.hid h4
  clear h4
  go_wp2_with fail
  refine (page_h H4.out z1 p1 false _ List.mem_cons_self rfl P1.out rfl).mono ?_
  rintro e u5 ⟨A5, c5, rfl, hc5, h5⟩
  have H5 := Lib.hid h5
  clear h5
  go_wp2_with fail
  refine (EX.out _ _ _ _ H5.out).mono ?_
  rintro e u6 ⟨A6, c6, rfl, hc6, h6⟩
  have H6 := Lib.hid h6
  clear h6
  go_wp2_with fail
  refine (rcv_h (H6.out.alloc _) TB.out E _ _ _ dn16 rfl List.mem_cons_self hc6 (lit_C .i64 u6 3 dn16 (by decide)) (by decide) (by decide) z2 16 true _ R2.out rfl).mono ?_
  rintro e u7 ⟨A7, c7, rfl, hc7, h7⟩
  have H7 := Lib.hid h7
  clear h7
  go_wp2_with fail
  refine (page_h H7.out z2 E true _ List.mem_cons_self rfl P2.out LE.out).mono ?_
  rintro e u8 ⟨A8, c8, rfl, hc8, h8⟩
  have H8 := Lib.hid h8
  clear h8
  go_wp2_with fail
  refine (bad_h H8.out _ _ _ _ _ (by unfold goodE; omega)).mono ?_
  rintro e u9 ⟨rfl, h9⟩
  have H9 := Lib.hid h9
  clear h9
  go_wp2_with fail
  refine (set_h (H9.out.alloc _) TB.out _ 1 (by decide)).mono ?_
  rintro e u10 ⟨rfl, h10⟩
  have H10 := Lib.hid h10
  clear h10
  go_wp2_with fail
  refine (set_h H10.out TB.out _ 8 (by decide)).mono ?_
  rintro e u11 ⟨rfl, h11⟩
  have H11 := Lib.hid h11
  clear h11
  go_wp2_with fail
  refine (set_h H11.out TB.out _ 32768 (by decide)).mono ?_
  rintro e u12 ⟨rfl, h12⟩
  have H12 := Lib.hid h12
  clear h12
  go_wp2_with fail
  refine (set_h H12.out TB.out _ 0 (by decide)).mono ?_
  rintro e u13 ⟨rfl, h13⟩
  have H13 := Lib.hid h13
  clear h13
  have X13 := Lib.hid (X2.out.below H13.out.1)
  have xc0 := X13.out.2 0 _ rfl
  have xc1 := X13.out.2 1 _ rfl
  have xc2 := X13.out.2 2 _ rfl
  go_wp2_with fail
  have hm2 : (A2, 16, List.replicate 16 3) ∈ [(A8, 256, E), (A6, 256, E), (A5, p1.length, p1), (A3, 256, E), (A2, 16, sumE E 3), (A1, 256, E)] := by rw [S3.out]; simp
  refine (bytes_h ((H13.out.alloc _).addb (lit_C .u8 u13 5 (List.replicate 16 3) (by decide))) (List.replicate 16 3) (List.replicate 16 3) true 300 (List.mem_cons_of_mem _ hm2) List.mem_cons_self rfl rfl hc2 (Nat.le_refl 16) ex_b3).mono ?_
  rintro e u14 ⟨rfl, h14⟩
  have H14 := Lib.hid h14
  clear h14 hm2
  go_wp2_with fail
  refine (EX.out _ _ _ _ H14.out).mono ?_
  rintro e u15 ⟨A15, c15, rfl, hc15, h15⟩
  have H15 := Lib.hid h15
  clear h15
  go_wp2_with fail
  refine (bytes_h H15.out E E true 300 (List.mem_cons_of_mem _ (List.mem_cons_of_mem _ List.mem_cons_self)) List.mem_cons_self LE.out.symm LE.out.symm hc8 hc15 (by rw [HE.out]; exact ex_bb)).mono ?_
  rintro e u16 ⟨rfl, h16⟩
  have H16 := Lib.hid h16
  clear h16
  go_wp2_with fail
  go_ret
  exact ⟨rfl, (H2b.out.onto H16.out).1⟩
end Go.Proofs.YtknlbeojdmeljaaDoor.H
namespace Go.Proofs.YtknlbeojdmeljaaDoor.L
open Go.RowKit Go.Proofs.YtknlbeojdmeljaaDoorW.PrintWords Go.Proofs.YtknlbeojdmeljaaDoorW.PrintLast Go.Proofs.YtknlbeojdmeljaaDoorW.PrintMore Go.Proofs.YtknlbeojdmeljaaDoor.P Go.Proofs.YtknlbeojdmeljaaDoor.H
set_option linter.unusedVariables false
set_option linter.unusedSimpArgs false
def seedB (s : Int) : Bool := decide (0 ≤ s ∧ s ≤ 1000000000)
theorem seed_f (n : Int) : slotmeshref34_Seed.f n = some (seedB n) := by
  unfold slotmeshref34_Seed.f seedB
  by_cases h : 0 ≤ n
  · rw [if_pos h]; simp [h]
  · rw [if_neg h]; simp [h]
end Go.Proofs.YtknlbeojdmeljaaDoor.L
namespace Go.Proofs.YtknlbeojdmeljaaDoor.H
open Go.RowKit Go.Proofs.YtknlbeojdmeljaaDoorW.PrintWords Go.Proofs.YtknlbeojdmeljaaDoorW.PrintLast Go.Proofs.YtknlbeojdmeljaaDoorW.PrintMore Go.Proofs.YtknlbeojdmeljaaDoor.P
set_option linter.unusedVariables false
set_option linter.unusedSimpArgs false
variable {w0 w : World} {ls : List (Option Addr × Nat × List S25)} {bs : List (Option Addr × Nat × List Int)}
theorem head_h (h : Hold w0 w ls bs) (ht : Tabs w0) : Calls Tryd.prog 10 #[] w fun e u => e = .returned (.bool true) ∧ Hold w0 u ls bs :=
  (head_calls w (ht.keep h.1)).mono fun e u ⟨he, hb⟩ => ⟨he, h.below hb⟩
theorem seed_h (h : Hold w0 w ls bs) (n : Int) (b : Bool) (hb : L.seedB n = b) : Calls Tryd.prog 25 #[.int .i64 n] w fun e u => e = .returned (.bool b) ∧ Hold w0 u ls bs := by
  subst hb
  exact (slotmeshref34_Seed.calls n _ w (L.seed_f n)).mono fun e u ⟨he, hd⟩ => ⟨he, h.below hd.below⟩
theorem bytesE_h (h : Hold w0 w ls bs) {A A1 : Option Addr} {c c1 n n1 : Nat} (xs ys : List Int) (b : Bool) (hA : (A, n, xs) ∈ bs) (hB : (A1, n1, ys) ∈ bs) (hn : n = xs.length) (hn1 : n1 = ys.length) (hc : n ≤ c) (hc1 : n1 ≤ c1) (hb : (xs == ys) = b) :
    Calls Tryd.prog 22 #[.slice A n c, .slice A1 n1 c1] w fun e u => e = .returned (.bool b) ∧ Hold w0 u ls bs := by
  have hl := (h.2.2 _ hA).2.1
  obtain ⟨K, hK⟩ := L.refBytes xs ys (by simp only at hl; omega)
  exact bytes_h h xs ys b K hA hB hn hn1 hc hc1 (by rw [← hb]; exact hK K (Nat.le_refl K))
end Go.Proofs.YtknlbeojdmeljaaDoor.H
namespace Go.Proofs.YtknlbeojdmeljaaDoor.H
open Go.RowKit Go.Proofs.YtknlbeojdmeljaaDoorW.PrintWords Go.Proofs.YtknlbeojdmeljaaDoorW.PrintLast Go.Proofs.YtknlbeojdmeljaaDoorW.PrintMore Go.Proofs.YtknlbeojdmeljaaDoor.P
set_option linter.unusedVariables false
set_option linter.unusedSimpArgs false
theorem sumE_N {P : List Int} {s : Int} {m : Nat} (hs : 0 ≤ s ∧ s ≤ 1000000000) (hm : setS s = (m : Int)) : sumE P s = L.sumB P m := by
  rw [L.sumE_eq P s hs, hm, Int.toNat_natCast]
theorem Hold.start2 (w : World) {A A1 : Option Addr} {n n1 : Nat} {P P1 : List Int} (h : Kd.C (Kd.int .u8) w A n P) (h1 : Kd.C (Kd.int .u8) w A1 n1 P1) : Hold w w [] [(A, n, P), (A1, n1, P1)] :=
  ⟨Below.refl _ _, (fun _ h => by cases h), (fun p hp => by rcases List.mem_cons.1 hp with rfl | hp; exact h; rw [List.mem_singleton.1 hp]; exact h1)⟩
end Go.Proofs.YtknlbeojdmeljaaDoor.H
namespace Go.Proofs.YtknlbeojdmeljaaDoor.H
open Go.RowKit Go.Proofs.YtknlbeojdmeljaaDoorW.PrintWords Go.Proofs.YtknlbeojdmeljaaDoorW.PrintLast Go.Proofs.YtknlbeojdmeljaaDoorW.PrintMore Go.Proofs.YtknlbeojdmeljaaDoor.P
set_option linter.unusedVariables false
set_option linter.unusedSimpArgs false
theorem xor_h {w0 w : World} {ls : List (Option Addr × Nat × List S25)} {bs : List (Option Addr × Nat × List Int)} (h : Hold w0 w ls bs) {A A1 : Option Addr} {c c1 n n1 : Nat} (xs ys : List Int) (hA : (A, n, xs) ∈ bs) (hB : (A1, n1, ys) ∈ bs) (hx : xs.length = 16) (hy : ys.length = 16) (hn : n = 16) (hn1 : n1 = 16) (hc : 16 ≤ c) (hc1 : 16 ≤ c1) :
    Calls Tryd.prog 26 #[.slice A n c, .slice A1 n1 c1] w fun e u => ∃ A' c', e = .returned (.slice A' 16 c') ∧ 16 ≤ c' ∧ Hold w0 u ls ((A', 16, xorD xs ys) :: bs) := by
  subst hn hn1
  obtain ⟨K, hK⟩ := L.refXor xs ys hx hy
  have hl : (xorD xs ys).length = 16 := L.xorD_len hx hy
  have h1 := h.2.2 _ hA
  have h2 := h.2.2 _ hB
  have hcall := slotmeshref33_Xor.calls K A c xs A1 c1 ys _ w (by rw [hx]; exact h1) (by omega) (by rw [hy]; exact h2) (by omega) (hK K (Nat.le_refl K))
  rw [hx, hy] at hcall
  refine hcall.mono ?_
  rintro e u ⟨v, rfl, hR, hb⟩
  obtain ⟨A', c', rfl⟩ := Kd.R_slice hR
  obtain ⟨_, hl', hcc⟩ := Kd.R_reads' hR
  rw [hl] at hl' hcc ⊢
  exact ⟨A', c', rfl, hl', (h.below hb).addb hcc⟩
def sums_T : Bool × List (List Nat × List Nat) := (true, [([], []), ([], []), ([], []), ([1, 2], [1, 2]), ([3], [3]), ([], []), ([], []), ([5, 6], [5, 6]), ([7], [7]), ([4, 8], [4, 8]), ([9], [9]), ([0, 10], [0, 10]), ([11, 11, 0, 1, 2, 3, 4, 5, 6, 7, 8, 9, 10, 11], [0, 11])])
def sums_B : List Nat := [0, 0, 0, 6, 14, 0, 0, 96, 224, 510, 1022, 2047, 4095]
theorem sums_tab : rtab .any (opsOf Tryd.f8 9) = sums_T := by kernel_rfl
theorem sums_bits : waitsOk sums_T.2 sums_B = true := by kernel_rfl
/-- the sum of two pages, byte by byte -/
def xorTo (P P1 : List Int) (k : Nat) : List Int := (xorD P P1).take k
theorem xorTo_len (P P1 : List Int) (k : Nat) (h : P.length = 256) (h1 : P1.length = 256) (hk : k ≤ 256) : (xorTo P P1 k).length = k := by
  simp [xorTo, xorD, h, h1]; omega
theorem xorTo_succ {P P1 : List Int} (h : P.length = 256) (h1 : P1.length = 256) {i : Int} (h0 : 0 ≤ i) (hi : i < 256) : xorTo P P1 (i + 1).toNat = xorTo P P1 i.toNat ++ [Go.bits .xor .u8 (rd P i) (rd P1 i)] := by
  have e : (i + 1).toNat = i.toNat + 1 := by omega
  unfold xorTo
  have hk : i.toNat < (xorD P P1).length := by simp [xorD, h, h1]; omega
  rw [e, List.take_succ_eq_append_getElem hk]
  have a : rd P i = P[i.toNat]'(by omega) := by simp [rd, show i.toNat < P.length by omega]
  have b : rd P1 i = P1[i.toNat]'(by omega) := by simp [rd, show i.toNat < P1.length by omega]
  rw [a, b]
  simp [xorD, xorB]
set_option maxRecDepth 100000 in
set_option maxHeartbeats 2000000 in
theorem sums34_calls (A : Option Addr) (c n : Nat) (P : List Int) (hB : ∀ b ∈ P, L.isB b) (hn : n = P.length) (hc : n ≤ c) (A1 : Option Addr) (c1 n1 : Nat) (P1 : List Int) (hB1 : ∀ b ∈ P1, L.isB b) (hn1 : n1 = P1.length) (hc1 : n1 ≤ c1) (s : Int) (w : World) (hr : Kd.C (Kd.int .u8) w A n P) (hr1 : Kd.C (Kd.int .u8) w A1 n1 P1) (ht : Tabs w) :
    Calls Tryd.prog 8 #[.slice A n c, .slice A1 n1 c1, .int .i64 s] w fun e w' => e = .returned (.bool true) ∧ Below w.heap.size w w' := by
  have HT := Lib.hid ht
  have HN := Lib.hid hn
  have HN1 := Lib.hid hn1
  have H0 := Lib.hid (Hold.start2 w hr hr1)
  by_cases hs : L.seedB s = true
  · have HS := Lib.hid hs
    have hss : 0 ≤ s ∧ s ≤ 1000000000 := of_decide_eq_true hs
    by_cases hv : n = 256
    · by_cases hv1 : n1 = 256
      · subst hv hv1
        have pb : L.PB P := ⟨hn.symm, hB⟩
        have pb1 : L.PB P1 := ⟨hn1.symm, hB1⟩
        obtain ⟨m, m1, m2, m3⟩ := L.setN s hss
        have hE := sumE_N (P := P) hss m1
        have hE1 := sumE_N (P := P1) hss m1
        have hE2 := sumE_N (P := xorD P P1) hss m1
        have hsum := L.sum_pages pb pb1 m
        rw [← hE, ← hE1, ← hE2] at hsum
        have hEl := sumE_len hn.symm s hss
        have hEl1 := sumE_len hn1.symm s hss
        obtain ⟨x, hx⟩ : ∃ x, x = sumE P s := ⟨_, rfl⟩
        obtain ⟨y, hy⟩ : ∃ y, y = sumE P1 s := ⟨_, rfl⟩
        obtain ⟨z, hz⟩ : ∃ z, z = sumE (xorD P P1) s := ⟨_, rfl⟩
        rw [← hx, ← hy, ← hz] at hsum
        rw [← hx] at hEl
        rw [← hy] at hEl1
        have hXYL : (xorD x y).length = 16 := L.xorD_len hEl hEl1
        have HX := Lib.hid hEl
        have HY := Lib.hid hEl1
        have HZ := Lib.hid (show z.length = 16 by rw [hsum]; exact hXYL)
        have HXYL := Lib.hid hXYL
        have HEQ := Lib.hid (show (z == xorD x y) = true by rw [hsum]; exact beq_self_eq_true _)
        have EX := Lib.hid hx.symm
        have EY := Lib.hid hy.symm
        have EZ := Lib.hid hz.symm
        have HSS := Lib.hid hss
        have M1 := Lib.hid m1
        have NP : P.length = 256 := hn.symm
        have NP1 : P1.length = 256 := hn1.symm
        have HP := Lib.hid NP
        have HP1 := Lib.hid NP1
        have HR := Lib.hid hr
        have HR1 := Lib.hid hr1
        clear ht hn hn1 hr hr1 hB hB1 pb pb1 m1 hE hE1 hE2 hsum hEl hEl1 hXYL hx hy hz hss hs NP NP1
        go_enter Tryd.func8, Tryd.ntmps8
        go_wp2_with fail
        refine (head_h H0.out HT.out).mono ?_
        rintro e q1 ⟨rfl, h1⟩
        have H1 := Lib.hid h1
        clear h1
        go_wp2_with fail
        refine (seed_h H1.out s true HS.out).mono ?_
        rintro e q2 ⟨rfl, h2⟩
        have H2 := Lib.hid h2
        clear h2
        go_wp2_with fail
        go_loopw [9, 10] (fun lv iv wr => ∃ i : Int, 0 ≤ i ∧ i ≤ 256 ∧ iv = .int .i64 i ∧ Aside0 (Kd.R (Kd.int .u8) 5 wr w.heap.size (fun _ => True) lv (xorTo P P1 i.toNat)) ∧ Aside0 (Below w.heap.size w wr)) (fun _ iv _ => 256 - (intOf iv).toNat)
        case atStart => exact ⟨0, by omega, by omega, rfl, ⟨Kd.R_nil _ _ _ _ _⟩, ⟨H2.out.1⟩⟩
        case round =>
          obtain ⟨i, hi0, hi1, rfl, HO_5, HB⟩ := hrel
          by_cases hlt : i < 256
          · have c4b0 : decide (0 ≤ i) = true := decide_eq_true hi0
            have c5b0 : decide (i < 256) = true := decide_eq_true hlt
            obtain ⟨y106, hy106⟩ : ∃ y_ : List Int, y_ = (xorTo P P1 i.toNat ++ [Go.bits .xor .u8 (rd P i) (rd P1 i)]) := ⟨_, rfl⟩
            have Ny106 := Aside0.mk hy106
            clear hy106
            try go_wp2
            have n0_ := Aside0.mk (Kd.R_drew HO_5.out)
            have n1_ := Aside0.mk (below_drew1 HB.out)
            clear HO_5
            clear HB
            have HO_5 := n0_
            have HB := n1_
            clear n0_ n1_
            obtain ⟨ad104, e104, hx104_0⟩ := Kd.at_int HR.out i hi0 hlt
            have hw104_0 := hx104_0
            cases e104
            replace hx104_0 := (HB.out.cell (World.block_lt_of_cell? w _ hx104_0)).trans hx104_0
            obtain ⟨ad105, e105, hx105_0⟩ := Kd.at_int HR1.out i hi0 hlt
            have hw105_0 := hx105_0
            cases e105
            replace hx105_0 := (HB.out.cell (World.block_lt_of_cell? w _ hx105_0)).trans hx105_0
            refine start_ (n := 13) (S := fun w' => w'.cell? (ad104.add (i).toNat) = some (.int .u8 (rd P i)) ∧ w'.cell? (ad105.add (i).toNat) = some (.int .u8 (rd P1 i))) (ds := []) #[false, false, false, false, false, false, false, false, false, false, false, false, false] (by kernel_rfl) rfl rfl ⟨((HB.out.cell (World.block_lt_of_cell? w _ hw104_0)).trans hw104_0), ((HB.out.cell (World.block_lt_of_cell? w _ hw105_0)).trans hw105_0)⟩ (fun hHeld => ?_); refine with_tabW sums_tab sums_bits (fun HT_ HW_ => ?_)
            generalize wr.drew = w8 at HO_5 HB hx104_0 hx105_0 hHeld ⊢
            refine pure_ (i := 0) (N := some 40) (v := ?_) (a' := ?_) #[true, false, false, false, false, false, false, false, false, false, false, false, false] rfl rfl (any_of HT_.out (by kernel_rfl)) (fun _ _ _ h => h) (Or.inl ⟨by rfl, ?_⟩) ?_ ?_
            rotate_left
            · intro w'
              go_simp
              with_reducible rfl
            rotate_left
            · simp only [Act.put, List.setIfInBounds_toArray, List.set_cons_zero, List.set_cons_succ, i64_w, i32_w]
              rfl
            refine pure_ (i := 1) (N := some 41) (v := ?_) (a' := ?_) #[true, true, false, false, false, false, false, false, false, false, false, false, false] rfl rfl (any_of HT_.out (by kernel_rfl)) (fun _ _ _ h => h) (Or.inl ⟨by rfl, ?_⟩) ?_ ?_
            rotate_left
            · intro w'
              go_simp
              with_reducible rfl
            rotate_left
            · simp only [Act.put, List.setIfInBounds_toArray, List.set_cons_zero, List.set_cons_succ, i64_w, i32_w]
              rfl
            refine pure_ (i := 2) (N := some 42) (v := ?_) (a' := ?_) #[true, true, true, false, false, false, false, false, false, false, false, false, false] rfl rfl (any_of HT_.out (by kernel_rfl)) (fun _ _ _ h => h) (Or.inl ⟨by rfl, ?_⟩) ?_ ?_
            rotate_left
            · intro w'
              go_simp
              with_reducible rfl
            rotate_left
            · simp only [Act.put, List.setIfInBounds_toArray, List.set_cons_zero, List.set_cons_succ, i64_w, i32_w]
              rfl
            refine pure_ (i := 3) (N := some 43) (v := ?_) (a' := ?_) #[true, true, true, true, false, false, false, false, false, false, false, false, false] rfl rfl (any_of HT_.out (by kernel_rfl)) (fun _ _ _ h => h) (Or.inl ⟨by rfl, ?_⟩) ?_ ?_
            rotate_left
            · intro w'
              go_simp
              with_reducible rfl
            rotate_left
            · simp only [Act.put, List.setIfInBounds_toArray, List.set_cons_zero, List.set_cons_succ, i64_w, i32_w]
              rfl
            refine pure_ (i := 5) (N := some 45) (v := ?_) (a' := ?_) #[true, true, true, true, false, true, false, false, false, false, false, false, false] rfl rfl (any_of HT_.out (by kernel_rfl)) (fun _ _ _ h => h) (Or.inl ⟨by rfl, ?_⟩) ?_ ?_
            rotate_left
            · intro w'
              go_simp
              with_reducible rfl
            rotate_left
            · simp only [Act.put, List.setIfInBounds_toArray, List.set_cons_zero, List.set_cons_succ, i64_w, i32_w]
              rfl
            refine pure_ (i := 6) (N := some 46) (v := ?_) (a' := ?_) #[true, true, true, true, false, true, true, false, false, false, false, false, false] rfl rfl (any_of HT_.out (by kernel_rfl)) (fun _ _ _ h => h) (Or.inl ⟨by rfl, ?_⟩) ?_ ?_
            rotate_left
            · intro w'
              go_simp
              with_reducible rfl
            rotate_left
            · simp only [Act.put, List.setIfInBounds_toArray, List.set_cons_zero, List.set_cons_succ, i64_w, i32_w]
              rfl
            refine pure_ (i := 7) (N := some 47) (v := ?_) (a' := ?_) #[true, true, true, true, false, true, true, true, false, false, false, false, false] rfl rfl (any_of HT_.out (by kernel_rfl)) (fun _ _ _ h => h) (Or.inl ⟨by rfl, ?_⟩) ?_ ?_
            rotate_left
            · intro w'
              go_simp
              with_reducible rfl
            rotate_left
            · simp only [Act.put, List.setIfInBounds_toArray, List.set_cons_zero, List.set_cons_succ, i64_w, i32_w]
              rfl
            refine take_ (i := 4) (N := some 44) (v := ?_) (a' := ?_) #[true, true, true, true, true, true, true, true, false, false, false, false, false] rfl rfl (take_ofW HT_.out HW_.out (by kernel_rfl)) (fun _ _ _ h => h) (Or.inl ⟨by rfl, ?_⟩) hHeld ?_ ?_
            rotate_left
            · rintro w' ⟨s0, s1⟩
              go_simp
              with_reducible rfl
            rotate_left
            · simp only [Act.put, List.setIfInBounds_toArray, List.set_cons_zero, List.set_cons_succ, i64_w, i32_w]
              rfl
            refine take_ (i := 8) (N := some 48) (v := ?_) (a' := ?_) #[true, true, true, true, true, true, true, true, true, false, false, false, false] rfl rfl (take_ofW HT_.out HW_.out (by kernel_rfl)) (fun _ _ _ h => h) (Or.inl ⟨by rfl, ?_⟩) hHeld ?_ ?_
            rotate_left
            · rintro w' ⟨s0, s1⟩
              go_simp
              with_reducible rfl
            rotate_left
            · simp only [Act.put, List.setIfInBounds_toArray, List.set_cons_zero, List.set_cons_succ, i64_w, i32_w]
              rfl
            refine pure_ (i := 9) (N := some 49) (v := ?_) (a' := ?_) #[true, true, true, true, true, true, true, true, true, true, false, false, false] rfl rfl (any_of HT_.out (by kernel_rfl)) (fun _ _ _ h => h) (Or.inl ⟨by rfl, ?_⟩) ?_ ?_
            rotate_left
            · intro w'
              go_simp
              with_reducible rfl
            rotate_left
            · simp only [Act.put, List.setIfInBounds_toArray, List.set_cons_zero, List.set_cons_succ, i64_w, i32_w]
              rfl
            refine one_ (i := 10) (N := some 50) #[true, true, true, true, true, true, true, true, true, true, true, false, false] rfl rfl (one_of HT_.out (by kernel_rfl)) (by decide) (fun K hK => ?_)
            refine value_ (w1 := ?_) (v := ?_) (by rfl) rfl ?_ ?_
            rotate_left 2
            · go_simp
              constructor
              · rfl
              · rfl
            refine hK.out _ _ ⟨(World.cell?_alloc_lt _ _ _ (World.block_lt_of_cell? _ _ (((HB.out.cell (World.block_lt_of_cell? w _ hw104_0)).trans hw104_0)))).trans (((HB.out.cell (World.block_lt_of_cell? w _ hw104_0)).trans hw104_0)), (World.cell?_alloc_lt _ _ _ (World.block_lt_of_cell? _ _ (((HB.out.cell (World.block_lt_of_cell? w _ hw105_0)).trans hw105_0)))).trans (((HB.out.cell (World.block_lt_of_cell? w _ hw105_0)).trans hw105_0))⟩ (fun hHeld => ?_)
            clear hK K
            refine norm_ (a' := ?_) ?_ ?_
            rotate_left
            · show Act.put _ (some 50) _ = _
              simp only [Act.put, List.setIfInBounds_toArray, List.set_cons_zero, List.set_cons_succ, i64_w, i32_w]
              rfl
            refine one_ (i := 11) (N := some 51) #[true, true, true, true, true, true, true, true, true, true, true, true, false] rfl rfl (one_of HT_.out (by kernel_rfl)) (by decide) (fun K hK => ?_)
            refine Kd.R_append_step (Kd.int .u8) (w0 := w) w.heap.size (by rfl) (.tmp 40) (.tmp 50) 22 5 (.int .u8 0) 1 rfl Tryd.underlying22 info5 rfl (by decide) (by omega) u9 (xorTo P P1 i.toNat) (Go.bits .xor .u8 (rd P i) (rd P1 i)) [.int .u8 (Go.bits .xor .u8 (rd P i) (rd P1 i))] (fun _ => True) (fun _ => False) rfl rfl ?aP (fun _ hk => hk.elim) ?aF ?aO ?aB ?aS ?aL ?_
            (case aP => exact rfl)
            (case aB => exact (by repeat (first | (with_reducible first | exact HB.out | apply below_alloc | apply pw_below_drewN | apply below_drew1) | exact HB.out)))
            (case aF => exact (fun _ _ => trivial))
            (case aO => exact (by (with_reducible repeat (first | apply Kd.R_alloc | apply Kd.R_drewN | apply Kd.R_drew)); exact HO_5.out))
            (case aS => exact (below_size (by repeat (first | (with_reducible first | exact HB.out | apply below_alloc | apply pw_below_drewN | apply below_drew1) | exact HB.out))))
            (case aL => rw [xorTo_len _ _ _ HP.out HP1.out (by omega)]; omega)
            intro v107 w9 ho hb hg hat
            rw [← Ny106.out] at ho
            have n0_ := Aside0.mk (hb)
            have n1_ := Aside0.mk (ho)
            clear HB
            clear HO_5
            have HB := n0_
            have HO108 := n1_
            clear n0_ n1_
            clear ho hb hg hat
            refine hK.out _ _ ⟨((HB.out.cell (World.block_lt_of_cell? w _ hw104_0)).trans hw104_0), ((HB.out.cell (World.block_lt_of_cell? w _ hw105_0)).trans hw105_0)⟩ (fun hHeld => ?_)
            clear hK K
            refine norm_ (a' := ?_) ?_ ?_
            rotate_left
            · show Act.put _ (some 51) _ = _
              simp only [Act.put, List.setIfInBounds_toArray, List.set_cons_zero, List.set_cons_succ, i64_w, i32_w]
              rfl
            refine pure_ (i := 12) (N := some 9) (v := ?_) (a' := ?_) #[true, true, true, true, true, true, true, true, true, true, true, true, true] rfl rfl (any_of HT_.out (by kernel_rfl)) (fun _ _ _ h => h) (Or.inl ⟨by rfl, ?_⟩) ?_ ?_
            rotate_left
            · intro w'
              go_simp
              with_reducible rfl
            rotate_left
            · simp only [Act.put, List.setIfInBounds_toArray, List.set_cons_zero, List.set_cons_succ, i64_w, i32_w]
              rfl
            refine done_ (done_of HT_.out (by kernel_rfl)) ?_
            try go_wp2
            go_roundw
            case rel => exact ⟨i + 1, by omega, by omega, rfl, ⟨by rw [xorTo_succ HP.out HP1.out hi0 hlt, ← Ny106.out]; exact HO108.out⟩, ⟨HB.out⟩⟩
            case measure => simp [intOf]; omega
          · obtain rfl : i = 256 := by omega
            have hR := HO_5.out
            have e256 : xorTo P P1 (256 : Int).toNat = xorD P P1 := by
              unfold xorTo
              exact List.take_of_length_le (by simp [xorD, HP.out, HP1.out])
            rw [e256] at hR
            have hxl : (xorD P P1).length = 256 := by simp [xorD, HP.out, HP1.out]
            obtain ⟨A3, c3, e3⟩ := Kd.R_slice hR
            rw [hxl] at e3
            subst e3
            obtain ⟨hq, hc3, hC3⟩ := Kd.R_reads' hR
            have hC3b : Kd.C (Kd.int .u8) wr A3 256 (xorD P P1) := by first | exact hC3 | (rw [hxl] at hC3; exact hC3)
            have K3 := Lib.hid ((H0.out.below HB.out).addb hC3b)
            clear hR e256 hxl hq hC3 hC3b HO_5 HB hlt hi0 hi1
            go_wp2_with fail
            refine (enc_h K3.out HT.out P 0 s (List.mem_cons_of_mem _ List.mem_cons_self) hc (by omega) HSS.out).mono ?_
            rw [EX.out]
            rintro e q4 ⟨A4, c4, rfl, hc4, h4⟩
            have H4 := Lib.hid h4
            clear h4
            go_wp2_with fail
            obtain ⟨q4b, hu4⟩ : ∃ u, u = q4.alloc (Obj.cells #[Value.int IntKind.i64 0, Value.int IntKind.i64 s, Value.slice A4 16 c4, Value.slice none 0 0] 26) := ⟨_, rfl⟩
            have X4 := Lib.hid (show Box q4b q4.heap.size [Value.int IntKind.i64 0, Value.int IntKind.i64 s, Value.slice A4 16 c4, Value.slice none 0 0] by rw [hu4]; exact Box.new _ _ _)
            have H4b := Lib.hid (show Hold w q4b _ _ by rw [hu4]; exact H4.out.alloc _)
            have K4 := Lib.hid H4b.out.rebase
            have TB4 := Lib.hid (HT.out.keep H4b.out.1)
            rw [← hu4]
            clear hu4
            refine (enc_h K4.out TB4.out P1 0 s (List.mem_cons_of_mem _ (List.mem_cons_of_mem _ (List.mem_cons_of_mem _ List.mem_cons_self))) hc1 (by omega) HSS.out).mono ?_
            rw [EY.out]
            rintro e q5 ⟨A5, c5, rfl, hc5, h5⟩
            have H5 := Lib.hid h5
            clear h5
            go_wp2_with fail
            obtain ⟨q5b, hu5⟩ : ∃ u, u = q5.alloc (Obj.cells #[Value.int IntKind.i64 0, Value.int IntKind.i64 s, Value.slice A5 16 c5, Value.slice none 0 0] 26) := ⟨_, rfl⟩
            have X5 := Lib.hid (show Box q5b q5.heap.size [Value.int IntKind.i64 0, Value.int IntKind.i64 s, Value.slice A5 16 c5, Value.slice none 0 0] by rw [hu5]; exact Box.new _ _ _)
            have X4b := Lib.hid (show Box q5b q4.heap.size [Value.int IntKind.i64 0, Value.int IntKind.i64 s, Value.slice A4 16 c4, Value.slice none 0 0] by rw [hu5]; exact X4.out.below (H5.out.alloc _).1)
            have H5b := Lib.hid (show Hold q4b q5b _ _ by rw [hu5]; exact H5.out.alloc _)
            have K5 := Lib.hid H5b.out.rebase
            have TB5 := Lib.hid (TB4.out.keep H5b.out.1)
            rw [← hu5]
            clear hu5
            refine (enc_h K5.out TB5.out (xorD P P1) 0 s (List.mem_cons_of_mem _ (List.mem_cons_of_mem _ List.mem_cons_self)) hc3 (by omega) HSS.out).mono ?_
            rw [EZ.out]
            rintro e q6 ⟨A6, c6, rfl, hc6, h6⟩
            have H6 := Lib.hid h6
            clear h6
            have x4 := X4b.out.below H6.out.1
            have x5 := X5.out.below H6.out.1
            have xa := x4.2 2 _ rfl
            have xb := x5.2 2 _ rfl
            have xs4 := x4.1
            have xs5 := x5.1
            clear x4 x5
            go_wp2_with fail
            obtain ⟨q6b, hu6⟩ : ∃ u, u = q6.alloc (Obj.cells #[Value.int IntKind.i64 0, Value.int IntKind.i64 s, Value.slice A6 16 c6, Value.slice none 0 0] 26) := ⟨_, rfl⟩
            have hb6 : Below q6.heap.size q6 q6b := by rw [hu6]; exact (Below.refl _ _).alloc (Nat.le_refl _) _
            have X6 := Lib.hid (show Box q6b q6.heap.size [Value.int IntKind.i64 0, Value.int IntKind.i64 s, Value.slice A6 16 c6, Value.slice none 0 0] by rw [hu6]; exact Box.new _ _ _)
            have X4c := Lib.hid ((X4b.out.below H6.out.1).below hb6)
            have X5c := Lib.hid ((X5.out.below H6.out.1).below hb6)
            have H6b := Lib.hid (H6.out.below hb6)
            have TB6 := Lib.hid (TB5.out.keep H6b.out.1)
            rw [← hu6]
            clear hu6 hb6 xa xb xs4 xs5
            refine (set_h H6b.out.rebase TB6.out s m M1.out).mono ?_
            rintro e q7 ⟨rfl, h7⟩
            have hHELD : (fun V => Box V q6.heap.size [Value.int IntKind.i64 0, Value.int IntKind.i64 s, Value.slice A6 16 c6, Value.slice none 0 0] ∧ Box V q4.heap.size [Value.int IntKind.i64 0, Value.int IntKind.i64 s, Value.slice A4 16 c4, Value.slice none 0 0] ∧ Box V q5.heap.size [Value.int IntKind.i64 0, Value.int IntKind.i64 s, Value.slice A5 16 c5, Value.slice none 0 0] ∧ Hold w V [] [(A6, 16, z), (A5, 16, y), (A4, 16, x)]) q7.drew := ⟨(X6.out.below h7.1).below (Below.refl _ _).drew, (X4c.out.below h7.1).below (Below.refl _ _).drew, (X5c.out.below h7.1).below (Below.refl _ _).drew,
              ⟨((H4b.out.onto (H5b.out.onto (H6b.out.onto h7))).1).drew, (fun _ hh => by cases hh), (fun p hp => (h7.below (Below.refl _ _).drew).2.2 p (by rcases List.mem_cons.1 hp with rfl | hp; exact List.mem_cons_self; rcases List.mem_cons.1 hp with rfl | hp; exact (List.mem_cons_of_mem _ List.mem_cons_self); rw [List.mem_singleton.1 hp]; exact (List.mem_cons_of_mem _ (List.mem_cons_of_mem _ List.mem_cons_self))))⟩⟩
            have HELD := Lib.hid hHELD
            clear hHELD h7
            have d1 : decide ((m : Int) > 0) = true := by simp; omega
            have d2 : decide ((m : Int) < 65536) = true := by simp; omega
            have d3 : decide (0 < m) = true := by simp; omega
            have d4 : decide (m < 65536) = true := by simp; omega
            go_wp2_with fail
            refine start_ (n := 20) (S := (fun V => Box V q6.heap.size [Value.int IntKind.i64 0, Value.int IntKind.i64 s, Value.slice A6 16 c6, Value.slice none 0 0] ∧ Box V q4.heap.size [Value.int IntKind.i64 0, Value.int IntKind.i64 s, Value.slice A4 16 c4, Value.slice none 0 0] ∧ Box V q5.heap.size [Value.int IntKind.i64 0, Value.int IntKind.i64 s, Value.slice A5 16 c5, Value.slice none 0 0] ∧ Hold w V [] [(A6, 16, z), (A5, 16, y), (A4, 16, x)])) (ds := []) #[false, false, false, false, false, false, false, false, false, false, false, false, false, false, false, false, false, false, false, false] (by kernel_rfl) rfl rfl HELD.out (fun hHeld => ?_)
            refine pure_ (i := 0) (N := some 94) (v := ?_) (a' := ?_) #[true, false, false, false, false, false, false, false, false, false, false, false, false, false, false, false, false, false, false, false] rfl rfl (by kernel_rfl) (fun _ _ _ h => h) (Or.inl ⟨by rfl, ?_⟩) ?_ ?_
            rotate_left
            · intro w'
              go_simp
              with_reducible rfl
            rotate_left
            · simp only [Act.put, List.setIfInBounds_toArray, List.set_cons_zero, List.set_cons_succ, i64_w, i32_w]
              rfl
            refine pure_ (i := 1) (N := some 95) (v := ?_) (a' := ?_) #[true, true, false, false, false, false, false, false, false, false, false, false, false, false, false, false, false, false, false, false] rfl rfl (by kernel_rfl) (fun _ _ _ h => h) (Or.inl ⟨by rfl, ?_⟩) ?_ ?_
            rotate_left
            · intro w'
              go_simp
              with_reducible rfl
            rotate_left
            · simp only [Act.put, List.setIfInBounds_toArray, List.set_cons_zero, List.set_cons_succ, i64_w, i32_w]
              rfl
            refine pure_ (i := 2) (N := some 96) (v := ?_) (a' := ?_) #[true, true, true, false, false, false, false, false, false, false, false, false, false, false, false, false, false, false, false, false] rfl rfl (by kernel_rfl) (fun _ _ _ h => h) (Or.inl ⟨by rfl, ?_⟩) ?_ ?_
            rotate_left
            · intro w'
              go_simp
              with_reducible rfl
            rotate_left
            · simp only [Act.put, List.setIfInBounds_toArray, List.set_cons_zero, List.set_cons_succ, i64_w, i32_w]
              rfl
            refine pure_ (i := 4) (N := some 98) (v := ?_) (a' := ?_) #[true, true, true, false, true, false, false, false, false, false, false, false, false, false, false, false, false, false, false, false] rfl rfl (by kernel_rfl) (fun _ _ _ h => h) (Or.inl ⟨by rfl, ?_⟩) ?_ ?_
            rotate_left
            · intro w'
              go_simp
              with_reducible rfl
            rotate_left
            · simp only [Act.put, List.setIfInBounds_toArray, List.set_cons_zero, List.set_cons_succ, i64_w, i32_w]
              rfl
            refine pure_ (i := 6) (N := some 100) (v := ?_) (a' := ?_) #[true, true, true, false, true, false, true, false, false, false, false, false, false, false, false, false, false, false, false, false] rfl rfl (by kernel_rfl) (fun _ _ _ h => h) (Or.inl ⟨by rfl, ?_⟩) ?_ ?_
            rotate_left
            · intro w'
              go_simp
              with_reducible rfl
            rotate_left
            · simp only [Act.put, List.setIfInBounds_toArray, List.set_cons_zero, List.set_cons_succ, i64_w, i32_w]
              rfl
            refine take_ (i := 3) (N := some 97) (v := ?_) (a' := ?_) #[true, true, true, true, true, false, true, false, false, false, false, false, false, false, false, false, false, false, false, false] rfl rfl (by kernel_rfl) (fun _ _ _ h => h) (Or.inl ⟨by rfl, ?_⟩) hHeld ?_ ?_
            rotate_left
            · rintro w' ⟨s0, s1, s2, s3⟩
              have xx := s0.2 2 _ rfl
              go_simp
              with_reducible rfl
            rotate_left
            · simp only [Act.put, List.setIfInBounds_toArray, List.set_cons_zero, List.set_cons_succ, i64_w, i32_w]
              rfl
            refine take_ (i := 5) (N := some 99) (v := ?_) (a' := ?_) #[true, true, true, true, true, true, true, false, false, false, false, false, false, false, false, false, false, false, false, false] rfl rfl (by kernel_rfl) (fun _ _ _ h => h) (Or.inl ⟨by rfl, ?_⟩) hHeld ?_ ?_
            rotate_left
            · rintro w' ⟨s0, s1, s2, s3⟩
              have xx := s1.2 2 _ rfl
              go_simp
              with_reducible rfl
            rotate_left
            · simp only [Act.put, List.setIfInBounds_toArray, List.set_cons_zero, List.set_cons_succ, i64_w, i32_w]
              rfl
            refine take_ (i := 7) (N := some 101) (v := ?_) (a' := ?_) #[true, true, true, true, true, true, true, true, false, false, false, false, false, false, false, false, false, false, false, false] rfl rfl (by kernel_rfl) (fun _ _ _ h => h) (Or.inl ⟨by rfl, ?_⟩) hHeld ?_ ?_
            rotate_left
            · rintro w' ⟨s0, s1, s2, s3⟩
              have xx := s2.2 2 _ rfl
              go_simp
              with_reducible rfl
            rotate_left
            · simp only [Act.put, List.setIfInBounds_toArray, List.set_cons_zero, List.set_cons_succ, i64_w, i32_w]
              rfl
            refine one_ (i := 8) (N := some 102) #[true, true, true, true, true, true, true, true, true, false, false, false, false, false, false, false, false, false, false, false] rfl rfl (by kernel_rfl) (by decide) (fun K hK => ?_)
            refine goes_ Tryd.func26 (by kernel_rfl) rfl #[.slice A4 16 c4, .slice A5 16 c5] (by rfl) rfl rfl (by simp only [List.map_toArray, List.map_cons, List.map_nil]; rfl) ?_
            obtain ⟨s0, s1, s2, s3⟩ := hHeld
            refine (xor_h s3.rebase x y (List.mem_cons_of_mem _ (List.mem_cons_of_mem _ List.mem_cons_self)) (List.mem_cons_of_mem _ List.mem_cons_self) HX.out HY.out rfl rfl hc4 hc5).mono ?_
            rintro e v1 ⟨A8, c8, rfl, hc8, h8⟩
            refine ⟨_, rfl, ?_⟩
            have HX8 := Lib.hid (h8.2.2 _ List.mem_cons_self)
            refine hK.out _ _ ⟨s0.below h8.1, s1.below h8.1, s2.below h8.1, s3.below h8.1⟩ (fun hHeld => ?_)
            clear hK K s0 s1 s2 s3 h8
            refine norm_ (a' := ?_) ?_ ?_
            rotate_left
            · show Act.put _ (some 102) _ = _
              simp only [Act.put, List.setIfInBounds_toArray, List.set_cons_zero, List.set_cons_succ, i64_w, i32_w]
              rfl
            refine one_ (i := 9) (N := some 103) #[true, true, true, true, true, true, true, true, true, true, false, false, false, false, false, false, false, false, false, false] rfl rfl (by kernel_rfl) (by decide) (fun K hK => ?_)
            refine goes_ Tryd.func22 (by kernel_rfl) rfl #[.slice A6 16 c6, .slice A8 16 c8] (by rfl) rfl rfl (by simp only [List.map_toArray, List.map_cons, List.map_nil]; rfl) ?_
            obtain ⟨s0, s1, s2, s3⟩ := hHeld
            refine (bytesE_h (s3.rebase.addb HX8.out) z (xorD x y) true (List.mem_cons_of_mem _ List.mem_cons_self) List.mem_cons_self HZ.out.symm HXYL.out.symm hc6 hc8 HEQ.out).mono ?_
            rintro e v2 ⟨rfl, h9⟩
            refine ⟨_, rfl, ?_⟩
            refine hK.out _ _ ⟨s0.below h9.1, s1.below h9.1, s2.below h9.1, s3.below h9.1⟩ (fun hHeld => ?_)
            clear hK K s0 s1 s2 s3 h9
            refine norm_ (a' := ?_) ?_ ?_
            rotate_left
            · show Act.put _ (some 103) _ = _
              simp only [Act.put, List.setIfInBounds_toArray, List.set_cons_zero, List.set_cons_succ, i64_w, i32_w]
              rfl
            refine pure_ (i := 10) (N := some 104) (v := ?_) (a' := ?_) #[true, true, true, true, true, true, true, true, true, true, true, false, false, false, false, false, false, false, false, false] rfl rfl (by kernel_rfl) (fun _ _ _ h => h) (Or.inl ⟨by rfl, ?_⟩) ?_ ?_
            rotate_left
            · intro w'
              go_simp
              with_reducible rfl
            rotate_left
            · simp only [Act.put, List.setIfInBounds_toArray, List.set_cons_zero, List.set_cons_succ, i64_w, i32_w]
              rfl
            refine pure_ (i := 11) (N := some 105) (v := ?_) (a' := ?_) #[true, true, true, true, true, true, true, true, true, true, true, true, false, false, false, false, false, false, false, false] rfl rfl (by kernel_rfl) (fun _ _ _ h => h) (Or.inl ⟨by rfl, ?_⟩) ?_ ?_
            rotate_left
            · intro w'
              go_simp
              with_reducible rfl
            rotate_left
            · simp only [Act.put, List.setIfInBounds_toArray, List.set_cons_zero, List.set_cons_succ, i64_w, i32_w]
              rfl
            refine pure_ (i := 12) (N := some 106) (v := ?_) (a' := ?_) #[true, true, true, true, true, true, true, true, true, true, true, true, true, false, false, false, false, false, false, false] rfl rfl (by kernel_rfl) (fun _ _ _ h => h) (Or.inl ⟨by rfl, ?_⟩) ?_ ?_
            rotate_left
            · intro w'
              go_simp
              with_reducible rfl
            rotate_left
            · simp only [Act.put, List.setIfInBounds_toArray, List.set_cons_zero, List.set_cons_succ, i64_w, i32_w]
              rfl
            refine pure_ (i := 13) (N := some 107) (v := ?_) (a' := ?_) #[true, true, true, true, true, true, true, true, true, true, true, true, true, true, false, false, false, false, false, false] rfl rfl (by kernel_rfl) (fun _ _ _ h => h) (Or.inl ⟨by rfl, ?_⟩) ?_ ?_
            rotate_left
            · intro w'
              go_simp
              with_reducible rfl
            rotate_left
            · simp only [Act.put, List.setIfInBounds_toArray, List.set_cons_zero, List.set_cons_succ, i64_w, i32_w]
              rfl
            refine pure_ (i := 14) (N := some 108) (v := ?_) (a' := ?_) #[true, true, true, true, true, true, true, true, true, true, true, true, true, true, true, false, false, false, false, false] rfl rfl (by kernel_rfl) (fun _ _ _ h => h) (Or.inl ⟨by rfl, ?_⟩) ?_ ?_
            rotate_left
            · intro w'
              go_simp
              with_reducible rfl
            rotate_left
            · simp only [Act.put, List.setIfInBounds_toArray, List.set_cons_zero, List.set_cons_succ, i64_w, i32_w]
              rfl
            refine pure_ (i := 15) (N := some 109) (v := ?_) (a' := ?_) #[true, true, true, true, true, true, true, true, true, true, true, true, true, true, true, true, false, false, false, false] rfl rfl (by kernel_rfl) (fun _ _ _ h => h) (Or.inl ⟨by rfl, ?_⟩) ?_ ?_
            rotate_left
            · intro w'
              go_simp
              with_reducible rfl
            rotate_left
            · simp only [Act.put, List.setIfInBounds_toArray, List.set_cons_zero, List.set_cons_succ, i64_w, i32_w]
              rfl
            refine pure_ (i := 16) (N := some 110) (v := ?_) (a' := ?_) #[true, true, true, true, true, true, true, true, true, true, true, true, true, true, true, true, true, false, false, false] rfl rfl (by kernel_rfl) (fun _ _ _ h => h) (Or.inl ⟨by rfl, ?_⟩) ?_ ?_
            rotate_left
            · intro w'
              go_simp
              with_reducible rfl
            rotate_left
            · simp only [Act.put, List.setIfInBounds_toArray, List.set_cons_zero, List.set_cons_succ, i64_w, i32_w]
              rfl
            refine pure_ (i := 17) (N := some 111) (v := ?_) (a' := ?_) #[true, true, true, true, true, true, true, true, true, true, true, true, true, true, true, true, true, true, false, false] rfl rfl (by kernel_rfl) (fun _ _ _ h => h) (Or.inl ⟨by rfl, ?_⟩) ?_ ?_
            rotate_left
            · intro w'
              go_simp
              with_reducible rfl
            rotate_left
            · simp only [Act.put, List.setIfInBounds_toArray, List.set_cons_zero, List.set_cons_succ, i64_w, i32_w]
              rfl
            refine pure_ (i := 18) (N := some 112) (v := ?_) (a' := ?_) #[true, true, true, true, true, true, true, true, true, true, true, true, true, true, true, true, true, true, true, false] rfl rfl (by kernel_rfl) (fun _ _ _ h => h) (Or.inl ⟨by rfl, ?_⟩) ?_ ?_
            rotate_left
            · intro w'
              go_simp
              with_reducible rfl
            rotate_left
            · simp only [Act.put, List.setIfInBounds_toArray, List.set_cons_zero, List.set_cons_succ, i64_w, i32_w]
              rfl
            refine pure_ (i := 19) (N := some 6) (v := ?_) (a' := ?_) #[true, true, true, true, true, true, true, true, true, true, true, true, true, true, true, true, true, true, true, true] rfl rfl (by kernel_rfl) (fun _ _ _ h => h) (Or.inl ⟨by rfl, ?_⟩) ?_ ?_
            rotate_left
            · intro w'
              go_simp
              with_reducible rfl
            rotate_left
            · simp only [Act.put, List.setIfInBounds_toArray, List.set_cons_zero, List.set_cons_succ, i64_w, i32_w]
              rfl
            refine done_ (by kernel_rfl) ?_
            go_wp2
            go_ret
            exact ⟨rfl, hHeld.2.2.2.1⟩
      · have g1 : ((n1 : Int) != 256) = true := by simp; omega
        subst hv
        clear ht hn hn1 hr hr1 hB hB1 hs hss
        go_enter Tryd.func8, Tryd.ntmps8
        go_wp2_with fail
        refine (head_h H0.out HT.out).mono ?_
        rintro e u1 ⟨rfl, h1⟩
        have H1 := Lib.hid h1
        clear h1
        go_wp2_with fail
        refine (seed_h H1.out s true HS.out).mono ?_
        rintro e u2 ⟨rfl, h2⟩
        have H2 := Lib.hid h2
        clear h2
        go_wp2_with fail
        go_ret
        exact ⟨rfl, H2.out.1⟩
    · have g1 : ((n : Int) != 256) = true := by simp; omega
      clear ht hn hn1 hr hr1 hB hB1 hs hss
      go_enter Tryd.func8, Tryd.ntmps8
      go_wp2_with fail
      refine (head_h H0.out HT.out).mono ?_
      rintro e u1 ⟨rfl, h1⟩
      have H1 := Lib.hid h1
      clear h1
      go_wp2_with fail
      refine (seed_h H1.out s true HS.out).mono ?_
      rintro e u2 ⟨rfl, h2⟩
      have H2 := Lib.hid h2
      clear h2
      go_wp2_with fail
      go_ret
      exact ⟨rfl, H2.out.1⟩
  · have HS := Lib.hid (show L.seedB s = false by simpa using hs)
    clear ht hn hn1 hr hr1 hB hB1 hs
    go_enter Tryd.func8, Tryd.ntmps8
    go_wp2_with fail
    refine (head_h H0.out HT.out).mono ?_
    rintro e u1 ⟨rfl, h1⟩
    have H1 := Lib.hid h1
    clear h1
    go_wp2_with fail
    refine (seed_h H1.out s false HS.out).mono ?_
    rintro e u2 ⟨rfl, h2⟩
    have H2 := Lib.hid h2
    clear h2
    go_wp2_with fail
    go_ret
    exact ⟨rfl, H2.out.1⟩
end Go.Proofs.YtknlbeojdmeljaaDoor.H
