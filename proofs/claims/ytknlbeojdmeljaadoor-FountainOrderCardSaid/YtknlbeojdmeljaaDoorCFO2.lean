-- cut by shake.py (own program) out of this session's texts
import Derived.Test.YtknlbeojdmeljaaDoorCFO1
namespace Go.Proofs.YtknlbeojdmeljaaDoor.H
open Go.RowKit Go.Proofs.YtknlbeojdmeljaaDoorW.PrintWords Go.Proofs.YtknlbeojdmeljaaDoorW.PrintLast Go.Proofs.YtknlbeojdmeljaaDoorW.PrintMore Go.Proofs.YtknlbeojdmeljaaDoor.P
set_option linter.unusedVariables false
set_option linter.unusedSimpArgs false
def sumE (B : List Int) (s : Int) : List Int := (foldE B (setS s).toNat (fr 16)).1
def recL (B : List Int) : List Int → List S25 → Int → List S25 × Int × Bool
  | [], l, n => (l, n, true)
  | s :: r, l, n => if (addS l (setS s) (sumE B s)).2.2 = 0 then recL B r (addS l (setS s) (sumE B s)).1 (if (addS l (setS s) (sumE B s)).2.1 then n + 1 else n) else ([], 0, false)
theorem insL_len1 (e : Nat × List Int) (p : List S25) : (insL e p).1.length = p.length + (insL e p).2.toNat := by
  have key : ∀ (q : List S25) (s : List S25 × Bool), (q.foldl (insStep e) s).1.length + s.2.toNat = s.1.length + q.length + (q.foldl (insStep e) s).2.toNat := by
    intro q
    induction q with
    | nil => intro s; simp
    | cons r q ih =>
      intro s
      have h2 := ih (insStep e s r)
      simp only [List.foldl_cons, List.length_cons]
      have h3 : (insStep e s r).1.length + s.2.toNat = s.1.length + 1 + (insStep e s r).2.toNat := by
        unfold insStep
        obtain ⟨s1, s2⟩ := s
        cases s2
        · split <;> simp
        · simp
      omega
  have := key p ([], false)
  simpa [insL] using this
theorem addS_len (l : List S25) (m : Int) (d : List Int) : (addS l m d).1.length ≤ l.length + 1 := by
  unfold addS
  split
  · simp
  · split
    · simp
    · split
      · simp
      · show (insS _ l).length ≤ _
        have := insL_len1 (redS l (m.toNat, d)) l
        unfold insS
        split
        · rename_i h; rw [h] at this; rw [this]; simp
        · rename_i h
          rw [List.length_append, this, show (insL (redS l (m.toNat, d)) l).2 = false by simpa using h]
          simp
theorem sumE_len {B : List Int} (hB : B.length = 256) (s : Int) (hs : 0 ≤ s ∧ s ≤ 1000000000) : (sumE B s).length = 16 := by
  have := setS_range s hs.1 hs.2
  exact (foldE_ok hB (by omega) _).1
set_option maxRecDepth 100000 in
set_option maxHeartbeats 1000000 in
theorem received_calls (A : Option Addr) (c : Nat) (B : List Int) (A2 : Option Addr) (c2 : Nat) (seeds : List Int) (w : World) (hc : 256 ≤ c) (hr : Kd.C (Kd.int .u8) w A 256 B) (hr2 : Kd.C (Kd.int .i64) w A2 seeds.length seeds) (hl : seeds.length ≤ 200) (hg : ∀ s ∈ seeds, 0 ≤ s ∧ s ≤ 1000000000) (ht : Tabs w) :
    Calls Tryd.prog 24 #[.slice A 256 c, .slice A2 seeds.length c2] w fun e w' => ∃ v, e = .returned (.tuple #[v, .int .i64 (recL B seeds [] 0).2.1, .bool (recL B seeds [] 0).2.2]) ∧ Kd.S k25 52 w' w.heap.size (fun _ => True) v (recL B seeds [] 0).1 ∧ Below w.heap.size w w' := by
  have ENC := Lib.hid (fun s w' (h : Below w.heap.size w w') hs => encode_good A c B 0 s w' hc (Kd.C_below hr h) (ht.keep h) (by omega) hs)
  have HR2 := Lib.hid hr2
  have HT := Lib.hid ht
  have HG := Lib.hid hg
  have hBl : B.length = 256 := hr.1
  have HBL := Lib.hid hBl
  obtain ⟨N, hN⟩ : ∃ N, N = seeds.length := ⟨_, rfl⟩
  have HN := Lib.hid hN
  obtain ⟨ans, hans⟩ : ∃ ans, ans = recL B seeds [] 0 := ⟨_, rfl⟩
  have HANS := Lib.hid hans
  rw [← hN] at hl HR2 ⊢
  rw [← hans]
  clear hr hr2 ht hg hBl hN hans
  go_enter Tryd.func24, Tryd.ntmps24
  go_wp2
  go_loopw [7, 8, 9] (fun lv mv i wr => ∃ (k : Nat) (zs : List S25) (n : Int), k ≤ N ∧ i = .int .i64 k ∧ mv = .int .i64 n ∧ 0 ≤ n ∧ n ≤ k ∧ zs.length ≤ k ∧ Kd.S k25 52 wr w.heap.size (fun _ => True) lv zs ∧ ans = recL B (seeds.drop k) zs n ∧ Below w.heap.size w wr)
    (fun _ _ i _ => N - (intOf i).toNat)
  case atStart => exact ⟨0, [], 0, Nat.zero_le _, rfl, rfl, by omega, by omega, by simp, Kd.S_nil _ _ _ _ _, HANS.out, Below.refl _ _⟩
  case round =>
    obtain ⟨k, zs, n, hk, rfl, rfl, hn0, hn1, hz, hS, hrec, hB⟩ := hrel
    by_cases hlt : k < N
    · have hks : k < seeds.length := by rw [← HN.out]; exact hlt
      obtain ⟨s, hs⟩ : ∃ s, s = seeds[k] := ⟨_, rfl⟩
      have hgs : 0 ≤ s ∧ s ≤ 1000000000 := HG.out s (by rw [hs]; exact List.getElem_mem hks)
      have hd : seeds.drop k = s :: seeds.drop (k + 1) := by rw [hs]; exact List.drop_eq_getElem_cons hks
      rw [hd] at hrec
      simp only [recL] at hrec
      obtain ⟨ad, hA2, hcell⟩ := Kd.at_int (Kd.C_below HR2.out hB) (k : Int) (by omega) (by omega)
      have hrd : rd seeds (k : Int) = s := by simp [rd, hks, hs]
      rw [hrd, Int.toNat_natCast] at hcell
      subst hA2
      have henc := ENC.out s wr hB hgs
      rw [show (foldE B (setS s).toNat (fr 16)).1 = sumE B s from rfl] at henc
      have hsl := sumE_len HBL.out s hgs
      obtain ⟨E, hE⟩ : ∃ E, E = sumE B s := ⟨_, rfl⟩
      rw [← hE] at henc hsl hrec
      obtain ⟨A3, c3, rfl⟩ := Kd.R_slice (Kd.S_R hS)
      have HENC := Lib.hid henc
      have HSL := Lib.hid hsl
      have HGS := Lib.hid hgs
      have HREC := Lib.hid hrec
      have HS := Lib.hid hS
      have HB := Lib.hid hB
      obtain ⟨zl, hzl⟩ : ∃ zl, zl = zs.length := ⟨_, rfl⟩
      have HZL := Lib.hid hzl
      rw [← hzl] at hz ⊢
      have h14 := fun (A4 : Option Addr) W (hW : Below w.heap.size w W) (h1 : Kd.C k25 W A3 zs.length zs) (h2 : Kd.C (Kd.int .u8) W A4 E.length E) (c4 : Nat) => receive_good A3 c3 zs 0 s A4 c4 E (.slice none 0 0) W h1 h2 (by omega) (HT.out.keep hW) ⟨by omega, hgs, by rw [hsl]; rfl⟩
      have hal := addS_len zs (setS s) E
      obtain ⟨an, han⟩ : ∃ an, an = addS zs (setS s) E := ⟨_, rfl⟩
      rw [← han] at hrec hal
      simp only [← han] at h14
      obtain ⟨zs2, f2, e2⟩ := an
      simp only at hrec hal h14
      rw [← hzl] at h14
      have HREC := Lib.hid hrec
      have HAL := Lib.hid hal
      have HREV := Lib.hid h14
      clear h14 han hal
      clear henc hsl hgs hrec hS hB hzl hE hs hd hrd hks
      have h200 : (k : Int) < 200 := by omega
      have hrec2 := HREC.out
      by_cases he : e2 = 0
      · subst he
        rw [if_pos rfl] at hrec2
        have HREC2 := Lib.hid hrec2
        clear hrec2
        cases f2
        · go_wp2_with (first
            | (go_at_call 12; refine HENC.out.mono ?_; rintro e w1 ⟨v, rfl, hv, hb⟩; have hsz := HB.out.size; obtain ⟨A4, c4, rfl⟩ := Kd.R_slice hv; have HV := Lib.hid hv; have HB1 := Lib.hid hb; have HBB1 := Lib.hid (HB.out.trans (hb.mono hsz)); clear hv hb)
            | (go_at_call 14; have hbb := HBB1.out.alloc HBB1.out.size (.cells #[.int .i64 0, .int .i64 s, .slice A4 E.length c4, .slice none 0 0] 26); have hb0 := (Below.refl w1.heap.size w1).alloc (Nat.le_refl _) (.cells #[.int .i64 0, .int .i64 s, .slice A4 E.length c4, .slice none 0 0] 26); refine (HREV.out A4 _ hbb (by rw [HZL.out] at *; exact (Kd.S_reads' (Kd.S_below (Kd.S_below HS.out HB1.out) hb0)).2.2) (Kd.R_reads' (Kd.R_below HV.out hb0)).2.2 c4).mono ?_; rintro e w2 ⟨v2, rfl, hv2, hb2⟩; have HV2 := Lib.hid (Kd.S_lower hv2 hbb.size); have HB2 := Lib.hid (hbb.trans (hb2.mono hbb.size)); clear hv2 hb2 hbb hb0))
          go_roundw
          case rel => exact ⟨k + 1, zs2, n, by omega, by go_num, rfl, by omega, by omega, by have := HAL.out; have := HZL.out; omega, HV2.out, by rw [HREC2.out]; rfl, HB2.out⟩
          case measure => simp [intOf]; omega
        · go_wp2_with (first
            | (go_at_call 12; refine HENC.out.mono ?_; rintro e w1 ⟨v, rfl, hv, hb⟩; have hsz := HB.out.size; obtain ⟨A4, c4, rfl⟩ := Kd.R_slice hv; have HV := Lib.hid hv; have HB1 := Lib.hid hb; have HBB1 := Lib.hid (HB.out.trans (hb.mono hsz)); clear hv hb)
            | (go_at_call 14; have hbb := HBB1.out.alloc HBB1.out.size (.cells #[.int .i64 0, .int .i64 s, .slice A4 E.length c4, .slice none 0 0] 26); have hb0 := (Below.refl w1.heap.size w1).alloc (Nat.le_refl _) (.cells #[.int .i64 0, .int .i64 s, .slice A4 E.length c4, .slice none 0 0] 26); refine (HREV.out A4 _ hbb (by rw [HZL.out] at *; exact (Kd.S_reads' (Kd.S_below (Kd.S_below HS.out HB1.out) hb0)).2.2) (Kd.R_reads' (Kd.R_below HV.out hb0)).2.2 c4).mono ?_; rintro e w2 ⟨v2, rfl, hv2, hb2⟩; have HV2 := Lib.hid (Kd.S_lower hv2 hbb.size); have HB2 := Lib.hid (hbb.trans (hb2.mono hbb.size)); clear hv2 hb2 hbb hb0))
          go_roundw
          case rel => exact ⟨k + 1, zs2, n + 1, by omega, by go_num, rfl, by omega, by omega, by have := HAL.out; have := HZL.out; omega, HV2.out, by rw [HREC2.out]; rfl, HB2.out⟩
          case measure => simp [intOf]; omega
      · rw [if_neg he] at hrec2
        have HREC2 := Lib.hid hrec2
        have e1 : (e2 == 0) = false := by simpa using he
        clear hrec2
        go_wp2_with (first
          | (go_at_call 12; refine HENC.out.mono ?_; rintro e w1 ⟨v, rfl, hv, hb⟩; have hsz := HB.out.size; obtain ⟨A4, c4, rfl⟩ := Kd.R_slice hv; have HV := Lib.hid hv; have HB1 := Lib.hid hb; have HBB1 := Lib.hid (HB.out.trans (hb.mono hsz)); clear hv hb)
          | (go_at_call 14; have hbb := HBB1.out.alloc HBB1.out.size (.cells #[.int .i64 0, .int .i64 s, .slice A4 E.length c4, .slice none 0 0] 26); have hb0 := (Below.refl w1.heap.size w1).alloc (Nat.le_refl _) (.cells #[.int .i64 0, .int .i64 s, .slice A4 E.length c4, .slice none 0 0] 26); refine (HREV.out A4 _ hbb (by rw [HZL.out] at *; exact (Kd.S_reads' (Kd.S_below (Kd.S_below HS.out HB1.out) hb0)).2.2) (Kd.R_reads' (Kd.R_below HV.out hb0)).2.2 c4).mono ?_; rintro e w2 ⟨v2, rfl, hv2, hb2⟩; have HV2 := Lib.hid (Kd.S_lower hv2 hbb.size); have HB2 := Lib.hid (hbb.trans (hb2.mono hbb.size)); clear hv2 hb2 hbb hb0))
        refine bodyPost_ret (by simp [results, Tryd.results24, go_sem]; rfl) rfl ?_
        rw [HREC2.out]
        exact ⟨_, rfl, Kd.S_nil _ _ _ _ _, HB2.out⟩
    · obtain rfl : k = N := by omega
      have hdr : seeds.drop k = [] := List.drop_of_length_le (by rw [← HN.out]; omega)
      rw [hdr] at hrec
      have HREC := Lib.hid hrec
      have HS := Lib.hid hS
      have HB := Lib.hid hB
      clear hrec hS hB
      go_wp2
      refine bodyPost_ret (by simp [results, Tryd.results24, go_sem]; rfl) rfl ?_
      rw [HREC.out]
      exact ⟨_, rfl, HS.out, HB.out⟩
end Go.Proofs.YtknlbeojdmeljaaDoor.H
namespace Go.Proofs.YtknlbeojdmeljaaDoor.H
open Go.RowKit Go.Proofs.YtknlbeojdmeljaaDoorW.PrintWords Go.Proofs.YtknlbeojdmeljaaDoorW.PrintLast Go.Proofs.YtknlbeojdmeljaaDoorW.PrintMore Go.Proofs.YtknlbeojdmeljaaDoor.P
set_option linter.unusedVariables false
set_option linter.unusedSimpArgs false
/-- the example page: block i consists of bytes i -/
def exB : List Int := (List.range 256).map (fun i => ((i / 16 : Nat) : Int))
def up15 : List Int := [0, 1, 2, 3, 4, 5, 6, 7, 8, 9, 10, 11, 12, 13, 14]
def dn16 : List Int := [15, 14, 13, 12, 11, 10, 9, 8, 7, 6, 5, 4, 3, 2, 1, 0]
theorem ex_enc : (foldE exB 8 (fr 16)).1 = List.replicate 16 3 := by kernel_rfl
theorem ex_up : (recL exB up15 [] 0).2 = (15, true) := by kernel_rfl
theorem ex_upP : (pageS (recL exB up15 [] 0).1).2 = false := by kernel_rfl
theorem ex_dn : (recL exB dn16 [] 0).2 = (16, true) := by kernel_rfl
theorem ex_dnP : pageS (recL exB dn16 [] 0).1 = (exB, true) := by kernel_rfl
theorem ex_is : slotmeshlaw34_example.f 300 = some exB := by kernel_rfl
theorem ex_b3 : slotmeshref33_Bytes.f 300 (List.replicate 16 3) (List.replicate 16 3) = some true := by kernel_rfl
theorem ex_bb : slotmeshref33_Bytes.f 300 exB exB = some true := by kernel_rfl
end Go.Proofs.YtknlbeojdmeljaaDoor.H
namespace Go.Proofs.YtknlbeojdmeljaaDoor.L
open Go.RowKit Go.Proofs.YtknlbeojdmeljaaDoorW.PrintWords Go.Proofs.YtknlbeojdmeljaaDoorW.PrintLast Go.Proofs.YtknlbeojdmeljaaDoorW.PrintMore Go.Proofs.YtknlbeojdmeljaaDoor.P Go.Proofs.YtknlbeojdmeljaaDoor.H
set_option linter.unusedVariables false
set_option linter.unusedSimpArgs false
def sumTo (B : List Int) (m : Nat) : Nat → List Int
  | 0 => z16
  | k + 1 => if m.testBit k = true then xorD (sumTo B m k) (blk B k) else sumTo B m k
def sumB (B : List Int) (m : Nat) : List Int := sumTo B m 16
/-- one more equation that is true of the blocks -/
def stepA (B : List Int) (l : Option (List S25)) (m : Int) : Option (List S25) :=
  match l with
  | none => none
  | some l => if m = 0 then some l else if (addS l m (sumB B m.toNat)).2.2 = 0 then some (addS l m (sumB B m.toNat)).1 else none
def allO (B : List Int) (ms : List Int) : Option (List S25) := ms.foldl (stepA B) (some [])
def allS (B : List Int) (ms : List Int) : List S25 × Bool := match allO B ms with
  | some l => (l, true)
  | none => ([], false)
structure PB (B : List Int) : Prop where
  len : B.length = 256
  rng : ∀ b ∈ B, isB b
theorem xorD_eq (a b : List Int) : ((0 : Nat), xorD a b) = addE (0, a) (0, b) := pair_ext (Nat.xor_self 0).symm rfl
theorem blk_ge {B : List Int} (hB : PB B) {i : Nat} (hi : i < 16) : GE (0, blk B i) :=
  data_ge (blk_len hB.len hi) (fun b hb => hB.rng b (List.mem_of_mem_drop (List.mem_of_mem_take hb)))
theorem sumTo_ge {B : List Int} (hB : PB B) (m : Nat) : ∀ k, k ≤ 16 → GE (0, sumTo B m k)
  | 0, _ => zeroE_ge
  | k + 1, h => by
    have h1 := sumTo_ge hB m k (by omega)
    unfold sumTo
    split
    · rw [xorD_eq]; exact h1.add (blk_ge hB (show k < 16 by omega))
    · exact h1
theorem sumTo_xor {B : List Int} (hB : PB B) (a b : Nat) : ∀ k, k ≤ 16 → ((0 : Nat), sumTo B (a ^^^ b) k) = addE (0, sumTo B a k) (0, sumTo B b k)
  | 0, _ => (addE_zero zeroE_ge).symm
  | k + 1, h => by
    have ih := sumTo_xor hB a b k (by omega)
    have ga := sumTo_ge hB a k (by omega)
    have gb := sumTo_ge hB b k (by omega)
    have gk := blk_ge hB (show k < 16 by omega)
    unfold sumTo
    rw [Nat.testBit_xor]
    cases ha : a.testBit k <;> cases hb : b.testBit k
    · exact ih
    · rw [if_pos (by rfl), if_neg (by simp), if_pos rfl, xorD_eq, ih, xorD_eq, addE_assoc ga gb gk]
    · rw [if_pos (by rfl), if_pos rfl, if_neg (by simp), xorD_eq, ih, xorD_eq, addE_assoc ga gb gk, addE_comm gb gk, ← addE_assoc ga gk gb]
    · rw [if_neg (by simp), if_pos rfl, if_pos rfl, ih, xorD_eq, xorD_eq, addE_four ga gk gb gk, addE_self gk, addE_zero (ga.add gb)]
theorem sumTo_zero (B : List Int) : ∀ k, sumTo B 0 k = z16
  | 0 => rfl
  | k + 1 => by unfold sumTo; rw [if_neg (by simp)]; exact sumTo_zero B k
/-- true equations -/
def TE (B : List Int) (x : Nat × List Int) : Prop := x.1 < 65536 ∧ x.2 = sumB B x.1
theorem TE.ge {B : List Int} (hB : PB B) {x : Nat × List Int} (h : TE B x) : GE x := by
  have := sumTo_ge hB x.1 16 (by omega)
  exact ⟨h.1, by rw [h.2]; exact this.len, by rw [h.2]; exact this.rng⟩
theorem TE.add {B : List Int} (hB : PB B) {x y : Nat × List Int} (hx : TE B x) (hy : TE B y) : TE B (addE x y) := by
  refine ⟨((hx.ge hB).add (hy.ge hB)).m, ?_⟩
  have h := congrArg Prod.snd (sumTo_xor hB x.1 y.1 16 (by omega))
  show xorD x.2 y.2 = sumTo B (x.1 ^^^ y.1) 16
  rw [hx.2, hy.2]
  exact h.symm
theorem TE.mk_ (B : List Int) {m : Nat} (hm : m < 65536) : TE B (m, sumB B m) := ⟨hm, rfl⟩
theorem TE.null {B : List Int} {x : Nat × List Int} (hx : TE B x) (h : x.1 = 0) : x = zeroE := by
  refine pair_ext h ?_
  rw [hx.2, h]
  exact sumTo_zero B 16
/-- rows that are true of the blocks -/
structure TR (B : List Int) (l : List S25) : Prop where
  vp : VP l
  gr : GR l
  tr : ∀ r ∈ l, TE B (rowv r)
theorem TR.nil (B : List Int) : TR B [] := ⟨VP.of_pair (by simp) List.Pairwise.nil, ⟨by simp, by simp⟩, by simp⟩
theorem TR.red {B : List Int} (hB : PB B) {l : List S25} (hg : GR l) (ht : ∀ r ∈ l, TE B (rowv r)) : ∀ {x : Nat × List Int}, TE B x → TE B (redS l x) := by
  induction l with
  | nil => intro x hx; exact hx
  | cons r l ih =>
    intro x hx
    obtain ⟨j, _, hj, _⟩ := hg.lead List.mem_cons_self
    refine ih hg.tail (fun s hs => ht s (List.mem_cons_of_mem _ hs)) (x := stepS x r) ?_
    rw [stepS_eq x r hj]
    split
    · exact hx.add hB (ht r List.mem_cons_self)
    · exact hx
theorem TR.add {B : List Int} (hB : PB B) {l : List S25} (h : TR B l) {m : Nat} (h1 : 1 ≤ m) (h2 : m < 65536) :
    ((redS l (m, sumB B m)).1 = 0 ∧ redS l (m, sumB B m) = zeroE ∧ addS l (m : Int) (sumB B m) = (l, false, 0)) ∨
    ((redS l (m, sumB B m)).1 ≠ 0 ∧ NE l (redS l (m, sumB B m)) ∧ addS l (m : Int) (sumB B m) = (insS (redS l (m, sumB B m)) l, true, 0) ∧ TR B (insS (redS l (m, sumB B m)) l)) := by
  have ht := TR.red hB h.gr h.tr (TE.mk_ B h2)
  have hge := (TE.mk_ B h2).ge hB
  have hv := (validS_iff l).2 h.vp
  have hf : fineB (m : Int) (sumB B m) = true := by
    have : (sumB B m).length = 16 := hge.len
    unfold fineB
    simp [this]
    omega
  have hs : addS l (m : Int) (sumB B m) = if redS l (m, sumB B m) = (0, z16) then (l, false, 0) else if (redS l (m, sumB B m)).1 = 0 then ([], false, 12) else (insS (redS l (m, sumB B m)) l, true, 0) := by
    unfold addS; rw [if_neg (by rw [hv, hf]; simp)]; rfl
  by_cases h0 : (redS l (m, sumB B m)).1 = 0
  · have hz := ht.null h0
    exact .inl ⟨h0, hz, by rw [hs]; exact if_pos hz⟩
  · have hne : NE l (redS l (m, sumB B m)) := ⟨redS_ge h.gr hge, h0, redS_clear h.gr h.vp hge⟩
    obtain ⟨hv2, hg2, _⟩ := insS_ok h.gr h.vp hne
    refine .inr ⟨h0, hne, by rw [hs, if_neg (fun e => h0 (by rw [e])), if_neg h0], hv2, hg2, fun r hr => ?_⟩
    obtain ⟨_, _, h3⟩ := insS_mem h.vp (redS l (m, sumB B m))
    rcases h3 r hr with rfl | ⟨s, hs2, rfl⟩
    · rw [rowE_v]; exact ht
    · rcases mixE_or h.gr hne hs2 with e | e
      · rw [e]; exact (h.tr s hs2).add hB ht
      · rw [e]; exact h.tr s hs2
theorem TR.step {B : List Int} (hB : PB B) {l : List S25} (h : TR B l) {m : Int} (h0 : 0 ≤ m) (h2 : m < 65536) : ∃ l', stepA B (some l) m = some l' ∧ TR B l' := by
  unfold stepA
  by_cases hm : m = 0
  · exact ⟨l, by simp [hm], h⟩
  · obtain ⟨m, rfl⟩ := Int.eq_ofNat_of_zero_le h0
    rcases h.add hB (m := m) (by omega) (by omega) with ⟨_, _, e⟩ | ⟨_, _, e, ht⟩
    · refine ⟨l, ?_, h⟩
      simp only [if_neg hm, Int.toNat_natCast, e]
      rfl
    · refine ⟨_, ?_, ht⟩
      simp only [if_neg hm, Int.toNat_natCast, e]
      rfl
theorem TR.all {B : List Int} (hB : PB B) : ∀ (ms : List Int) {l : List S25}, TR B l → (∀ x ∈ ms, 0 ≤ x ∧ x < 65536) → ∃ l', ms.foldl (stepA B) (some l) = some l' ∧ TR B l'
  | [], l, h, _ => ⟨l, rfl, h⟩
  | m :: ms, l, h, hm => by
    obtain ⟨l1, e1, h1⟩ := h.step hB (m := m) (hm m List.mem_cons_self).1 (hm m List.mem_cons_self).2
    obtain ⟨l2, e2, h2⟩ := TR.all hB ms h1 (fun x hx => hm x (List.mem_cons_of_mem _ hx))
    exact ⟨l2, by rw [List.foldl_cons, e1, e2], h2⟩
theorem allS_true {B : List Int} (hB : PB B) {ms : List Int} (hm : ∀ x ∈ ms, 0 ≤ x ∧ x < 65536) : ∃ l, allO B ms = some l ∧ allS B ms = (l, true) ∧ TR B l := by
  obtain ⟨l, e, h⟩ := TR.all hB ms (TR.nil B) hm
  exact ⟨l, e, by unfold allS allO; rw [e], h⟩
theorem xorD_z {B : List Int} (hB : PB B) {d : List Int} (hd : GE (0, d)) {m : Nat} (hm : m < 65536) (h : xorD d (sumB B m) = z16) : d = sumB B m := by
  have h2 : addE (0, d) (0, sumB B m) = zeroE := pair_ext (Nat.xor_self 0) h
  exact congrArg Prod.snd (addE_eq_zero hd (sumTo_ge hB m 16 (by omega)) h2)
/-- what follows from true rows is true -/
theorem TR.sum {B : List Int} (hB : PB B) {l : List S25} (h : TR B l) (m : Nat) (hm : m < 65536) (hf : (sumS l (m : Int)).2 = true) : (sumS l (m : Int)).1 = sumB B m := by
  have hv := (validS_iff l).2 h.vp
  have hs := sumS_eq hv m hm
  rw [hs] at hf ⊢
  by_cases h0 : (redS l (m, z16)).1 = 0
  · rw [if_neg (fun e => e h0)]
    have ht := TR.red hB h.gr h.tr (TE.mk_ B hm)
    have hge := (TE.mk_ B hm).ge hB
    rw [redS_split h.gr m hm hge.len hge.rng] at ht
    have h1 : (addE (redS l (m, z16)) (0, sumB B m)).1 = 0 := by show (redS l (m, z16)).1 ^^^ 0 = 0; rw [h0]; rfl
    have h2 := congrArg Prod.snd (ht.null h1)
    have hg := redS_ge h.gr (mask_ge m hm)
    exact xorD_z hB ⟨by show (0 : Nat) < 65536; omega, hg.len, hg.rng⟩ hm h2
  · rw [if_pos h0] at hf
    cases hf
theorem redS_top {l : List S25} (hl : GR l) {j : Nat} (hno : ∀ r ∈ l, H.lead r.f0.toNat ≠ 2 ^ j) : ∀ {x : Nat × List Int}, 2 ^ j ≤ x.1 → x.1 < 2 ^ (j + 1) → 2 ^ j ≤ (redS l x).1 ∧ (redS l x).1 < 2 ^ (j + 1) := by
  induction l with
  | nil => intro x h1 h2; exact ⟨h1, h2⟩
  | cons r l ih =>
    intro x h1 h2
    obtain ⟨i, _, hi, hb⟩ := hl.lead List.mem_cons_self
    have hij : i ≠ j := by
      rintro rfl
      exact hno r List.mem_cons_self hi
    refine ih hl.tail (fun s hs => hno s (List.mem_cons_of_mem _ hs)) (x := stepS x r) ?_ ?_
    all_goals
      rw [stepS_eq x r hi]
      split
      · rename_i hbit
        have hlt : i < j := by
          rcases Nat.lt_or_gt_of_ne hij with h | h
          · exact h
          · have := Nat.testBit_lt_two_pow (x := x.1) (i := i) (Nat.lt_of_lt_of_le h2 (Nat.pow_le_pow_right (by omega) (by omega)))
            rw [this] at hbit
            cases hbit
        have hf := fine_spec (hl.fine r List.mem_cons_self)
        obtain ⟨i', _, e, h3, h4⟩ := lead_spec r.f0.toNat (by omega) (by omega)
        have hii : i' = i := by
          rw [hi] at e
          exact ((Nat.pow_right_inj (show 1 < 2 by omega)).1 e).symm
        subst hii
        have hr : r.f0.toNat < 2 ^ j := Nat.lt_of_lt_of_le h4 (Nat.pow_le_pow_right (by omega) (by omega))
        first
        | (refine Nat.ge_two_pow_of_testBit ?_
           show (x.1 ^^^ r.f0.toNat).testBit j = true
           rw [Nat.testBit_xor, top_bit h1 h2, Nat.testBit_lt_two_pow hr]
           rfl)
        | exact Nat.xor_lt_two_pow h2 (Nat.lt_of_lt_of_le hr (Nat.pow_le_pow_right (by omega) (by omega)))
      · first | exact h1 | exact h2
theorem lead_in {l l' : List S25} (hl : GR l) (hl' : GR l') (hv' : VP l') (h : ∀ r ∈ l, Sp l' (rowv r)) {r : S25} (hr : r ∈ l) : ∃ s ∈ l', H.lead s.f0.toNat = H.lead r.f0.toNat := by
  have hf := fine_spec (hl.fine r hr)
  obtain ⟨j, _, e, h1, h2⟩ := lead_spec r.f0.toNat (by omega) (by omega)
  by_cases hex : ∃ s ∈ l', H.lead s.f0.toNat = 2 ^ j
  · obtain ⟨s, hs, he⟩ := hex
    exact ⟨s, hs, by rw [he, e]⟩
  · have h3 := redS_top hl' (j := j) (fun s hs he => hex ⟨s, hs, he⟩) (x := rowv r) h1 h2
    rw [redS_span hl' hv' (h r hr)] at h3
    have := Nat.two_pow_pos j
    have h4 : (zeroE).1 = 0 := rfl
    omega
theorem desc_ext : ∀ (L L' : List Nat), L.Pairwise (· > ·) → L'.Pairwise (· > ·) → (∀ x ∈ L, x ∈ L') → (∀ x ∈ L', x ∈ L) → L = L'
  | [], [], _, _, _, _ => rfl
  | [], b :: L', _, _, _, h => absurd (h b List.mem_cons_self) (by simp)
  | a :: L, [], _, _, h, _ => absurd (h a List.mem_cons_self) (by simp)
  | a :: L, b :: L', hp, hq, h1, h2 => by
    rw [List.pairwise_cons] at hp hq
    have hab : a = b := by
      have x1 := h1 a List.mem_cons_self
      have x2 := h2 b List.mem_cons_self
      rcases List.mem_cons.1 x1 with e | e
      · exact e
      · rcases List.mem_cons.1 x2 with e2 | e2
        · exact e2.symm
        · have := hp.1 b e2
          have := hq.1 a e
          omega
    subst hab
    rw [desc_ext L L' hp.2 hq.2 (fun x hx => ?_) (fun x hx => ?_)]
    · rcases List.mem_cons.1 (h1 x (List.mem_cons_of_mem _ hx)) with e | e
      · have := hp.1 x hx
        omega
      · exact e
    · rcases List.mem_cons.1 (h2 x (List.mem_cons_of_mem _ hx)) with e | e
      · have := hq.1 x hx
        omega
      · exact e
theorem rref_unique {l l' : List S25} (hl : GR l) (hv : VP l) (hl' : GR l') (hv' : VP l') (h : ∀ r ∈ l, Sp l' (rowv r)) (h' : ∀ r ∈ l', Sp l (rowv r)) : l = l' := by
  have hleads : l.map (fun x => H.lead x.f0.toNat) = l'.map (fun x => H.lead x.f0.toNat) := by
    refine desc_ext _ _ hv.desc hv'.desc (fun x hx => ?_) (fun x hx => ?_)
    · obtain ⟨r, hr, rfl⟩ := List.mem_map.1 hx
      obtain ⟨s, hs, e⟩ := lead_in hl hl' hv' h hr
      exact List.mem_map.2 ⟨s, hs, e⟩
    · obtain ⟨r, hr, rfl⟩ := List.mem_map.1 hx
      obtain ⟨s, hs, e⟩ := lead_in hl' hl hv h' hr
      exact List.mem_map.2 ⟨s, hs, e⟩
  have hlen : l.length = l'.length := by simpa using congrArg List.length hleads
  refine List.ext_getElem hlen (fun i hi hi' => ?_)
  have hr : l[i] ∈ l := List.getElem_mem hi
  have hr' : l'[i] ∈ l' := List.getElem_mem hi'
  have hle : H.lead l[i].f0.toNat = H.lead l'[i].f0.toNat := by
    have := congrArg (fun L => L[i]?) hleads
    simpa [hi, hi'] using this
  have hd : Sp l' (addE (rowv l[i]) (rowv l'[i])) := (h _ hr).sum hl' (Sp.row hl' hr')
  have hz := redS_span hl' hv' hd
  have hid : redS l' (addE (rowv l[i]) (rowv l'[i])) = addE (rowv l[i]) (rowv l'[i]) := by
    refine redS_id hl' (fun s hs => ?_)
    show (l[i].f0.toNat ^^^ l'[i].f0.toNat) &&& H.lead s.f0.toNat = 0
    by_cases he : H.lead s.f0.toNat = H.lead l'[i].f0.toNat
    · obtain ⟨j, _, hj, hb⟩ := hl'.lead hr'
      obtain ⟨j2, _, hj2, hb2⟩ := hl.lead hr
      rw [hle, hj] at hj2
      have hjj := (Nat.pow_right_inj (show 1 < 2 by omega)).1 hj2
      subst hjj
      rw [he, hj, and_two_pow, if_neg]
      rw [Nat.testBit_xor, hb, hb2]
      simp
    · refine and_xor_zero ?_ (hv'.and_zero hr' hs he)
      obtain ⟨s2, hs2, e2⟩ := lead_in hl' hl hv h' hs
      rw [← e2]
      exact hv.and_zero hr hs2 (by rw [e2, hle]; exact he)
  rw [hid] at hz
  have hrow := addE_eq_zero (hl.row hr) (hl'.row hr') hz
  have h1 := fine_spec (hl.fine _ hr)
  have h2 := fine_spec (hl'.fine _ hr')
  have e1 : l[i].f0.toNat = l'[i].f0.toNat := congrArg Prod.fst hrow
  have e2 : l[i].f1 = l'[i].f1 := congrArg Prod.snd hrow
  have e3 : l[i].f0 = l'[i].f0 := by omega
  revert e2 e3
  cases l[i]
  cases l'[i]
  rintro rfl rfl
  rfl
theorem sub_step {B : List Int} (hB : PB B) {L l l' : List S25} (hL : GR L) (ht : TR B l) {m : Int} (h0 : 0 ≤ m) (h2 : m < 65536) (h : stepA B (some l) m = some l') (hr : ∀ r ∈ l, Sp L (rowv r)) (hx : m ≠ 0 → Sp L (m.toNat, sumB B m.toNat)) : ∀ r ∈ l', Sp L (rowv r) := by
  unfold stepA at h
  by_cases hm : m = 0
  · simp only [hm, if_true] at h
    cases h
    exact hr
  · obtain ⟨m, rfl⟩ := Int.eq_ofNat_of_zero_le h0
    rw [Int.toNat_natCast] at hx
    have hge := (TE.mk_ B (m := m) (by omega)).ge hB
    rcases ht.add hB (m := m) (by omega) (by omega) with ⟨_, _, e⟩ | ⟨_, hne, e, _⟩
    · simp only [if_neg hm, Int.toNat_natCast, e, if_true] at h
      cases h
      exact hr
    · simp only [if_neg hm, Int.toNat_natCast, e, if_true] at h
      cases h
      have hE : Sp L (redS l (m, sumB B m)) := by
        have h1 := Sp.of ht.gr hL hr (redS_diff ht.gr ht.gr (fun r hr => hr) hge)
        have h3 := h1.sum hL (hx hm)
        rwa [addE_comm (hge.add hne.ge) hge, ← addE_assoc hge hge hne.ge, addE_self hge, zero_addE hne.ge] at h3
      intro r hr2
      obtain ⟨_, _, h3⟩ := insS_mem ht.vp (redS l (m, sumB B m))
      rcases h3 r hr2 with rfl | ⟨s, hs2, rfl⟩
      · rw [rowE_v]; exact hE
      · rcases mixE_or ht.gr hne hs2 with e | e
        · rw [e]; exact (hr s hs2).sum hL hE
        · rw [e]; exact hr s hs2
theorem sub_all {B : List Int} (hB : PB B) {L : List S25} (hL : GR L) : ∀ (ms : List Int) {l l' : List S25}, TR B l → (∀ x ∈ ms, 0 ≤ x ∧ x < 65536) → (∀ r ∈ l, Sp L (rowv r)) → (∀ m ∈ ms, m ≠ 0 → Sp L (m.toNat, sumB B m.toNat)) → ms.foldl (stepA B) (some l) = some l' → ∀ r ∈ l', Sp L (rowv r)
  | [], l, l', _, _, hr, _, h => by cases h; exact hr
  | m :: ms, l, l', ht, hm, hr, hx, h => by
    have hm0 := hm m List.mem_cons_self
    obtain ⟨l1, e1, h1⟩ := ht.step hB (m := m) hm0.1 hm0.2
    rw [List.foldl_cons, e1] at h
    exact sub_all hB hL ms h1 (fun x hx => hm x (List.mem_cons_of_mem _ hx)) (sub_step hB hL ht hm0.1 hm0.2 e1 hr (hx m List.mem_cons_self)) (fun x hx2 => hx x (List.mem_cons_of_mem _ hx2)) h
theorem sup_step {B : List Int} (hB : PB B) {l l' : List S25} (ht : TR B l) {m : Int} (h0 : 0 ≤ m) (h2 : m < 65536) (h : stepA B (some l) m = some l') : (∀ {y : Nat × List Int}, Sp l y → Sp l' y) ∧ (m ≠ 0 → Sp l' (m.toNat, sumB B m.toNat)) := by
  unfold stepA at h
  by_cases hm : m = 0
  · simp only [hm, if_true] at h
    cases h
    exact ⟨fun hy => hy, fun h => absurd hm h⟩
  · obtain ⟨m, rfl⟩ := Int.eq_ofNat_of_zero_le h0
    rw [Int.toNat_natCast]
    have hge := (TE.mk_ B (m := m) (by omega)).ge hB
    have hdiff := redS_diff ht.gr ht.gr (fun r hr => hr) hge
    rcases ht.add hB (m := m) (by omega) (by omega) with ⟨_, hz, e⟩ | ⟨_, hne, e, ht2⟩
    · simp only [if_neg hm, Int.toNat_natCast, e, if_true] at h
      cases h
      refine ⟨fun hy => hy, fun _ => ?_⟩
      rw [hz, addE_zero hge] at hdiff
      exact hdiff
    · simp only [if_neg hm, Int.toNat_natCast, e, if_true] at h
      cases h
      obtain ⟨hE, hS⟩ := insS_Sp ht.gr ht.vp hne
      refine ⟨hS, fun _ => ?_⟩
      have h3 := (hS hdiff).sum ht2.gr hE
      rwa [addE_cancel hge hne.ge] at h3
theorem sup_all {B : List Int} (hB : PB B) : ∀ (ms : List Int) {l l' : List S25}, TR B l → (∀ x ∈ ms, 0 ≤ x ∧ x < 65536) → ms.foldl (stepA B) (some l) = some l' → (∀ {y : Nat × List Int}, Sp l y → Sp l' y) ∧ (∀ m ∈ ms, m ≠ 0 → Sp l' (m.toNat, sumB B m.toNat))
  | [], l, l', _, _, h => by cases h; exact ⟨fun hy => hy, by simp⟩
  | m :: ms, l, l', ht, hm, h => by
    have hm0 := hm m List.mem_cons_self
    obtain ⟨l1, e1, h1⟩ := ht.step hB (m := m) hm0.1 hm0.2
    rw [List.foldl_cons, e1] at h
    obtain ⟨a1, a2⟩ := sup_step hB ht hm0.1 hm0.2 e1
    obtain ⟨b1, b2⟩ := sup_all hB ms h1 (fun x hx => hm x (List.mem_cons_of_mem _ hx)) h
    refine ⟨fun hy => b1 (a1 hy), fun x hx hx0 => ?_⟩
    rcases List.mem_cons.1 hx with rfl | hx
    · exact b1 (a2 hx0)
    · exact b2 x hx hx0
/-- the same equations in any order lead to the same rows -/
theorem order_same {B : List Int} (hB : PB B) {ms ns : List Int} (hm : ∀ x ∈ ms, 0 ≤ x ∧ x < 65536) (hn : ∀ x ∈ ns, 0 ≤ x ∧ x < 65536) (h1 : ∀ x ∈ ms, x ∈ ns) (h2 : ∀ x ∈ ns, x ∈ ms) : ∃ l, allS B ms = (l, true) ∧ allS B ns = (l, true) ∧ TR B l := by
  obtain ⟨l, e, a, t⟩ := allS_true hB hm
  obtain ⟨l', e', a', t'⟩ := allS_true hB hn
  have s1 := (sup_all hB ms (TR.nil B) hm e).2
  have s2 := (sup_all hB ns (TR.nil B) hn e').2
  have r1 := sub_all hB t'.gr ms (TR.nil B) hm (by simp) (fun m hm2 h0 => s2 m (h1 m hm2) h0) e
  have r2 := sub_all hB t.gr ns (TR.nil B) hn (by simp) (fun m hm2 h0 => s1 m (h2 m hm2) h0) e'
  have := rref_unique t.gr t.vp t'.gr t'.vp r1 r2
  subst this
  exact ⟨l, a, a', t⟩
end Go.Proofs.YtknlbeojdmeljaaDoor.L
namespace Go.Proofs.YtknlbeojdmeljaaDoor.L
open Go.RowKit Go.Proofs.YtknlbeojdmeljaaDoorW.PrintWords Go.Proofs.YtknlbeojdmeljaaDoorW.PrintLast Go.Proofs.YtknlbeojdmeljaaDoorW.PrintMore Go.Proofs.YtknlbeojdmeljaaDoor.P Go.Proofs.YtknlbeojdmeljaaDoor.H
set_option linter.unusedVariables false
set_option linter.unusedSimpArgs false
theorem sumTo_succ (B : List Int) (m k : Nat) : sumTo B m (k + 1) = if m.testBit k = true then xorD (sumTo B m k) (blk B k) else sumTo B m k := rfl
theorem foldE_sum {B : List Int} {m : Nat} (hm : m < 65536) : ∀ k, k ≤ 16 → foldE B m (fr k) = (sumTo B m k, hiS m k)
  | 0, _ => by rw [hiS_zero]; rfl
  | k + 1, h => by
    rw [fr_succ (show k < 16 by omega), foldE_snoc, foldE_sum hm k (by omega)]
    rw [sumTo_succ]
    unfold stepE
    by_cases hb : m.testBit k = true
    · rw [if_pos ((ctz_eq hm (by omega)).2 hb), if_pos hb, hiS_step hb]
    · rw [if_neg (fun h => hb ((ctz_eq hm (by omega)).1 h)), if_neg hb, hiS_same (by simpa using hb)]
theorem sumE_eq (B : List Int) (s : Int) (hs : 0 ≤ s ∧ s ≤ 1000000000) : sumE B s = sumB B (setS s).toNat := by
  have := setS_range s hs.1 hs.2
  exact congrArg Prod.fst (foldE_sum (B := B) (m := (setS s).toNat) (by omega) 16 (Nat.le_refl _))
def Good (l : List Int) : Prop := ∀ s ∈ l, 0 ≤ s ∧ s ≤ 1000000000
theorem Good.ms {l : List Int} (h : Good l) : ∀ x ∈ l.map setS, 0 ≤ x ∧ x < 65536 := by
  intro x hx
  obtain ⟨s, hs, rfl⟩ := List.mem_map.1 hx
  have := setS_range s (h s hs).1 (h s hs).2
  omega
theorem setN (s : Int) (hs : 0 ≤ s ∧ s ≤ 1000000000) : ∃ m : Nat, setS s = (m : Int) ∧ 1 ≤ m ∧ m < 65536 := by
  have := setS_range s hs.1 hs.2
  exact ⟨(setS s).toNat, by omega, by omega, by omega⟩
/-- the rows after coded blocks of a page -/
theorem recL_spec {B : List Int} (hB : PB B) : ∀ (seeds : List Int) {l : List S25} (n : Int), TR B l → Good seeds →
    ∃ l', recL B seeds l n = (l', n + ((l'.length : Int) - l.length), true) ∧ (seeds.map setS).foldl (stepA B) (some l) = some l' ∧ TR B l'
  | [], l, n, h, _ => ⟨l, by simp [recL], rfl, h⟩
  | s :: r, l, n, h, hg => by
    have hs := hg s List.mem_cons_self
    have hr : Good r := fun x hx => hg x (List.mem_cons_of_mem _ hx)
    have he := sumE_eq B s hs
    obtain ⟨m, hm, h1, h2⟩ := setN s hs
    rw [hm, Int.toNat_natCast] at he
    rcases h.add hB h1 h2 with ⟨_, _, e⟩ | ⟨_, hne, e, ht⟩
    · obtain ⟨l', a, b, c⟩ := recL_spec hB r n h hr
      refine ⟨l', ?_, ?_, c⟩
      · unfold recL
        rw [hm, he, e]
        simpa using a
      · rw [List.map_cons, List.foldl_cons, show stepA B (some l) (setS s) = some l from ?_]
        · exact b
        · have hm0 : ¬ ((m : Int) = 0) := by omega
          unfold stepA
          rw [hm]
          simp only [if_neg hm0, Int.toNat_natCast, e, if_true]
    · obtain ⟨l', a, b, c⟩ := recL_spec hB r (n + 1) ht hr
      refine ⟨l', ?_, ?_, c⟩
      · unfold recL
        rw [hm, he, e]
        simp only [if_true]
        rw [a, (insS_ok h.gr h.vp hne).2.2, show n + 1 + ((l'.length : Int) - ((l.length + 1 : Nat) : Int)) = n + ((l'.length : Int) - l.length) by omega]
      · rw [List.map_cons, List.foldl_cons, show stepA B (some l) (setS s) = some (insS (redS l (m, sumB B m)) l) from ?_]
        · exact b
        · have hm0 : ¬ ((m : Int) = 0) := by omega
          unfold stepA
          rw [hm]
          simp only [if_neg hm0, Int.toNat_natCast, e, if_true]
theorem rec0 {B : List Int} (hB : PB B) (seeds : List Int) (hg : Good seeds) : ∃ l, recL B seeds [] 0 = (l, (l.length : Int), true) ∧ allO B (seeds.map setS) = some l ∧ TR B l := by
  obtain ⟨l, a, b, c⟩ := recL_spec hB seeds 0 (TR.nil B) hg
  exact ⟨l, by rw [a]; simp, b, c⟩
theorem enough {l : List S25} {B : List Int} (hB : PB B) (h : TR B l) (h16 : l.length = 16) {m : Nat} (h1 : 1 ≤ m) (h2 : m < 65536) : redS l (m, sumB B m) = zeroE ∧ addS l (m : Int) (sumB B m) = (l, false, 0) := by
  rcases h.add hB h1 h2 with ⟨_, e, e2⟩ | ⟨_, hne, _, ht⟩
  · exact ⟨e, e2⟩
  · have := len16 ht.gr ht.vp
    rw [(insS_ok h.gr h.vp hne).2.2] at this
    omega
theorem PB.xor {A B : List Int} (hA : PB A) (hB : PB B) : PB (xorD A B) := by
  refine ⟨by simp [xorD, hA.len, hB.len], fun b hb => ?_⟩
  unfold xorD at hb
  obtain ⟨i, hi, rfl⟩ := List.getElem_of_mem hb
  simp only [List.length_zipWith] at hi
  rw [List.getElem_zipWith]
  have a := hA.rng _ (List.getElem_mem (show i < A.length by omega))
  have b := hB.rng _ (List.getElem_mem (show i < B.length by omega))
  exact xorB_isB a b
end Go.Proofs.YtknlbeojdmeljaaDoor.L
namespace Go.Proofs.YtknlbeojdmeljaaDoor.R
open Go.ChangeShapes Go.WideShapes Go.ChangeAt Go.RowKit Go.Proofs.YtknlbeojdmeljaaDoorW.PrintWords Go.Proofs.YtknlbeojdmeljaaDoor.P
open Go.Proofs.YtknlbeojdmeljaaDoor.L (isB)
set_option linter.unusedVariables false
theorem open_num {k : IntKind} {t te : TypeId} (hu : Tryd.prog.underlying t = some (.slice te)) (hk : Tryd.prog.underlying te = some (.int k)) (hc1 : Tryd.prog.cellsOf te = 1) {H : Type} {enc : TypeId × Value → H} {W : World} {a : Option Addr} {len cap : Nat} {d : DataW H} {p : List MemPlace} (h : DataW.Trod enc Tryd.prog W 0 (fun _ => true) true t (.slice a len cap) d p) :
    ∃ ds : List Int, len = ds.length ∧ len ≤ cap ∧ Kd.C (Kd.int k) W a len ds ∧ ∀ b ∈ ds, (Lit.int k b).wf = true := by
  obtain ⟨n, h⟩ := h
  rcases open_ints hu hk hc1 h with ⟨hcs, _⟩ | ⟨ad, l, c, zs, hcs, _, hl, hm, hz, _, hcell, hwz⟩
  · simp [Value.cells] at hcs
    obtain ⟨rfl, rfl, rfl⟩ := hcs
    exact ⟨[], rfl, Nat.le_refl _, ⟨rfl, by simp, fun h => absurd h (by simp)⟩, by simp⟩
  · simp [Value.cells] at hcs
    obtain ⟨rfl, rfl, rfl⟩ := hcs
    have hz' : zs.length = cap := by simpa using hz
    have hl' : len ≤ cap := by simpa using hl
    have htl : (zs.take len).length = len := by rw [List.length_take]; omega
    refine ⟨zs.take len, htl.symm, hl', ⟨htl, by have : cap ≤ maxLen := hm; unfold maxLen at this; omega, fun _ => ⟨ad, rfl, fun j p hj => ⟨[.int k p], rfl, rfl, fun i u hu => ?_⟩⟩⟩, fun b hb => hwz b (List.mem_of_mem_take hb)⟩
    match i, hu with
    | 0, hu =>
      simp at hu
      subst hu
      rw [List.getElem?_take] at hj
      split at hj
      · rename_i hjl
        have h2 := hcell j (by omega)
        rw [List.getD_eq_getElem?_getD, hj] at h2
        have e : (Kd.int k).sz = 1 := rfl
        rw [e, Nat.mul_one]
        exact h2
      · cases hj
theorem open_byteS {H : Type} {enc : TypeId × Value → H} {W : World} {a : Option Addr} {len cap : Nat} {d : DataW H} {p : List MemPlace} (h : DataW.Trod enc Tryd.prog W 0 (fun _ => true) true 22 (.slice a len cap) d p) :
    ∃ ds : List Int, len = ds.length ∧ len ≤ cap ∧ Kd.C (Kd.int .u8) W a len ds ∧ ∀ b ∈ ds, isB b := by
  obtain ⟨ds, h1, h2, h3, h4⟩ := open_num Tryd.underlying22 Tryd.underlying5 cell5' h
  refine ⟨ds, h1, h2, h3, fun b hb => ?_⟩
  have h3 := h4 b hb
  simp only [Lit.wf, Bool.and_eq_true, decide_eq_true_eq] at h3
  have e1 : IntKind.u8.min = 0 := rfl
  have e2 : IntKind.u8.max = 255 := rfl
  rw [e1, e2] at h3
  exact ⟨h3.1, by omega⟩
theorem open_i64S {H : Type} {enc : TypeId × Value → H} {W : World} {a : Option Addr} {len cap : Nat} {d : DataW H} {p : List MemPlace} (h : DataW.Trod enc Tryd.prog W 0 (fun _ => true) true 41 (.slice a len cap) d p) :
    ∃ ds : List Int, len = ds.length ∧ len ≤ cap ∧ Kd.C (Kd.int .i64) W a len ds ∧ ∀ b ∈ ds, (Lit.int .i64 b).wf = true := open_num Tryd.underlying41 Tryd.underlying3 cell3' h
end Go.Proofs.YtknlbeojdmeljaaDoor.R
namespace Go.Proofs.YtknlbeojdmeljaaDoor.H
open Go.RowKit Go.Proofs.YtknlbeojdmeljaaDoorW.PrintWords Go.Proofs.YtknlbeojdmeljaaDoorW.PrintLast Go.Proofs.YtknlbeojdmeljaaDoorW.PrintMore Go.Proofs.YtknlbeojdmeljaaDoor.P
set_option linter.unusedVariables false
set_option linter.unusedSimpArgs false
/-- What is held of rows and blocks, in one bundle. -/
def Hold (w0 w : World) (ls : List (Option Addr × Nat × List S25)) (bs : List (Option Addr × Nat × List Int)) : Prop :=
  Below w0.heap.size w0 w ∧ (∀ p ∈ ls, Kd.C k25 w p.1 p.2.1 p.2.2) ∧ (∀ p ∈ bs, Kd.C (Kd.int .u8) w p.1 p.2.1 p.2.2)
theorem Hold.below {w0 w u : World} {ls : List (Option Addr × Nat × List S25)} {bs : List (Option Addr × Nat × List Int)} (h : Hold w0 w ls bs) (hb : Below w.heap.size w u) : Hold w0 u ls bs :=
  ⟨h.1.trans (hb.mono h.1.size), fun p hp => Kd.C_below (h.2.1 p hp) hb, fun p hp => Kd.C_below (h.2.2 p hp) hb⟩
theorem Hold.addl {w0 w : World} {ls : List (Option Addr × Nat × List S25)} {bs : List (Option Addr × Nat × List Int)} (h : Hold w0 w ls bs) {A : Option Addr} {n : Nat} {xs : List S25} (hc : Kd.C k25 w A n xs) : Hold w0 w ((A, n, xs) :: ls) bs :=
  ⟨h.1, fun p hp => by rcases List.mem_cons.1 hp with rfl | hp; exact hc; exact h.2.1 p hp, h.2.2⟩
theorem Hold.addb {w0 w : World} {ls : List (Option Addr × Nat × List S25)} {bs : List (Option Addr × Nat × List Int)} (h : Hold w0 w ls bs) {A : Option Addr} {n : Nat} {xs : List Int} (hc : Kd.C (Kd.int .u8) w A n xs) : Hold w0 w ls ((A, n, xs) :: bs) :=
  ⟨h.1, h.2.1, fun p hp => by rcases List.mem_cons.1 hp with rfl | hp; exact hc; exact h.2.2 p hp⟩
theorem ex_h {w0 w : World} {ls : List (Option Addr × Nat × List S25)} {bs : List (Option Addr × Nat × List Int)} (h : Hold w0 w ls bs) :
    Calls Tryd.prog 27 #[] w fun e u => ∃ A c, e = .returned (.slice A 256 c) ∧ 256 ≤ c ∧ Hold w0 u ls ((A, 256, exB) :: bs) := by
  obtain ⟨E, hE⟩ : ∃ E, E = exB := ⟨_, rfl⟩
  have hcall := slotmeshlaw34_example.calls 300 E w (by rw [hE]; exact ex_is)
  rw [← hE]
  have hl256 : E.length = 256 := by rw [hE]; simp [exB]
  clear hE
  refine hcall.mono ?_
  rintro e u ⟨v, rfl, hR, hb⟩
  obtain ⟨A, c, rfl⟩ := Kd.R_slice hR
  obtain ⟨_, hl, hc⟩ := Kd.R_reads' hR
  rw [hl256] at hl hc ⊢
  exact ⟨A, c, rfl, hl, (h.below hb).addb hc⟩
theorem enc_h {w0 w : World} {ls : List (Option Addr × Nat × List S25)} {bs : List (Option Addr × Nat × List Int)} (h : Hold w0 w ls bs) (ht : Tabs w0) {A : Option Addr} {c : Nat} (B : List Int) (p s : Int) (hA : (A, 256, B) ∈ bs) (hc : 256 ≤ c) (hp : 0 ≤ p ∧ p < 16) (hs : 0 ≤ s ∧ s ≤ 1000000000) :
    Calls Tryd.prog 12 #[.slice A 256 c, .int .i64 p, .int .i64 s] w fun e u => ∃ A' c', e = .returned (.tuple #[.agg #[.int .i64 p, .int .i64 s, .slice A' 16 c', .slice none 0 0], .int .i64 0]) ∧ 16 ≤ c' ∧ Hold w0 u ls ((A', 16, sumE B s) :: bs) := by
  refine (encode_good A c B p s w hc (h.2.2 _ hA) (ht.keep h.1) hp hs).mono ?_
  rintro e u ⟨v, rfl, hR, hb⟩
  have hl16 : (sumE B s).length = 16 := sumE_len (h.2.2 _ hA).1 s hs
  obtain ⟨A', c', rfl⟩ := Kd.R_slice hR
  obtain ⟨_, hl, hcc⟩ := Kd.R_reads' hR
  rw [show (foldE B (setS s).toNat (fr 16)).1 = sumE B s from rfl, hl16] at hl hcc ⊢
  exact ⟨A', c', rfl, hl, (h.below hb).addb hcc⟩
theorem rcv_h {w0 w : World} {ls : List (Option Addr × Nat × List S25)} {bs : List (Option Addr × Nat × List Int)} (h : Hold w0 w ls bs) (ht : Tabs w0) {A : Option Addr} {c : Nat} (B : List Int) (A2 : Option Addr) (c2 n2 : Nat) (seeds : List Int) (hn : n2 = seeds.length) (hA : (A, 256, B) ∈ bs) (hc : 256 ≤ c)
    (hr2 : Kd.C (Kd.int .i64) w A2 seeds.length seeds) (hl : seeds.length ≤ 200) (hg : ∀ s ∈ seeds, 0 ≤ s ∧ s ≤ 1000000000) (zs : List S25) (m : Int) (b : Bool) (k : Nat) (hres : recL B seeds [] 0 = (zs, m, b)) (hk : zs.length = k) :
    Calls Tryd.prog 24 #[.slice A 256 c, .slice A2 n2 c2] w fun e u => ∃ A' c', e = .returned (.tuple #[.slice A' k c', .int .i64 m, .bool b]) ∧ k ≤ c' ∧ Hold w0 u ((A', k, zs) :: ls) bs := by
  subst hn hk
  have hcall := received_calls A c B A2 c2 seeds w hc (h.2.2 _ hA) hr2 hl hg (ht.keep h.1)
  rw [hres] at hcall
  refine hcall.mono ?_
  rintro e u ⟨v, rfl, hS, hb⟩
  obtain ⟨A', c', rfl⟩ := Kd.R_slice (Kd.S_R hS)
  obtain ⟨_, hl', hcc⟩ := Kd.R_reads' (Kd.S_R hS)
  exact ⟨A', c', rfl, hl', (h.below hb).addl hcc⟩
theorem page_h {w0 w : World} {ls : List (Option Addr × Nat × List S25)} {bs : List (Option Addr × Nat × List Int)} (h : Hold w0 w ls bs) {A : Option Addr} {cap n : Nat} (xs : List S25) (ys : List Int) (b : Bool) (k : Nat)
    (hA : (A, n, xs) ∈ ls) (hn : n = xs.length) (hr : pageS xs = (ys, b)) (hk : ys.length = k) :
    Calls Tryd.prog 16 #[.slice A n cap] w fun e u => ∃ A' c', e = .returned (.tuple #[.slice A' k c', .bool b]) ∧ k ≤ c' ∧ Hold w0 u ls ((A', k, ys) :: bs) := by
  subst hn hk
  have hc := page_calls A cap xs w (h.2.1 _ hA)
  rw [hr] at hc
  refine hc.mono ?_
  rintro e u ⟨v, rfl, hR, hb⟩
  obtain ⟨A', c', rfl⟩ := Kd.R_slice hR
  obtain ⟨_, hl', hcc⟩ := Kd.R_reads' hR
  exact ⟨A', c', rfl, hl', (h.below hb).addb hcc⟩
theorem bytes_h {w0 w : World} {ls : List (Option Addr × Nat × List S25)} {bs : List (Option Addr × Nat × List Int)} (h : Hold w0 w ls bs) {A A1 : Option Addr} {c c1 n n1 : Nat} (xs ys : List Int) (b : Bool) (k : Nat) (hA : (A, n, xs) ∈ bs) (hB : (A1, n1, ys) ∈ bs) (hn : n = xs.length) (hn1 : n1 = ys.length) (hc : n ≤ c) (hc1 : n1 ≤ c1) (hr : slotmeshref33_Bytes.f k xs ys = some b) :
    Calls Tryd.prog 22 #[.slice A n c, .slice A1 n1 c1] w fun e u => e = .returned (.bool b) ∧ Hold w0 u ls bs := by
  subst hn hn1
  refine (slotmeshref33_Bytes.calls k A c xs A1 c1 ys b w (h.2.2 _ hA) hc (h.2.2 _ hB) hc1 hr).mono ?_
  rintro e u ⟨rfl, hd⟩
  exact ⟨rfl, h.below hd.below⟩
end Go.Proofs.YtknlbeojdmeljaaDoor.H
namespace Go.Proofs.YtknlbeojdmeljaaDoor.H
open Go.RowKit Go.Proofs.YtknlbeojdmeljaaDoorW.PrintWords Go.Proofs.YtknlbeojdmeljaaDoorW.PrintLast Go.Proofs.YtknlbeojdmeljaaDoorW.PrintMore Go.Proofs.YtknlbeojdmeljaaDoor.P
set_option linter.unusedVariables false
set_option linter.unusedSimpArgs false
/-- a block's cells, told by their values -/
def Box (w : World) (b : Nat) (vs : List Value) : Prop := b < w.heap.size ∧ ∀ k v, vs[k]? = some v → w.cell? ⟨b, k, none⟩ = some v
theorem Box.below {w u : World} {b : Nat} {vs : List Value} (h : Box w b vs) (hb : Below w.heap.size w u) : Box u b vs :=
  ⟨Nat.lt_of_lt_of_le h.1 hb.size, fun k v hk => (hb.cell (p := ⟨b, k, none⟩) h.1).trans (h.2 k v hk)⟩
theorem Box.new (w : World) (vs : List Value) (t : TypeId) : Box (w.alloc (.cells vs.toArray t)) w.heap.size vs := by
  refine ⟨blk_lt (heap_alloc_new w _), fun k v hk => ?_⟩
  rw [blk_cell (heap_alloc_new w _) k]
  simpa using hk
theorem Hold.alloc {w0 w : World} {ls : List (Option Addr × Nat × List S25)} {bs : List (Option Addr × Nat × List Int)} (h : Hold w0 w ls bs) (o : Obj) : Hold w0 (w.alloc o) ls bs :=
  h.below ((Below.refl _ _).alloc (Nat.le_refl _) _)
theorem lit_C (k : IntKind) (w : World) (e : TypeId) (xs : List Int) (h : xs.length ≤ 9223372036854775807) : Kd.C (Kd.int k) (w.alloc (.cells (nums k xs).toArray e)) (some ⟨w.heap.size, 0, none⟩) xs.length xs := by
  refine ⟨rfl, h, fun _ => ⟨_, rfl, fun j p hj => ⟨[.int k p], rfl, rfl, fun i u hu => ?_⟩⟩⟩
  match i, hu with
  | 0, hu =>
    simp at hu
    subst hu
    have e1 : (Kd.int k).sz = 1 := rfl
    rw [e1, Nat.mul_one, Nat.add_zero, add_plain, blk_cell (heap_alloc_new w _) j]
    simp [nums, hj]
theorem Hold.rebase {w0 w : World} {ls : List (Option Addr × Nat × List S25)} {bs : List (Option Addr × Nat × List Int)} (h : Hold w0 w ls bs) : Hold w w ls bs := ⟨Below.refl _ _, h.2.1, h.2.2⟩
theorem Hold.onto {w0 w u : World} {ls ls' : List (Option Addr × Nat × List S25)} {bs bs' : List (Option Addr × Nat × List Int)} (h : Hold w0 w ls bs) (k : Hold w u ls' bs') : Hold w0 u ls' bs' := ⟨h.1.trans (k.1.mono h.1.size), k.2.1, k.2.2⟩
theorem set_h {w0 w : World} {ls : List (Option Addr × Nat × List S25)} {bs : List (Option Addr × Nat × List Int)} (h : Hold w0 w ls bs) (ht : Tabs w0) (n v : Int) (hv : setS n = v) :
    Calls Tryd.prog 18 #[.int .i64 n] w fun e u => e = .returned (.int .i64 v) ∧ Hold w0 u ls bs := by
  subst hv
  exact (set_calls n w (ht.keep h.1)).mono fun e u ⟨he, hb⟩ => ⟨he, h.below hb⟩
theorem bad_h {w0 w : World} {ls : List (Option Addr × Nat × List S25)} {bs : List (Option Addr × Nat × List Int)} (h : Hold w0 w ls bs) (A : Option Addr) (n c : Nat) (p s : Int) (hg : ¬ goodE n p s) :
    Calls Tryd.prog 12 #[.slice A n c, .int .i64 p, .int .i64 s] w fun e u => e = .returned (.tuple #[.agg #[.int .i64 0, .int .i64 0, .slice none 0 0, .slice none 0 0], .int .i64 1]) ∧ Hold w0 u ls bs :=
  (encode_bad A n c p s w hg).mono fun e u ⟨hb, he⟩ => ⟨he, h.below hb⟩
set_option maxRecDepth 100000 in
set_option maxHeartbeats 1000000 in
theorem head_calls (w : World) (ht : Tabs w) : Calls Tryd.prog 10 #[] w fun e w' => e = .returned (.bool true) ∧ Below w.heap.size w w' := by
  have HT := Lib.hid ht
  have H0 := Lib.hid (show Hold w w [] [] from ⟨Below.refl _ _, (fun _ h => by cases h), (fun _ h => by cases h)⟩)
  obtain ⟨E, hE⟩ : ∃ E, E = exB := ⟨_, rfl⟩
  have HE := Lib.hid hE
  obtain ⟨z1, hz1⟩ : ∃ z, z = (recL exB up15 [] 0).1 := ⟨_, rfl⟩
  obtain ⟨z2, hz2⟩ : ∃ z, z = (recL exB dn16 [] 0).1 := ⟨_, rfl⟩
  have R1 := Lib.hid (show recL E up15 [] 0 = (z1, 15, true) by rw [hE, hz1, ← ex_up])
  have R2 := Lib.hid (show recL E dn16 [] 0 = (z2, 16, true) by rw [hE, hz2, ← ex_dn])
  obtain ⟨⟨p1, b1⟩, hp1⟩ : ∃ p, p = pageS z1 := ⟨_, rfl⟩
  have hb1 : b1 = false := by have := ex_upP; rw [← hz1, ← hp1] at this; exact this
  subst hb1
  have P1 := Lib.hid hp1.symm
  have P2 := Lib.hid (show pageS z2 = (E, true) by rw [hE, hz2, ex_dnP])
  have S3 := Lib.hid (show sumE E 3 = List.replicate 16 3 by rw [hE]; exact ex_enc)
  have EX := Lib.hid (fun w0 w1 ls bs (h : Hold w0 w1 ls bs) => hE ▸ ex_h h)
  have LE := Lib.hid (show E.length = 256 by rw [hE]; simp [exB])
  clear ht hE hz1 hz2 hp1
  go_enter Tryd.func10, Tryd.ntmps10
  go_wp2_with fail
  refine (EX.out _ _ _ _ H0.out).mono ?_
  rintro e u1 ⟨A1, c1, rfl, hc1, h1⟩
  have H1 := Lib.hid h1
  clear h1
  go_wp2_with fail
  refine (enc_h H1.out HT.out E 2 3 (List.mem_cons_self) hc1 (by omega) (by omega)).mono ?_
  rintro e u2 ⟨A2, c2, rfl, hc2, h2⟩
  have H2 := Lib.hid h2
  clear h2
  go_wp2_with fail
  obtain ⟨u2b, hu2⟩ : ∃ u, u = u2.alloc (Obj.cells #[Value.int IntKind.i64 2, Value.int IntKind.i64 3, Value.slice A2 16 c2, Value.slice none 0 0] 26) := ⟨_, rfl⟩
  have X2 := Lib.hid (show Box u2b u2.heap.size [Value.int IntKind.i64 2, Value.int IntKind.i64 3, Value.slice A2 16 c2, Value.slice none 0 0] by rw [hu2]; exact Box.new _ _ _)
  have H2b := Lib.hid (show Hold w u2b _ _ by rw [hu2]; exact H2.out.alloc _)
  have K2 := Lib.hid H2b.out.rebase
  have TB := Lib.hid (HT.out.keep H2b.out.1)
  rw [← hu2]
  clear hu2
  refine (EX.out _ _ _ _ K2.out).mono ?_
  rintro e u3 ⟨A3, c3, rfl, hc3, h3⟩
  have H3 := Lib.hid h3
  clear h3
  go_wp2_with fail
  refine (rcv_h (H3.out.alloc _) TB.out E _ _ _ up15 rfl List.mem_cons_self hc3 (lit_C .i64 u3 3 up15 (by decide)) (by decide) (by decide) z1 15 true _ R1.out rfl).mono ?_
  rintro e u4 ⟨A4, c4, rfl, hc4, h4⟩
  have H4 := Lib.hid h4
  clear h4
  go_wp2_with fail
  refine (page_h H4.out z1 p1 false _ List.mem_cons_self rfl P1.out rfl).mono ?_
  rintro e u5 ⟨A5, c5, rfl, hc5, h5⟩
  have H5 := Lib.hid h5
  clear h5
  go_wp2_with fail
  refine (EX.out _ _ _ _ H5.out).mono ?_
  rintro e u6 ⟨A6, c6, rfl, hc6, h6⟩
  have H6 := Lib.hid h6
  clear h6
  go_wp2_with fail
  refine (rcv_h (H6.out.alloc _) TB.out E _ _ _ dn16 rfl List.mem_cons_self hc6 (lit_C .i64 u6 3 dn16 (by decide)) (by decide) (by decide) z2 16 true _ R2.out rfl).mono ?_
  rintro e u7 ⟨A7, c7, rfl, hc7, h7⟩
  have H7 := Lib.hid h7
  clear h7
  go_wp2_with fail
  refine (page_h H7.out z2 E true _ List.mem_cons_self rfl P2.out LE.out).mono ?_
  rintro e u8 ⟨A8, c8, rfl, hc8, h8⟩
  have H8 := Lib.hid h8
  clear h8
  go_wp2_with fail
  refine (bad_h H8.out _ _ _ _ _ (by unfold goodE; omega)).mono ?_
  rintro e u9 ⟨rfl, h9⟩
  have H9 := Lib.hid h9
  clear h9
  go_wp2_with fail
  refine (set_h (H9.out.alloc _) TB.out _ 1 (by decide)).mono ?_
  rintro e u10 ⟨rfl, h10⟩
  have H10 := Lib.hid h10
  clear h10
  go_wp2_with fail
  refine (set_h H10.out TB.out _ 8 (by decide)).mono ?_
  rintro e u11 ⟨rfl, h11⟩
  have H11 := Lib.hid h11
  clear h11
  go_wp2_with fail
  refine (set_h H11.out TB.out _ 32768 (by decide)).mono ?_
  rintro e u12 ⟨rfl, h12⟩
  have H12 := Lib.hid h12
  clear h12
  go_wp2_with fail
  refine (set_h H12.out TB.out _ 0 (by decide)).mono ?_
  rintro e u13 ⟨rfl, h13⟩
  have H13 := Lib.hid h13
  clear h13
  have X13 := Lib.hid (X2.out.below H13.out.1)
  have xc0 := X13.out.2 0 _ rfl
  have xc1 := X13.out.2 1 _ rfl
  have xc2 := X13.out.2 2 _ rfl
  go_wp2_with fail
  have hm2 : (A2, 16, List.replicate 16 3) ∈ [(A8, 256, E), (A6, 256, E), (A5, p1.length, p1), (A3, 256, E), (A2, 16, sumE E 3), (A1, 256, E)] := by rw [S3.out]; simp
  refine (bytes_h ((H13.out.alloc _).addb (lit_C .u8 u13 5 (List.replicate 16 3) (by decide))) (List.replicate 16 3) (List.replicate 16 3) true 300 (List.mem_cons_of_mem _ hm2) List.mem_cons_self rfl rfl hc2 (Nat.le_refl 16) ex_b3).mono ?_
  rintro e u14 ⟨rfl, h14⟩
  have H14 := Lib.hid h14
  clear h14 hm2
  go_wp2_with fail
  refine (EX.out _ _ _ _ H14.out).mono ?_
  rintro e u15 ⟨A15, c15, rfl, hc15, h15⟩
  have H15 := Lib.hid h15
  clear h15
  go_wp2_with fail
  refine (bytes_h H15.out E E true 300 (List.mem_cons_of_mem _ (List.mem_cons_of_mem _ List.mem_cons_self)) List.mem_cons_self LE.out.symm LE.out.symm hc8 hc15 (by rw [HE.out]; exact ex_bb)).mono ?_
  rintro e u16 ⟨rfl, h16⟩
  have H16 := Lib.hid h16
  clear h16
  go_wp2_with fail
  go_ret
  exact ⟨rfl, (H2b.out.onto H16.out).1⟩
end Go.Proofs.YtknlbeojdmeljaaDoor.H
namespace Go.Proofs.YtknlbeojdmeljaaDoor.L
open Go.RowKit Go.Proofs.YtknlbeojdmeljaaDoorW.PrintWords Go.Proofs.YtknlbeojdmeljaaDoorW.PrintLast Go.Proofs.YtknlbeojdmeljaaDoorW.PrintMore Go.Proofs.YtknlbeojdmeljaaDoor.P Go.Proofs.YtknlbeojdmeljaaDoor.H
set_option linter.unusedVariables false
set_option linter.unusedSimpArgs false
def seedB (s : Int) : Bool := decide (0 ≤ s ∧ s ≤ 1000000000)
def validB (P seeds : List Int) : Bool := (seeds.take 200).all seedB && (decide (P.length = 256) && decide (seeds.length ≤ 100))
theorem validB_iff (P seeds : List Int) : validB P seeds = true ↔ P.length = 256 ∧ seeds.length ≤ 100 ∧ Good seeds := by
  unfold validB Good
  simp only [Bool.and_eq_true, decide_eq_true_eq, List.all_eq_true, seedB]
  constructor
  · rintro ⟨h1, h2, h3⟩
    exact ⟨h2, h3, fun s hs => h1 s (by rw [List.take_of_length_le (by omega)]; exact hs)⟩
  · rintro ⟨h2, h3, h1⟩
    exact ⟨fun s hs => h1 s (List.mem_of_mem_take hs), h2, h3⟩
theorem seed_f (n : Int) : slotmeshref34_Seed.f n = some (seedB n) := by
  unfold slotmeshref34_Seed.f seedB
  by_cases h : 0 ≤ n
  · rw [if_pos h]; simp [h]
  · rw [if_neg h]; simp [h]
theorem valid34_l0 (P seeds : List Int) : ∀ n i : Nat, i + n = (seeds.take 200).length →
    Ev (fun k => slotmeshlaw34_valid.l0 k P seeds (i : Int)) (((seeds.take 200).drop i).all seedB && (decide (P.length = 256) && decide (seeds.length ≤ 100)))
  | 0, i, hi => by
    have hd : (seeds.take 200).drop i = [] := List.drop_of_length_le (by omega)
    rw [hd]
    have fin : Ev (fun k => slotmeshlaw34_valid.j1 k P seeds (i : Int) false) ([].all seedB && (decide (P.length = 256) && decide (seeds.length ≤ 100))) := by
      refine ⟨1, fun k hk => ?_⟩
      obtain ⟨k, rfl⟩ : ∃ m, k = m + 1 := ⟨k - 1, by omega⟩
      simp only [slotmeshlaw34_valid.j1]
      rw [if_neg (by simp)]
      by_cases hP : P.length = 256
      · rw [if_pos (by omega)]
        simp [hP]
        omega
      · rw [if_neg (by omega)]
        simp [hP]
    obtain ⟨K, hK⟩ := fin
    refine ⟨K + 1, fun k hk => ?_⟩
    obtain ⟨k, rfl⟩ : ∃ m, k = m + 1 := ⟨k - 1, by omega⟩
    simp only [slotmeshlaw34_valid.l0]
    rw [List.length_take] at hi
    by_cases h : (i : Int) < seeds.length
    · rw [if_pos h, show decide ((i : Int) < 200) = false by simp; omega]
      exact hK k (by omega)
    · rw [if_neg h]
      exact hK k (by omega)
  | n + 1, i, hi => by
    have hlt : i < (seeds.take 200).length := by omega
    have hlt2 := hlt
    rw [List.length_take] at hlt2
    obtain ⟨K, hK⟩ := valid34_l0 P seeds n (i + 1) (by omega)
    rw [List.drop_eq_getElem_cons hlt, List.all_cons]
    refine ⟨K + 2, fun k hk => ?_⟩
    obtain ⟨k, rfl⟩ : ∃ m, k = m + 2 := ⟨k - 2, by omega⟩
    simp only [slotmeshlaw34_valid.l0]
    rw [if_pos (by omega), show decide ((i : Int) < 200) = true by simp; omega]
    simp only [slotmeshlaw34_valid.j1]
    rw [if_pos trivial, if_pos (by omega), if_pos (by omega), seed_f]
    simp only [Option.bind_some]
    have hr : rd seeds (i : Int) = (seeds.take 200)[i] := by
      rw [List.getElem_take]
      simp [rd, show i < seeds.length by omega]
    rw [hr]
    cases hs : seedB (seeds.take 200)[i]
    · simp
    · rw [if_pos rfl, Bool.true_and, show wrap64 ((i : Int) + 1) = ((i + 1 : Nat) : Int) by unfold wrap64; omega]
      exact hK k (by omega)
theorem valid_ev (P seeds : List Int) : Ev (fun k => slotmeshlaw34_valid.f k P seeds) (validB P seeds) := by
  have := valid34_l0 P seeds _ 0 (Nat.zero_add _)
  exact this
end Go.Proofs.YtknlbeojdmeljaaDoor.L
namespace Go.Proofs.YtknlbeojdmeljaaDoor.H
open Go.RowKit Go.Proofs.YtknlbeojdmeljaaDoorW.PrintWords Go.Proofs.YtknlbeojdmeljaaDoorW.PrintLast Go.Proofs.YtknlbeojdmeljaaDoorW.PrintMore Go.Proofs.YtknlbeojdmeljaaDoor.P
set_option linter.unusedVariables false
set_option linter.unusedSimpArgs false
variable {w0 w : World} {ls : List (Option Addr × Nat × List S25)} {bs : List (Option Addr × Nat × List Int)}
theorem head_h (h : Hold w0 w ls bs) (ht : Tabs w0) : Calls Tryd.prog 10 #[] w fun e u => e = .returned (.bool true) ∧ Hold w0 u ls bs :=
  (head_calls w (ht.keep h.1)).mono fun e u ⟨he, hb⟩ => ⟨he, h.below hb⟩
theorem valid_h (h : Hold w0 w ls bs) {A : Option Addr} {n c : Nat} (P : List Int) (hA : (A, n, P) ∈ bs) (hn : n = P.length) (hc : n ≤ c) (A2 : Option Addr) (n2 c2 : Nat) (seeds : List Int) (hr : Kd.C (Kd.int .i64) w0 A2 n2 seeds) (hn2 : n2 = seeds.length) (hc2 : n2 ≤ c2) (b : Bool) (hb : L.validB P seeds = b) :
    Calls Tryd.prog 23 #[.slice A n c, .slice A2 n2 c2] w fun e u => e = .returned (.bool b) ∧ Hold w0 u ls bs := by
  subst hn hn2 hb
  obtain ⟨K, hK⟩ := L.valid_ev P seeds
  exact (slotmeshlaw34_valid.calls K A c P A2 c2 seeds _ w (h.2.2 _ hA) hc (Kd.C_below hr h.1) hc2 (hK K (Nat.le_refl K))).mono fun e u ⟨he, hd⟩ => ⟨he, h.below hd.below⟩
theorem sameE_h (h : Hold w0 w ls bs) {A A1 : Option Addr} {c c1 n n1 : Nat} (xs ys : List S25) (hx : ∀ x ∈ xs, x.f1.length < 9223372036854775808) (b : Bool) (hA : (A, n, xs) ∈ ls) (hB : (A1, n1, ys) ∈ ls) (hn : n = xs.length) (hn1 : n1 = ys.length) (hc : n ≤ c) (hc1 : n1 ≤ c1) (hb : L.sameB xs ys = b) :
    Calls Tryd.prog 21 #[.slice A n c, .slice A1 n1 c1] w fun e u => e = .returned (.bool b) ∧ Hold w0 u ls bs := by
  subst hn hn1 hb
  have hl := (h.2.1 _ hA).2.1
  obtain ⟨K, hK⟩ := L.refSame xs ys (by simp only at hl; omega) hx
  exact (slotmeshref33_Same.calls K A c xs A1 c1 ys _ w (h.2.1 _ hA) hc (h.2.1 _ hB) hc1 (hK K (Nat.le_refl K))).mono fun e u ⟨he, hd⟩ => ⟨he, h.below hd.below⟩
end Go.Proofs.YtknlbeojdmeljaaDoor.H
namespace Go.Proofs.YtknlbeojdmeljaaDoor.H
open Go.RowKit Go.Proofs.YtknlbeojdmeljaaDoorW.PrintWords Go.Proofs.YtknlbeojdmeljaaDoorW.PrintLast Go.Proofs.YtknlbeojdmeljaaDoorW.PrintMore Go.Proofs.YtknlbeojdmeljaaDoor.P
set_option linter.unusedVariables false
set_option linter.unusedSimpArgs false
theorem Hold.start (w : World) {A : Option Addr} {n : Nat} {P : List Int} (h : Kd.C (Kd.int .u8) w A n P) : Hold w w [] [(A, n, P)] :=
  ⟨Below.refl _ _, (fun _ h => by cases h), (fun p hp => by rw [List.mem_singleton.1 hp]; exact h)⟩
theorem row_len {B : List Int} {l : List S25} (h : L.TR B l) : ∀ x ∈ l, x.f1.length < 9223372036854775808 := by
  intro x hx
  have := (L.fine_spec (h.gr.fine x hx)).2.2
  omega
theorem same_self (l : List S25) : L.sameB l l = true := by unfold L.sameB; exact beq_self_eq_true _
end Go.Proofs.YtknlbeojdmeljaaDoor.H
namespace Go.Proofs.YtknlbeojdmeljaaDoor.H
open Go.RowKit Go.Proofs.YtknlbeojdmeljaaDoorW.PrintWords Go.Proofs.YtknlbeojdmeljaaDoorW.PrintLast Go.Proofs.YtknlbeojdmeljaaDoorW.PrintMore Go.Proofs.YtknlbeojdmeljaaDoor.P
set_option linter.unusedVariables false
set_option linter.unusedSimpArgs false
theorem lit_R (k : IntKind) (w : World) (base : Nat) (ok : Nat → Prop) (e : TypeId) (xs : List Int) (hb : base ≤ w.heap.size) (hok : ok w.heap.size) (h : xs.length ≤ 9223372036854775807) : Kd.R (Kd.int k) e (w.alloc (.cells (nums k xs).toArray e)) base ok (.slice (some ⟨w.heap.size, 0, none⟩) xs.length xs.length) xs := by
  refine ⟨fun j hj => ?_, ?_⟩
  · simp [Value.ownBlock] at hj
    subst hj
    exact hok
  · refine OwnRow.lit w base (inner := nums k xs) ⟨by simp [nums, Kd.int, Kd.scalar], fun j p hj => ?_⟩ hb h
    have e1 : (Kd.int k).sz = 1 := rfl
    rw [e1, Nat.mul_one]
    show ((nums k xs).drop j).take 1 = [.int k p]
    have hjl : j < xs.length := by
      rcases Nat.lt_or_ge j xs.length with h | h
      · exact h
      · rw [List.getElem?_eq_none h] at hj; cases hj
    rw [List.drop_eq_getElem_cons (by simpa [nums] using hjl)]
    rw [List.getElem?_eq_getElem hjl] at hj
    have hj := Option.some.inj hj
    simp [nums, hj]
theorem info3 : (Tryd.prog.info? 3).map (fun i => (i.zero, i.size, i.bytes)) = some (some (.int .i64 0), 1, 8) := by kernel_rfl
/-- the seeds in reverse order behind one of them -/
def turnTo (x : Int) (l : List Int) (k : Nat) : List Int := x :: l.reverse.take k
theorem turnTo_len (x : Int) (l : List Int) (k : Nat) (h : k ≤ l.length) : (turnTo x l k).length = k + 1 := by simp [turnTo]; omega
theorem turnTo_succ (x : Int) (l : List Int) (k : Nat) (i : Int) (h0 : 0 ≤ i) (h : i + 1 + (k : Int) = l.length) : turnTo x l (k + 1) = turnTo x l k ++ [rd l i] := by
  unfold turnTo
  have hk : k < l.reverse.length := by rw [List.length_reverse]; omega
  rw [List.take_succ_eq_append_getElem hk, List.getElem_reverse]
  have hr : rd l i = l[l.length - 1 - k]'(by omega) := by
    have : i.toNat = l.length - 1 - k := by omega
    simp [rd, this, show l.length - 1 - k < l.length by omega]
  rw [hr]
  rfl
theorem turnTo_mem {x : Int} {l : List Int} (hx : x ∈ l) : (∀ y ∈ turnTo x l l.length, y ∈ l) ∧ (∀ y ∈ l, y ∈ turnTo x l l.length) := by
  unfold turnTo
  rw [List.take_of_length_le (by simp)]
  constructor
  · intro y hy
    rcases List.mem_cons.1 hy with rfl | hy
    · exact hx
    · exact List.mem_reverse.1 hy
  · intro y hy
    exact List.mem_cons_of_mem _ (List.mem_reverse.2 hy)
set_option maxRecDepth 100000 in
set_option maxHeartbeats 1000000 in
theorem order34_calls (A : Option Addr) (c n : Nat) (P : List Int) (hB : ∀ b ∈ P, L.isB b) (hn : n = P.length) (hc : n ≤ c) (A2 : Option Addr) (c2 n2 : Nat) (seeds : List Int) (hn2 : n2 = seeds.length) (hc2 : n2 ≤ c2) (tw : Int) (w : World) (hr : Kd.C (Kd.int .u8) w A n P) (hr2 : Kd.C (Kd.int .i64) w A2 n2 seeds) (ht : Tabs w) :
    Calls Tryd.prog 6 #[.slice A n c, .slice A2 n2 c2, .int .i64 tw] w fun e w' => e = .returned (.bool true) ∧ Below w.heap.size w w' := by
  have HT := Lib.hid ht
  have HN := Lib.hid hn
  have HN2 := Lib.hid hn2
  have HR2 := Lib.hid hr2
  have H0 := Lib.hid (Hold.start w hr)
  by_cases hv : L.validB P seeds = true
  · have HV := Lib.hid hv
    by_cases h0 : n2 = 0
    · subst h0
      clear ht hn hn2 hr hr2 hB hv
      go_enter Tryd.func6, Tryd.ntmps6
      go_wp2_with fail
      refine (head_h H0.out HT.out).mono ?_
      rintro e u1 ⟨rfl, h1⟩
      have H1 := Lib.hid h1
      clear h1
      go_wp2_with fail
      refine (valid_h H1.out P List.mem_cons_self HN.out hc A2 _ c2 seeds HR2.out HN2.out hc2 true HV.out).mono ?_
      rintro e u2 ⟨rfl, h2⟩
      have H2 := Lib.hid h2
      clear h2
      go_wp2_with fail
      go_ret
      exact ⟨rfl, H2.out.1⟩
    · have z0 : ((n2 : Int) == 0) = false := by simp; omega
      by_cases hf : 0 ≤ tw
      · obtain ⟨v1, v2, v3⟩ := (L.validB_iff P seeds).1 hv
        have pb : L.PB P := ⟨v1, hB⟩
        have b0 : 0 ≤ tw % (n2 : Int) := Int.emod_nonneg _ (by omega)
        have b1 : tw % (n2 : Int) < n2 := Int.emod_lt_of_pos _ (by omega)
        have hm : rd seeds (tw % (n2 : Int)) ∈ seeds := by
          have : (tw % (n2 : Int)).toNat < seeds.length := by omega
          simp [rd, this]
        obtain ⟨ad, e2, hcell⟩ := Kd.at_int hr2 (tw % (n2 : Int)) b0 b1
        obtain ⟨x, hx⟩ : ∃ x, x = rd seeds (tw % (n2 : Int)) := ⟨_, rfl⟩
        rw [← hx] at hm hcell
        subst e2
        have HC := Lib.hid hcell
        have HM := Lib.hid hm
        have V3 := Lib.hid v3
        have V2 := Lib.hid v2
        have PB := Lib.hid pb
        have n256 : n = 256 := by omega
        have hn100 : n2 ≤ 100 := by omega
        have hn0 : 0 < n2 := by omega
        subst n256
        clear ht hn hn2 hr hr2 hB hv v1 v2 v3 pb hm hcell hx h0
        go_enter Tryd.func6, Tryd.ntmps6
        go_wp2_with fail
        refine (head_h H0.out HT.out).mono ?_
        rintro e u1 ⟨rfl, h1⟩
        have H1 := Lib.hid h1
        clear h1
        go_wp2_with fail
        refine (valid_h H1.out P List.mem_cons_self HN.out hc _ _ c2 seeds HR2.out HN2.out hc2 true HV.out).mono ?_
        rintro e u2 ⟨rfl, h2⟩
        have H2 := Lib.hid h2
        clear h2
        go_wp2_with fail
        obtain ⟨l, r1, r2, r3⟩ := L.rec0 PB.out seeds V3.out
        have R1 := Lib.hid r1
        have R2 := Lib.hid r2
        have R3 := Lib.hid r3
        clear r1 r2 r3
        refine (rcv_h H2.out HT.out P _ c2 _ seeds HN2.out List.mem_cons_self hc (HN2.out ▸ Kd.C_below HR2.out H2.out.1) (by have := V2.out; omega) V3.out l l.length true _ R1.out rfl).mono ?_
        rintro e u3 ⟨A3, c3, rfl, hc3, h3⟩
        have H3 := Lib.hid h3
        clear h3
        have hcell := (pw_cell_below H3.out.1 HC.out)
        go_wp2_with fail
        clear hcell
        go_loopw [12, 13] (fun lv iv wr => ∃ (k : Nat) (i : Int), -1 ≤ i ∧ i < n2 ∧ k ≤ n2 ∧ (i + 1 + (k : Int) = seeds.length) ∧ iv = .int .i64 i ∧ Kd.R (Kd.int .i64) 3 wr u3.heap.size (fun _ => True) lv (turnTo x seeds k) ∧ Below u3.heap.size u3 wr) (fun _ iv _ => (intOf iv + 1).toNat)
        case atStart => exact ⟨0, (n2 : Int) - 1, by omega, by omega, by omega, by rw [← HN2.out]; omega, rfl, lit_R .i64 u3 _ _ 3 [x] (Nat.le_refl _) trivial (by simp), (Below.refl _ _).alloc (Nat.le_refl _) _⟩
        case round =>
          obtain ⟨k, i, hi1, hi2, hk, hik, rfl, hR, hBl⟩ := hrel
          have HR := Lib.hid hR
          have HBl := Lib.hid hBl
          have HIK := Lib.hid hik
          clear hR hBl hik
          by_cases hlt : 0 ≤ i
          · obtain ⟨ad2, e2, hcell⟩ := Kd.at_int (Kd.C_below HR2.out (H3.out.1.trans (HBl.out.mono H3.out.1.size))) i hlt hi2
            obtain ⟨y, hy⟩ : ∃ y, y = rd seeds i := ⟨_, rfl⟩
            rw [← hy] at hcell
            cases e2
            have HY := Lib.hid hy
            have hkl : (turnTo x seeds k).length = k + 1 := turnTo_len _ _ _ (by have := HIK.out; omega)
            have HKL := Lib.hid hkl
            clear hy hkl
            go_wp2_with (first | ((with_reducible refine gate_builtin (b := .append) (xs := #[.tmp 55, .tmp 60]) rfl ?_); at_builtin; refine Kd.R_append (Kd.int .i64) (w0 := u3) u3.heap.size rfl (.tmp 55) (.tmp 60) 41 3 (.int .i64 0) 8 rfl Tryd.underlying41 info3 rfl (by decide) (by omega) u12 (turnTo x seeds k) y [.int .i64 y] (fun _ => True) (fun _ => False) rfl rfl rfl (fun _ hk => hk.elim) (fun _ _ => trivial) HR.out HBl.out HBl.out.size (by rw [HKL.out]; omega) ?_; intro v1 w1 ho hb hg hat; rw [HY.out, ← turnTo_succ x seeds k i hlt HIK.out] at ho; have HO := Lib.hid ho; have HB1 := Lib.hid hb; clear ho hb hg hat))
            go_roundw
            case rel => exact ⟨k + 1, i - 1, by omega, by omega, by have := HIK.out; have := HN2.out; omega, by have := HIK.out; omega, rfl, HO.out, HB1.out⟩
            case measure => simp [intOf]; omega
          · have hkN : k = seeds.length := by have := HIK.out; omega
            obtain ⟨m1, m2⟩ := turnTo_mem HM.out
            obtain ⟨tl, htl⟩ : ∃ tl, tl = turnTo x seeds k := ⟨_, rfl⟩
            have hR := HR.out
            rw [← htl] at hR
            obtain ⟨A4, c4, e4⟩ := Kd.R_slice hR
            subst e4
            obtain ⟨hq4, hc4, hC4⟩ := Kd.R_reads' hR
            rw [← hkN, ← htl] at m1 m2
            have hgood : L.Good tl := fun s hs => V3.out s (m1 s hs)
            have hlen : tl.length ≤ 200 := by rw [htl, turnTo_len _ _ _ (by omega)]; omega
            obtain ⟨l', q1, q2, q3⟩ := L.rec0 PB.out tl hgood
            have hsame : l' = l := by
              obtain ⟨l0, a1, a2, _⟩ := L.order_same PB.out V3.out.ms hgood.ms (fun y hy => by
                obtain ⟨s, hs, rfl⟩ := List.mem_map.1 hy
                exact List.mem_map.2 ⟨s, m2 s hs, rfl⟩) (fun y hy => by
                obtain ⟨s, hs, rfl⟩ := List.mem_map.1 hy
                exact List.mem_map.2 ⟨s, m1 s hs, rfl⟩)
              unfold L.allS at a1 a2
              rw [R2.out] at a1
              rw [q2] at a2
              exact (congrArg Prod.fst a2).trans (congrArg Prod.fst a1).symm
            subst hsame
            have HTL := Lib.hid hlen
            have HG := Lib.hid hgood
            have Q1 := Lib.hid q1
            have HC4 := Lib.hid hC4
            have K4 := Lib.hid (H3.out.below HBl.out)
            have RL := Lib.hid (row_len q3)
            clear hR hq4 hC4 q1 q2 q3 m1 m2 htl hgood hlen hkN HR HBl HIK R1 R2 R3
            go_wp2_with fail
            refine (rcv_h K4.out HT.out P _ c4 _ tl rfl List.mem_cons_self hc HC4.out HTL.out HG.out l' l'.length true _ Q1.out rfl).mono ?_
            rintro e u5 ⟨A5, c5, rfl, hc5, h5⟩
            have H5 := Lib.hid h5
            clear h5
            go_wp2_with fail
            refine (sameE_h H5.out l' l' RL.out true (List.mem_cons_of_mem _ List.mem_cons_self) List.mem_cons_self rfl rfl hc3 hc5 (same_self l')).mono ?_
            rintro e u6 ⟨rfl, h6⟩
            have H6 := Lib.hid h6
            clear h6
            go_wp2_with fail
            go_ret
            exact ⟨rfl, H6.out.1⟩
      · have d0 : decide (tw < 0) = true := by simp; omega
        clear ht hn hn2 hr hr2 hB hv hf
        go_enter Tryd.func6, Tryd.ntmps6
        go_wp2_with fail
        refine (head_h H0.out HT.out).mono ?_
        rintro e u1 ⟨rfl, h1⟩
        have H1 := Lib.hid h1
        clear h1
        go_wp2_with fail
        refine (valid_h H1.out P List.mem_cons_self HN.out hc A2 _ c2 seeds HR2.out HN2.out hc2 true HV.out).mono ?_
        rintro e u2 ⟨rfl, h2⟩
        have H2 := Lib.hid h2
        clear h2
        go_wp2_with fail
        go_ret
        exact ⟨rfl, H2.out.1⟩
  · have HV := Lib.hid (show L.validB P seeds = false by simpa using hv)
    clear ht hn hn2 hr hr2 hB hv
    go_enter Tryd.func6, Tryd.ntmps6
    go_wp2_with fail
    refine (head_h H0.out HT.out).mono ?_
    rintro e u1 ⟨rfl, h1⟩
    have H1 := Lib.hid h1
    clear h1
    go_wp2_with fail
    refine (valid_h H1.out P List.mem_cons_self HN.out hc A2 _ c2 seeds HR2.out HN2.out hc2 false HV.out).mono ?_
    rintro e u2 ⟨rfl, h2⟩
    have H2 := Lib.hid h2
    clear h2
    go_wp2_with fail
    go_ret
    exact ⟨rfl, H2.out.1⟩
end Go.Proofs.YtknlbeojdmeljaaDoor.H
