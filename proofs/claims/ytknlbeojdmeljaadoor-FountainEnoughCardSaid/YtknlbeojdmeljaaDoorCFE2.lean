-- cut by shake.py (own program) out of this session's texts
import Derived.Test.YtknlbeojdmeljaaDoorCFE1
namespace Go.Proofs.YtknlbeojdmeljaaDoor.H
open Go.RowKit Go.Proofs.YtknlbeojdmeljaaDoorW.PrintWords Go.Proofs.YtknlbeojdmeljaaDoorW.PrintLast Go.Proofs.YtknlbeojdmeljaaDoorW.PrintMore Go.Proofs.YtknlbeojdmeljaaDoor.P
set_option linter.unusedVariables false
set_option linter.unusedSimpArgs false
def sumE (B : List Int) (s : Int) : List Int := (foldE B (setS s).toNat (fr 16)).1
def recL (B : List Int) : List Int → List S25 → Int → List S25 × Int × Bool
  | [], l, n => (l, n, true)
  | s :: r, l, n => if (addS l (setS s) (sumE B s)).2.2 = 0 then recL B r (addS l (setS s) (sumE B s)).1 (if (addS l (setS s) (sumE B s)).2.1 then n + 1 else n) else ([], 0, false)
theorem insL_len1 (e : Nat × List Int) (p : List S25) : (insL e p).1.length = p.length + (insL e p).2.toNat := by
  have key : ∀ (q : List S25) (s : List S25 × Bool), (q.foldl (insStep e) s).1.length + s.2.toNat = s.1.length + q.length + (q.foldl (insStep e) s).2.toNat := by
    intro q
    induction q with
    | nil => intro s; simp
    | cons r q ih =>
      intro s
      have h2 := ih (insStep e s r)
      simp only [List.foldl_cons, List.length_cons]
      have h3 : (insStep e s r).1.length + s.2.toNat = s.1.length + 1 + (insStep e s r).2.toNat := by
        unfold insStep
        obtain ⟨s1, s2⟩ := s
        cases s2
        · split <;> simp
        · simp
      omega
  have := key p ([], false)
  simpa [insL] using this
theorem addS_len (l : List S25) (m : Int) (d : List Int) : (addS l m d).1.length ≤ l.length + 1 := by
  unfold addS
  split
  · simp
  · split
    · simp
    · split
      · simp
      · show (insS _ l).length ≤ _
        have := insL_len1 (redS l (m.toNat, d)) l
        unfold insS
        split
        · rename_i h; rw [h] at this; rw [this]; simp
        · rename_i h
          rw [List.length_append, this, show (insL (redS l (m.toNat, d)) l).2 = false by simpa using h]
          simp
theorem sumE_len {B : List Int} (hB : B.length = 256) (s : Int) (hs : 0 ≤ s ∧ s ≤ 1000000000) : (sumE B s).length = 16 := by
  have := setS_range s hs.1 hs.2
  exact (foldE_ok hB (by omega) _).1
set_option maxRecDepth 100000 in
set_option maxHeartbeats 1000000 in
theorem received_calls (A : Option Addr) (c : Nat) (B : List Int) (A2 : Option Addr) (c2 : Nat) (seeds : List Int) (w : World) (hc : 256 ≤ c) (hr : Kd.C (Kd.int .u8) w A 256 B) (hr2 : Kd.C (Kd.int .i64) w A2 seeds.length seeds) (hl : seeds.length ≤ 200) (hg : ∀ s ∈ seeds, 0 ≤ s ∧ s ≤ 1000000000) (ht : Tabs w) :
    Calls Tryd.prog 24 #[.slice A 256 c, .slice A2 seeds.length c2] w fun e w' => ∃ v, e = .returned (.tuple #[v, .int .i64 (recL B seeds [] 0).2.1, .bool (recL B seeds [] 0).2.2]) ∧ Kd.S k25 52 w' w.heap.size (fun _ => True) v (recL B seeds [] 0).1 ∧ Below w.heap.size w w' := by
  have ENC := Lib.hid (fun s w' (h : Below w.heap.size w w') hs => encode_good A c B 0 s w' hc (Kd.C_below hr h) (ht.keep h) (by omega) hs)
  have HR2 := Lib.hid hr2
  have HT := Lib.hid ht
  have HG := Lib.hid hg
  have hBl : B.length = 256 := hr.1
  have HBL := Lib.hid hBl
  obtain ⟨N, hN⟩ : ∃ N, N = seeds.length := ⟨_, rfl⟩
  have HN := Lib.hid hN
  obtain ⟨ans, hans⟩ : ∃ ans, ans = recL B seeds [] 0 := ⟨_, rfl⟩
  have HANS := Lib.hid hans
  rw [← hN] at hl HR2 ⊢
  rw [← hans]
  clear hr hr2 ht hg hBl hN hans
  go_enter Tryd.func24, Tryd.ntmps24
  go_wp2
  go_loopw [7, 8, 9] (fun lv mv i wr => ∃ (k : Nat) (zs : List S25) (n : Int), k ≤ N ∧ i = .int .i64 k ∧ mv = .int .i64 n ∧ 0 ≤ n ∧ n ≤ k ∧ zs.length ≤ k ∧ Kd.S k25 52 wr w.heap.size (fun _ => True) lv zs ∧ ans = recL B (seeds.drop k) zs n ∧ Below w.heap.size w wr)
    (fun _ _ i _ => N - (intOf i).toNat)
  case atStart => exact ⟨0, [], 0, Nat.zero_le _, rfl, rfl, by omega, by omega, by simp, Kd.S_nil _ _ _ _ _, HANS.out, Below.refl _ _⟩
  case round =>
    obtain ⟨k, zs, n, hk, rfl, rfl, hn0, hn1, hz, hS, hrec, hB⟩ := hrel
    by_cases hlt : k < N
    · have hks : k < seeds.length := by rw [← HN.out]; exact hlt
      obtain ⟨s, hs⟩ : ∃ s, s = seeds[k] := ⟨_, rfl⟩
      have hgs : 0 ≤ s ∧ s ≤ 1000000000 := HG.out s (by rw [hs]; exact List.getElem_mem hks)
      have hd : seeds.drop k = s :: seeds.drop (k + 1) := by rw [hs]; exact List.drop_eq_getElem_cons hks
      rw [hd] at hrec
      simp only [recL] at hrec
      obtain ⟨ad, hA2, hcell⟩ := Kd.at_int (Kd.C_below HR2.out hB) (k : Int) (by omega) (by omega)
      have hrd : rd seeds (k : Int) = s := by simp [rd, hks, hs]
      rw [hrd, Int.toNat_natCast] at hcell
      subst hA2
      have henc := ENC.out s wr hB hgs
      rw [show (foldE B (setS s).toNat (fr 16)).1 = sumE B s from rfl] at henc
      have hsl := sumE_len HBL.out s hgs
      obtain ⟨E, hE⟩ : ∃ E, E = sumE B s := ⟨_, rfl⟩
      rw [← hE] at henc hsl hrec
      obtain ⟨A3, c3, rfl⟩ := Kd.R_slice (Kd.S_R hS)
      have HENC := Lib.hid henc
      have HSL := Lib.hid hsl
      have HGS := Lib.hid hgs
      have HREC := Lib.hid hrec
      have HS := Lib.hid hS
      have HB := Lib.hid hB
      obtain ⟨zl, hzl⟩ : ∃ zl, zl = zs.length := ⟨_, rfl⟩
      have HZL := Lib.hid hzl
      rw [← hzl] at hz ⊢
      have h14 := fun (A4 : Option Addr) W (hW : Below w.heap.size w W) (h1 : Kd.C k25 W A3 zs.length zs) (h2 : Kd.C (Kd.int .u8) W A4 E.length E) (c4 : Nat) => receive_good A3 c3 zs 0 s A4 c4 E (.slice none 0 0) W h1 h2 (by omega) (HT.out.keep hW) ⟨by omega, hgs, by rw [hsl]; rfl⟩
      have hal := addS_len zs (setS s) E
      obtain ⟨an, han⟩ : ∃ an, an = addS zs (setS s) E := ⟨_, rfl⟩
      rw [← han] at hrec hal
      simp only [← han] at h14
      obtain ⟨zs2, f2, e2⟩ := an
      simp only at hrec hal h14
      rw [← hzl] at h14
      have HREC := Lib.hid hrec
      have HAL := Lib.hid hal
      have HREV := Lib.hid h14
      clear h14 han hal
      clear henc hsl hgs hrec hS hB hzl hE hs hd hrd hks
      have h200 : (k : Int) < 200 := by omega
      have hrec2 := HREC.out
      by_cases he : e2 = 0
      · subst he
        rw [if_pos rfl] at hrec2
        have HREC2 := Lib.hid hrec2
        clear hrec2
        cases f2
        · go_wp2_with (first
            | (go_at_call 12; refine HENC.out.mono ?_; rintro e w1 ⟨v, rfl, hv, hb⟩; have hsz := HB.out.size; obtain ⟨A4, c4, rfl⟩ := Kd.R_slice hv; have HV := Lib.hid hv; have HB1 := Lib.hid hb; have HBB1 := Lib.hid (HB.out.trans (hb.mono hsz)); clear hv hb)
            | (go_at_call 14; have hbb := HBB1.out.alloc HBB1.out.size (.cells #[.int .i64 0, .int .i64 s, .slice A4 E.length c4, .slice none 0 0] 26); have hb0 := (Below.refl w1.heap.size w1).alloc (Nat.le_refl _) (.cells #[.int .i64 0, .int .i64 s, .slice A4 E.length c4, .slice none 0 0] 26); refine (HREV.out A4 _ hbb (by rw [HZL.out] at *; exact (Kd.S_reads' (Kd.S_below (Kd.S_below HS.out HB1.out) hb0)).2.2) (Kd.R_reads' (Kd.R_below HV.out hb0)).2.2 c4).mono ?_; rintro e w2 ⟨v2, rfl, hv2, hb2⟩; have HV2 := Lib.hid (Kd.S_lower hv2 hbb.size); have HB2 := Lib.hid (hbb.trans (hb2.mono hbb.size)); clear hv2 hb2 hbb hb0))
          go_roundw
          case rel => exact ⟨k + 1, zs2, n, by omega, by go_num, rfl, by omega, by omega, by have := HAL.out; have := HZL.out; omega, HV2.out, by rw [HREC2.out]; rfl, HB2.out⟩
          case measure => simp [intOf]; omega
        · go_wp2_with (first
            | (go_at_call 12; refine HENC.out.mono ?_; rintro e w1 ⟨v, rfl, hv, hb⟩; have hsz := HB.out.size; obtain ⟨A4, c4, rfl⟩ := Kd.R_slice hv; have HV := Lib.hid hv; have HB1 := Lib.hid hb; have HBB1 := Lib.hid (HB.out.trans (hb.mono hsz)); clear hv hb)
            | (go_at_call 14; have hbb := HBB1.out.alloc HBB1.out.size (.cells #[.int .i64 0, .int .i64 s, .slice A4 E.length c4, .slice none 0 0] 26); have hb0 := (Below.refl w1.heap.size w1).alloc (Nat.le_refl _) (.cells #[.int .i64 0, .int .i64 s, .slice A4 E.length c4, .slice none 0 0] 26); refine (HREV.out A4 _ hbb (by rw [HZL.out] at *; exact (Kd.S_reads' (Kd.S_below (Kd.S_below HS.out HB1.out) hb0)).2.2) (Kd.R_reads' (Kd.R_below HV.out hb0)).2.2 c4).mono ?_; rintro e w2 ⟨v2, rfl, hv2, hb2⟩; have HV2 := Lib.hid (Kd.S_lower hv2 hbb.size); have HB2 := Lib.hid (hbb.trans (hb2.mono hbb.size)); clear hv2 hb2 hbb hb0))
          go_roundw
          case rel => exact ⟨k + 1, zs2, n + 1, by omega, by go_num, rfl, by omega, by omega, by have := HAL.out; have := HZL.out; omega, HV2.out, by rw [HREC2.out]; rfl, HB2.out⟩
          case measure => simp [intOf]; omega
      · rw [if_neg he] at hrec2
        have HREC2 := Lib.hid hrec2
        have e1 : (e2 == 0) = false := by simpa using he
        clear hrec2
        go_wp2_with (first
          | (go_at_call 12; refine HENC.out.mono ?_; rintro e w1 ⟨v, rfl, hv, hb⟩; have hsz := HB.out.size; obtain ⟨A4, c4, rfl⟩ := Kd.R_slice hv; have HV := Lib.hid hv; have HB1 := Lib.hid hb; have HBB1 := Lib.hid (HB.out.trans (hb.mono hsz)); clear hv hb)
          | (go_at_call 14; have hbb := HBB1.out.alloc HBB1.out.size (.cells #[.int .i64 0, .int .i64 s, .slice A4 E.length c4, .slice none 0 0] 26); have hb0 := (Below.refl w1.heap.size w1).alloc (Nat.le_refl _) (.cells #[.int .i64 0, .int .i64 s, .slice A4 E.length c4, .slice none 0 0] 26); refine (HREV.out A4 _ hbb (by rw [HZL.out] at *; exact (Kd.S_reads' (Kd.S_below (Kd.S_below HS.out HB1.out) hb0)).2.2) (Kd.R_reads' (Kd.R_below HV.out hb0)).2.2 c4).mono ?_; rintro e w2 ⟨v2, rfl, hv2, hb2⟩; have HV2 := Lib.hid (Kd.S_lower hv2 hbb.size); have HB2 := Lib.hid (hbb.trans (hb2.mono hbb.size)); clear hv2 hb2 hbb hb0))
        refine bodyPost_ret (by simp [results, Tryd.results24, go_sem]; rfl) rfl ?_
        rw [HREC2.out]
        exact ⟨_, rfl, Kd.S_nil _ _ _ _ _, HB2.out⟩
    · obtain rfl : k = N := by omega
      have hdr : seeds.drop k = [] := List.drop_of_length_le (by rw [← HN.out]; omega)
      rw [hdr] at hrec
      have HREC := Lib.hid hrec
      have HS := Lib.hid hS
      have HB := Lib.hid hB
      clear hrec hS hB
      go_wp2
      refine bodyPost_ret (by simp [results, Tryd.results24, go_sem]; rfl) rfl ?_
      rw [HREC.out]
      exact ⟨_, rfl, HS.out, HB.out⟩
end Go.Proofs.YtknlbeojdmeljaaDoor.H
namespace Go.Proofs.YtknlbeojdmeljaaDoor.H
open Go.RowKit Go.Proofs.YtknlbeojdmeljaaDoorW.PrintWords Go.Proofs.YtknlbeojdmeljaaDoorW.PrintLast Go.Proofs.YtknlbeojdmeljaaDoorW.PrintMore Go.Proofs.YtknlbeojdmeljaaDoor.P
set_option linter.unusedVariables false
set_option linter.unusedSimpArgs false
/-- the example page: block i consists of bytes i -/
def exB : List Int := (List.range 256).map (fun i => ((i / 16 : Nat) : Int))
def up15 : List Int := [0, 1, 2, 3, 4, 5, 6, 7, 8, 9, 10, 11, 12, 13, 14]
def dn16 : List Int := [15, 14, 13, 12, 11, 10, 9, 8, 7, 6, 5, 4, 3, 2, 1, 0]
theorem ex_enc : (foldE exB 8 (fr 16)).1 = List.replicate 16 3 := by kernel_rfl
theorem ex_up : (recL exB up15 [] 0).2 = (15, true) := by kernel_rfl
theorem ex_upP : (pageS (recL exB up15 [] 0).1).2 = false := by kernel_rfl
theorem ex_dn : (recL exB dn16 [] 0).2 = (16, true) := by kernel_rfl
theorem ex_dnP : pageS (recL exB dn16 [] 0).1 = (exB, true) := by kernel_rfl
theorem ex_is : slotmeshlaw34_example.f 300 = some exB := by kernel_rfl
theorem ex_b3 : slotmeshref33_Bytes.f 300 (List.replicate 16 3) (List.replicate 16 3) = some true := by kernel_rfl
theorem ex_bb : slotmeshref33_Bytes.f 300 exB exB = some true := by kernel_rfl
end Go.Proofs.YtknlbeojdmeljaaDoor.H
namespace Go.Proofs.YtknlbeojdmeljaaDoor.L
open Go.RowKit Go.Proofs.YtknlbeojdmeljaaDoorW.PrintWords Go.Proofs.YtknlbeojdmeljaaDoorW.PrintLast Go.Proofs.YtknlbeojdmeljaaDoorW.PrintMore Go.Proofs.YtknlbeojdmeljaaDoor.P Go.Proofs.YtknlbeojdmeljaaDoor.H
set_option linter.unusedVariables false
set_option linter.unusedSimpArgs false
def sumTo (B : List Int) (m : Nat) : Nat → List Int
  | 0 => z16
  | k + 1 => if m.testBit k = true then xorD (sumTo B m k) (blk B k) else sumTo B m k
def sumB (B : List Int) (m : Nat) : List Int := sumTo B m 16
/-- one more equation that is true of the blocks -/
def stepA (B : List Int) (l : Option (List S25)) (m : Int) : Option (List S25) :=
  match l with
  | none => none
  | some l => if m = 0 then some l else if (addS l m (sumB B m.toNat)).2.2 = 0 then some (addS l m (sumB B m.toNat)).1 else none
def allO (B : List Int) (ms : List Int) : Option (List S25) := ms.foldl (stepA B) (some [])
structure PB (B : List Int) : Prop where
  len : B.length = 256
  rng : ∀ b ∈ B, isB b
theorem xorD_eq (a b : List Int) : ((0 : Nat), xorD a b) = addE (0, a) (0, b) := pair_ext (Nat.xor_self 0).symm rfl
theorem blk_ge {B : List Int} (hB : PB B) {i : Nat} (hi : i < 16) : GE (0, blk B i) :=
  data_ge (blk_len hB.len hi) (fun b hb => hB.rng b (List.mem_of_mem_drop (List.mem_of_mem_take hb)))
theorem sumTo_ge {B : List Int} (hB : PB B) (m : Nat) : ∀ k, k ≤ 16 → GE (0, sumTo B m k)
  | 0, _ => zeroE_ge
  | k + 1, h => by
    have h1 := sumTo_ge hB m k (by omega)
    unfold sumTo
    split
    · rw [xorD_eq]; exact h1.add (blk_ge hB (show k < 16 by omega))
    · exact h1
theorem sumTo_xor {B : List Int} (hB : PB B) (a b : Nat) : ∀ k, k ≤ 16 → ((0 : Nat), sumTo B (a ^^^ b) k) = addE (0, sumTo B a k) (0, sumTo B b k)
  | 0, _ => (addE_zero zeroE_ge).symm
  | k + 1, h => by
    have ih := sumTo_xor hB a b k (by omega)
    have ga := sumTo_ge hB a k (by omega)
    have gb := sumTo_ge hB b k (by omega)
    have gk := blk_ge hB (show k < 16 by omega)
    unfold sumTo
    rw [Nat.testBit_xor]
    cases ha : a.testBit k <;> cases hb : b.testBit k
    · exact ih
    · rw [if_pos (by rfl), if_neg (by simp), if_pos rfl, xorD_eq, ih, xorD_eq, addE_assoc ga gb gk]
    · rw [if_pos (by rfl), if_pos rfl, if_neg (by simp), xorD_eq, ih, xorD_eq, addE_assoc ga gb gk, addE_comm gb gk, ← addE_assoc ga gk gb]
    · rw [if_neg (by simp), if_pos rfl, if_pos rfl, ih, xorD_eq, xorD_eq, addE_four ga gk gb gk, addE_self gk, addE_zero (ga.add gb)]
theorem sumTo_zero (B : List Int) : ∀ k, sumTo B 0 k = z16
  | 0 => rfl
  | k + 1 => by unfold sumTo; rw [if_neg (by simp)]; exact sumTo_zero B k
/-- true equations -/
def TE (B : List Int) (x : Nat × List Int) : Prop := x.1 < 65536 ∧ x.2 = sumB B x.1
theorem TE.ge {B : List Int} (hB : PB B) {x : Nat × List Int} (h : TE B x) : GE x := by
  have := sumTo_ge hB x.1 16 (by omega)
  exact ⟨h.1, by rw [h.2]; exact this.len, by rw [h.2]; exact this.rng⟩
theorem TE.add {B : List Int} (hB : PB B) {x y : Nat × List Int} (hx : TE B x) (hy : TE B y) : TE B (addE x y) := by
  refine ⟨((hx.ge hB).add (hy.ge hB)).m, ?_⟩
  have h := congrArg Prod.snd (sumTo_xor hB x.1 y.1 16 (by omega))
  show xorD x.2 y.2 = sumTo B (x.1 ^^^ y.1) 16
  rw [hx.2, hy.2]
  exact h.symm
theorem TE.mk_ (B : List Int) {m : Nat} (hm : m < 65536) : TE B (m, sumB B m) := ⟨hm, rfl⟩
theorem TE.null {B : List Int} {x : Nat × List Int} (hx : TE B x) (h : x.1 = 0) : x = zeroE := by
  refine pair_ext h ?_
  rw [hx.2, h]
  exact sumTo_zero B 16
/-- rows that are true of the blocks -/
structure TR (B : List Int) (l : List S25) : Prop where
  vp : VP l
  gr : GR l
  tr : ∀ r ∈ l, TE B (rowv r)
theorem TR.nil (B : List Int) : TR B [] := ⟨VP.of_pair (by simp) List.Pairwise.nil, ⟨by simp, by simp⟩, by simp⟩
theorem TR.red {B : List Int} (hB : PB B) {l : List S25} (hg : GR l) (ht : ∀ r ∈ l, TE B (rowv r)) : ∀ {x : Nat × List Int}, TE B x → TE B (redS l x) := by
  induction l with
  | nil => intro x hx; exact hx
  | cons r l ih =>
    intro x hx
    obtain ⟨j, _, hj, _⟩ := hg.lead List.mem_cons_self
    refine ih hg.tail (fun s hs => ht s (List.mem_cons_of_mem _ hs)) (x := stepS x r) ?_
    rw [stepS_eq x r hj]
    split
    · exact hx.add hB (ht r List.mem_cons_self)
    · exact hx
theorem TR.add {B : List Int} (hB : PB B) {l : List S25} (h : TR B l) {m : Nat} (h1 : 1 ≤ m) (h2 : m < 65536) :
    ((redS l (m, sumB B m)).1 = 0 ∧ redS l (m, sumB B m) = zeroE ∧ addS l (m : Int) (sumB B m) = (l, false, 0)) ∨
    ((redS l (m, sumB B m)).1 ≠ 0 ∧ NE l (redS l (m, sumB B m)) ∧ addS l (m : Int) (sumB B m) = (insS (redS l (m, sumB B m)) l, true, 0) ∧ TR B (insS (redS l (m, sumB B m)) l)) := by
  have ht := TR.red hB h.gr h.tr (TE.mk_ B h2)
  have hge := (TE.mk_ B h2).ge hB
  have hv := (validS_iff l).2 h.vp
  have hf : fineB (m : Int) (sumB B m) = true := by
    have : (sumB B m).length = 16 := hge.len
    unfold fineB
    simp [this]
    omega
  have hs : addS l (m : Int) (sumB B m) = if redS l (m, sumB B m) = (0, z16) then (l, false, 0) else if (redS l (m, sumB B m)).1 = 0 then ([], false, 12) else (insS (redS l (m, sumB B m)) l, true, 0) := by
    unfold addS; rw [if_neg (by rw [hv, hf]; simp)]; rfl
  by_cases h0 : (redS l (m, sumB B m)).1 = 0
  · have hz := ht.null h0
    exact .inl ⟨h0, hz, by rw [hs]; exact if_pos hz⟩
  · have hne : NE l (redS l (m, sumB B m)) := ⟨redS_ge h.gr hge, h0, redS_clear h.gr h.vp hge⟩
    obtain ⟨hv2, hg2, _⟩ := insS_ok h.gr h.vp hne
    refine .inr ⟨h0, hne, by rw [hs, if_neg (fun e => h0 (by rw [e])), if_neg h0], hv2, hg2, fun r hr => ?_⟩
    obtain ⟨_, _, h3⟩ := insS_mem h.vp (redS l (m, sumB B m))
    rcases h3 r hr with rfl | ⟨s, hs2, rfl⟩
    · rw [rowE_v]; exact ht
    · rcases mixE_or h.gr hne hs2 with e | e
      · rw [e]; exact (h.tr s hs2).add hB ht
      · rw [e]; exact h.tr s hs2
theorem TR.step {B : List Int} (hB : PB B) {l : List S25} (h : TR B l) {m : Int} (h0 : 0 ≤ m) (h2 : m < 65536) : ∃ l', stepA B (some l) m = some l' ∧ TR B l' := by
  unfold stepA
  by_cases hm : m = 0
  · exact ⟨l, by simp [hm], h⟩
  · obtain ⟨m, rfl⟩ := Int.eq_ofNat_of_zero_le h0
    rcases h.add hB (m := m) (by omega) (by omega) with ⟨_, _, e⟩ | ⟨_, _, e, ht⟩
    · refine ⟨l, ?_, h⟩
      simp only [if_neg hm, Int.toNat_natCast, e]
      rfl
    · refine ⟨_, ?_, ht⟩
      simp only [if_neg hm, Int.toNat_natCast, e]
      rfl
theorem TR.all {B : List Int} (hB : PB B) : ∀ (ms : List Int) {l : List S25}, TR B l → (∀ x ∈ ms, 0 ≤ x ∧ x < 65536) → ∃ l', ms.foldl (stepA B) (some l) = some l' ∧ TR B l'
  | [], l, h, _ => ⟨l, rfl, h⟩
  | m :: ms, l, h, hm => by
    obtain ⟨l1, e1, h1⟩ := h.step hB (m := m) (hm m List.mem_cons_self).1 (hm m List.mem_cons_self).2
    obtain ⟨l2, e2, h2⟩ := TR.all hB ms h1 (fun x hx => hm x (List.mem_cons_of_mem _ hx))
    exact ⟨l2, by rw [List.foldl_cons, e1, e2], h2⟩
theorem xorD_z {B : List Int} (hB : PB B) {d : List Int} (hd : GE (0, d)) {m : Nat} (hm : m < 65536) (h : xorD d (sumB B m) = z16) : d = sumB B m := by
  have h2 : addE (0, d) (0, sumB B m) = zeroE := pair_ext (Nat.xor_self 0) h
  exact congrArg Prod.snd (addE_eq_zero hd (sumTo_ge hB m 16 (by omega)) h2)
/-- what follows from true rows is true -/
theorem TR.sum {B : List Int} (hB : PB B) {l : List S25} (h : TR B l) (m : Nat) (hm : m < 65536) (hf : (sumS l (m : Int)).2 = true) : (sumS l (m : Int)).1 = sumB B m := by
  have hv := (validS_iff l).2 h.vp
  have hs := sumS_eq hv m hm
  rw [hs] at hf ⊢
  by_cases h0 : (redS l (m, z16)).1 = 0
  · rw [if_neg (fun e => e h0)]
    have ht := TR.red hB h.gr h.tr (TE.mk_ B hm)
    have hge := (TE.mk_ B hm).ge hB
    rw [redS_split h.gr m hm hge.len hge.rng] at ht
    have h1 : (addE (redS l (m, z16)) (0, sumB B m)).1 = 0 := by show (redS l (m, z16)).1 ^^^ 0 = 0; rw [h0]; rfl
    have h2 := congrArg Prod.snd (ht.null h1)
    have hg := redS_ge h.gr (mask_ge m hm)
    exact xorD_z hB ⟨by show (0 : Nat) < 65536; omega, hg.len, hg.rng⟩ hm h2
  · rw [if_pos h0] at hf
    cases hf
theorem TR.solved {B : List Int} (hB : PB B) {l : List S25} (h : TR B l) (k : Nat) (hk : k < 16) (hf : (solvedS l (k : Int)).2 = true) : (solvedS l (k : Int)).1 = sumB B (2 ^ k) := by
  have hv := (validS_iff l).2 h.vp
  have hs : solvedS l (k : Int) = match l.find? (fun x => x.f0.toNat == 2 ^ k) with | some x => (x.f1, true) | none => ([], false) := by
    unfold solvedS; rw [if_neg (by rw [hv]; simp; omega)]; rfl
  rw [hs] at hf ⊢
  cases hfi : l.find? (fun x => x.f0.toNat == 2 ^ k) with
  | none => rw [hfi] at hf; cases hf
  | some x =>
    have h1 := List.mem_of_find?_eq_some hfi
    have h2 := List.find?_some hfi
    have h3 := (h.tr x h1).2
    have h4 : x.f0.toNat = 2 ^ k := by simpa using h2
    rw [show (rowv x).1 = x.f0.toNat from rfl, h4] at h3
    exact h3
theorem desc_ext : ∀ (L L' : List Nat), L.Pairwise (· > ·) → L'.Pairwise (· > ·) → (∀ x ∈ L, x ∈ L') → (∀ x ∈ L', x ∈ L) → L = L'
  | [], [], _, _, _, _ => rfl
  | [], b :: L', _, _, _, h => absurd (h b List.mem_cons_self) (by simp)
  | a :: L, [], _, _, h, _ => absurd (h a List.mem_cons_self) (by simp)
  | a :: L, b :: L', hp, hq, h1, h2 => by
    rw [List.pairwise_cons] at hp hq
    have hab : a = b := by
      have x1 := h1 a List.mem_cons_self
      have x2 := h2 b List.mem_cons_self
      rcases List.mem_cons.1 x1 with e | e
      · exact e
      · rcases List.mem_cons.1 x2 with e2 | e2
        · exact e2.symm
        · have := hp.1 b e2
          have := hq.1 a e
          omega
    subst hab
    rw [desc_ext L L' hp.2 hq.2 (fun x hx => ?_) (fun x hx => ?_)]
    · rcases List.mem_cons.1 (h1 x (List.mem_cons_of_mem _ hx)) with e | e
      · have := hp.1 x hx
        omega
      · exact e
    · rcases List.mem_cons.1 (h2 x (List.mem_cons_of_mem _ hx)) with e | e
      · have := hq.1 x hx
        omega
      · exact e
end Go.Proofs.YtknlbeojdmeljaaDoor.L
namespace Go.Proofs.YtknlbeojdmeljaaDoor.L
open Go.RowKit Go.Proofs.YtknlbeojdmeljaaDoorW.PrintWords Go.Proofs.YtknlbeojdmeljaaDoorW.PrintLast Go.Proofs.YtknlbeojdmeljaaDoorW.PrintMore Go.Proofs.YtknlbeojdmeljaaDoor.P Go.Proofs.YtknlbeojdmeljaaDoor.H
set_option linter.unusedVariables false
set_option linter.unusedSimpArgs false
theorem sumTo_succ (B : List Int) (m k : Nat) : sumTo B m (k + 1) = if m.testBit k = true then xorD (sumTo B m k) (blk B k) else sumTo B m k := rfl
theorem foldE_sum {B : List Int} {m : Nat} (hm : m < 65536) : ∀ k, k ≤ 16 → foldE B m (fr k) = (sumTo B m k, hiS m k)
  | 0, _ => by rw [hiS_zero]; rfl
  | k + 1, h => by
    rw [fr_succ (show k < 16 by omega), foldE_snoc, foldE_sum hm k (by omega)]
    rw [sumTo_succ]
    unfold stepE
    by_cases hb : m.testBit k = true
    · rw [if_pos ((ctz_eq hm (by omega)).2 hb), if_pos hb, hiS_step hb]
    · rw [if_neg (fun h => hb ((ctz_eq hm (by omega)).1 h)), if_neg hb, hiS_same (by simpa using hb)]
theorem sumE_eq (B : List Int) (s : Int) (hs : 0 ≤ s ∧ s ≤ 1000000000) : sumE B s = sumB B (setS s).toNat := by
  have := setS_range s hs.1 hs.2
  exact congrArg Prod.fst (foldE_sum (B := B) (m := (setS s).toNat) (by omega) 16 (Nat.le_refl _))
def Good (l : List Int) : Prop := ∀ s ∈ l, 0 ≤ s ∧ s ≤ 1000000000
theorem Good.ms {l : List Int} (h : Good l) : ∀ x ∈ l.map setS, 0 ≤ x ∧ x < 65536 := by
  intro x hx
  obtain ⟨s, hs, rfl⟩ := List.mem_map.1 hx
  have := setS_range s (h s hs).1 (h s hs).2
  omega
theorem setN (s : Int) (hs : 0 ≤ s ∧ s ≤ 1000000000) : ∃ m : Nat, setS s = (m : Int) ∧ 1 ≤ m ∧ m < 65536 := by
  have := setS_range s hs.1 hs.2
  exact ⟨(setS s).toNat, by omega, by omega, by omega⟩
/-- the rows after coded blocks of a page -/
theorem recL_spec {B : List Int} (hB : PB B) : ∀ (seeds : List Int) {l : List S25} (n : Int), TR B l → Good seeds →
    ∃ l', recL B seeds l n = (l', n + ((l'.length : Int) - l.length), true) ∧ (seeds.map setS).foldl (stepA B) (some l) = some l' ∧ TR B l'
  | [], l, n, h, _ => ⟨l, by simp [recL], rfl, h⟩
  | s :: r, l, n, h, hg => by
    have hs := hg s List.mem_cons_self
    have hr : Good r := fun x hx => hg x (List.mem_cons_of_mem _ hx)
    have he := sumE_eq B s hs
    obtain ⟨m, hm, h1, h2⟩ := setN s hs
    rw [hm, Int.toNat_natCast] at he
    rcases h.add hB h1 h2 with ⟨_, _, e⟩ | ⟨_, hne, e, ht⟩
    · obtain ⟨l', a, b, c⟩ := recL_spec hB r n h hr
      refine ⟨l', ?_, ?_, c⟩
      · unfold recL
        rw [hm, he, e]
        simpa using a
      · rw [List.map_cons, List.foldl_cons, show stepA B (some l) (setS s) = some l from ?_]
        · exact b
        · have hm0 : ¬ ((m : Int) = 0) := by omega
          unfold stepA
          rw [hm]
          simp only [if_neg hm0, Int.toNat_natCast, e, if_true]
    · obtain ⟨l', a, b, c⟩ := recL_spec hB r (n + 1) ht hr
      refine ⟨l', ?_, ?_, c⟩
      · unfold recL
        rw [hm, he, e]
        simp only [if_true]
        rw [a, (insS_ok h.gr h.vp hne).2.2, show n + 1 + ((l'.length : Int) - ((l.length + 1 : Nat) : Int)) = n + ((l'.length : Int) - l.length) by omega]
      · rw [List.map_cons, List.foldl_cons, show stepA B (some l) (setS s) = some (insS (redS l (m, sumB B m)) l) from ?_]
        · exact b
        · have hm0 : ¬ ((m : Int) = 0) := by omega
          unfold stepA
          rw [hm]
          simp only [if_neg hm0, Int.toNat_natCast, e, if_true]
theorem rec0 {B : List Int} (hB : PB B) (seeds : List Int) (hg : Good seeds) : ∃ l, recL B seeds [] 0 = (l, (l.length : Int), true) ∧ allO B (seeds.map setS) = some l ∧ TR B l := by
  obtain ⟨l, a, b, c⟩ := recL_spec hB seeds 0 (TR.nil B) hg
  exact ⟨l, by rw [a]; simp, b, c⟩
theorem find_iff (l : List S25) (i : Nat) : (l.find? (fun x => x.f0.toNat == 2 ^ i)).isSome = true ↔ ∃ r ∈ l, r.f0.toNat = 2 ^ i := by
  rw [List.find?_isSome]
  simp
theorem solved_iff {l : List S25} (hv : validS l = true) {i : Nat} (hi : i < 16) : (solvedS l (i : Int)).2 = true ↔ ∃ r ∈ l, r.f0.toNat = 2 ^ i := by
  rw [← find_iff]
  unfold solvedS
  rw [if_neg (by rw [hv]; simp; omega), Int.toNat_natCast]
  cases l.find? (fun x => x.f0.toNat == 2 ^ i) <;> simp
def down16 : List Nat := [15, 14, 13, 12, 11, 10, 9, 8, 7, 6, 5, 4, 3, 2, 1, 0]
theorem down16_mem {i : Nat} : i ∈ down16 ↔ i < 16 := by
  unfold down16
  simp only [List.mem_cons, List.not_mem_nil, or_false]
  omega
theorem full {l : List S25} (hl : GR l) (hv : VP l) (h : ∀ i, i < 16 → ∃ r ∈ l, H.lead r.f0.toNat = 2 ^ i) : l.length = 16 := by
  have := desc_ext (l.map expo) down16 (expo_desc hl hv) (by decide) (fun x hx => ?_) (fun x hx => ?_)
  · have h2 := congrArg List.length this
    rw [List.length_map] at h2
    exact h2
  · obtain ⟨r, hr, rfl⟩ := List.mem_map.1 hx
    exact down16_mem.2 (expo_spec hl hr).1
  · obtain ⟨r, hr, e⟩ := h x (down16_mem.1 hx)
    refine List.mem_map.2 ⟨r, hr, ?_⟩
    have := (expo_spec hl hr).2
    rw [e] at this
    exact ((Nat.pow_right_inj (show 1 < 2 by omega)).1 this).symm
theorem blks_all (B : List Int) : ∀ k, (List.range k).flatMap (blk B) = B.take (16 * k)
  | 0 => by simp
  | k + 1 => by
    rw [List.range_succ, List.flatMap_append, blks_all B k, show 16 * (k + 1) = 16 * k + 16 by omega, List.take_add]
    simp [blk]
theorem sumTo_pow {B : List Int} (hB : PB B) {i : Nat} (hi : i < 16) : ∀ k, k ≤ 16 → sumTo B (2 ^ i) k = if i < k then blk B i else z16
  | 0, _ => rfl
  | k + 1, h => by
    rw [sumTo_succ, sumTo_pow hB hi k (by omega), Nat.testBit_two_pow]
    by_cases e : i = k
    · subst e
      simp only [decide_true, if_true, Nat.lt_irrefl, if_false, Nat.lt_succ_self]
      have := congrArg Prod.snd (zero_addE (blk_ge hB hi))
      exact this
    · rw [if_neg (by simpa using e)]
      by_cases h2 : i < k
      · rw [if_pos h2, if_pos (by omega)]
      · rw [if_neg h2, if_neg (by omega)]
theorem sumB_pow {B : List Int} (hB : PB B) {i : Nat} (hi : i < 16) : sumB B (2 ^ i) = blk B i := by
  unfold sumB
  rw [sumTo_pow hB hi 16 (Nat.le_refl _), if_pos hi]
theorem found_all (l : List S25) : (foundTo l 16).all id = true ↔ ∀ i : Nat, i < 16 → (solvedS l (i : Int)).2 = true := by
  unfold foundTo foundB
  rw [List.all_eq_true]
  constructor
  · intro h i hi
    have := h _ (List.mem_map.2 ⟨i, List.mem_range.2 hi, rfl⟩)
    simp only [id, Bool.and_eq_true] at this
    exact this.2
  · intro h x hx
    obtain ⟨i, hi, rfl⟩ := List.mem_map.1 hx
    have hi := List.mem_range.1 hi
    simp only [id, Bool.and_eq_true, decide_eq_true_eq]
    exact ⟨hi, h i hi⟩
theorem lead_pow {l : List S25} (hl : GR l) {r : S25} (hr : r ∈ l) {i : Nat} (hi : i < 16) (h : r.f0.toNat = 2 ^ i) : H.lead r.f0.toNat = 2 ^ i := by
  rw [h]
  exact lead_two_pow i hi
theorem page_yes {l : List S25} {B : List Int} (hB : PB B) (h : TR B l) (h16 : l.length = 16) : pageS l = (B, true) := by
  have hv := (validS_iff l).2 h.vp
  have hall : ∀ i : Nat, i < 16 → (solvedS l (i : Int)).2 = true := fun i hi => (solved_iff hv hi).2 (all16 h.gr h.vp h16 i hi)
  unfold pageS
  rw [if_pos ((found_all l).2 hall)]
  have e : pageTo l 16 = (List.range 16).flatMap (blk B) := by
    unfold pageTo
    rw [List.flatMap, List.flatMap]
    congr 1
    refine List.map_congr_left (fun i hi => ?_)
    have hi := List.mem_range.1 hi
    rw [if_pos (hall i hi), h.solved hB i hi (hall i hi), sumB_pow hB hi]
  rw [e, blks_all B 16, List.take_of_length_le (by rw [hB.len]; omega)]
theorem page_len {l : List S25} {B : List Int} (h : TR B l) (hp : (pageS l).2 = true) : l.length = 16 := by
  have hv := (validS_iff l).2 h.vp
  unfold pageS at hp
  split at hp
  · rename_i hf
    refine full h.gr h.vp (fun i hi => ?_)
    obtain ⟨r, hr, e⟩ := (solved_iff hv hi).1 ((found_all l).1 hf i hi)
    exact ⟨r, hr, lead_pow h.gr hr hi e⟩
  · cases hp
theorem page_iff {l : List S25} {B : List Int} (hB : PB B) (h : TR B l) : (pageS l).2 = decide (l.length = 16) := by
  by_cases h16 : l.length = 16
  · rw [page_yes hB h h16]; simpa using h16
  · cases hp : (pageS l).2
    · simpa using h16
    · exact absurd (page_len h hp) h16
theorem enough {l : List S25} {B : List Int} (hB : PB B) (h : TR B l) (h16 : l.length = 16) {m : Nat} (h1 : 1 ≤ m) (h2 : m < 65536) : redS l (m, sumB B m) = zeroE ∧ addS l (m : Int) (sumB B m) = (l, false, 0) := by
  rcases h.add hB h1 h2 with ⟨_, e, e2⟩ | ⟨_, hne, _, ht⟩
  · exact ⟨e, e2⟩
  · have := len16 ht.gr ht.vp
    rw [(insS_ok h.gr h.vp hne).2.2] at this
    omega
theorem PB.xor {A B : List Int} (hA : PB A) (hB : PB B) : PB (xorD A B) := by
  refine ⟨by simp [xorD, hA.len, hB.len], fun b hb => ?_⟩
  unfold xorD at hb
  obtain ⟨i, hi, rfl⟩ := List.getElem_of_mem hb
  simp only [List.length_zipWith] at hi
  rw [List.getElem_zipWith]
  have a := hA.rng _ (List.getElem_mem (show i < A.length by omega))
  have b := hB.rng _ (List.getElem_mem (show i < B.length by omega))
  exact xorB_isB a b
end Go.Proofs.YtknlbeojdmeljaaDoor.L
namespace Go.Proofs.YtknlbeojdmeljaaDoor.R
open Go.ChangeShapes Go.WideShapes Go.ChangeAt Go.RowKit Go.Proofs.YtknlbeojdmeljaaDoorW.PrintWords Go.Proofs.YtknlbeojdmeljaaDoor.P
open Go.Proofs.YtknlbeojdmeljaaDoor.L (isB)
set_option linter.unusedVariables false
theorem open_num {k : IntKind} {t te : TypeId} (hu : Tryd.prog.underlying t = some (.slice te)) (hk : Tryd.prog.underlying te = some (.int k)) (hc1 : Tryd.prog.cellsOf te = 1) {H : Type} {enc : TypeId × Value → H} {W : World} {a : Option Addr} {len cap : Nat} {d : DataW H} {p : List MemPlace} (h : DataW.Trod enc Tryd.prog W 0 (fun _ => true) true t (.slice a len cap) d p) :
    ∃ ds : List Int, len = ds.length ∧ len ≤ cap ∧ Kd.C (Kd.int k) W a len ds ∧ ∀ b ∈ ds, (Lit.int k b).wf = true := by
  obtain ⟨n, h⟩ := h
  rcases open_ints hu hk hc1 h with ⟨hcs, _⟩ | ⟨ad, l, c, zs, hcs, _, hl, hm, hz, _, hcell, hwz⟩
  · simp [Value.cells] at hcs
    obtain ⟨rfl, rfl, rfl⟩ := hcs
    exact ⟨[], rfl, Nat.le_refl _, ⟨rfl, by simp, fun h => absurd h (by simp)⟩, by simp⟩
  · simp [Value.cells] at hcs
    obtain ⟨rfl, rfl, rfl⟩ := hcs
    have hz' : zs.length = cap := by simpa using hz
    have hl' : len ≤ cap := by simpa using hl
    have htl : (zs.take len).length = len := by rw [List.length_take]; omega
    refine ⟨zs.take len, htl.symm, hl', ⟨htl, by have : cap ≤ maxLen := hm; unfold maxLen at this; omega, fun _ => ⟨ad, rfl, fun j p hj => ⟨[.int k p], rfl, rfl, fun i u hu => ?_⟩⟩⟩, fun b hb => hwz b (List.mem_of_mem_take hb)⟩
    match i, hu with
    | 0, hu =>
      simp at hu
      subst hu
      rw [List.getElem?_take] at hj
      split at hj
      · rename_i hjl
        have h2 := hcell j (by omega)
        rw [List.getD_eq_getElem?_getD, hj] at h2
        have e : (Kd.int k).sz = 1 := rfl
        rw [e, Nat.mul_one]
        exact h2
      · cases hj
theorem open_byteS {H : Type} {enc : TypeId × Value → H} {W : World} {a : Option Addr} {len cap : Nat} {d : DataW H} {p : List MemPlace} (h : DataW.Trod enc Tryd.prog W 0 (fun _ => true) true 22 (.slice a len cap) d p) :
    ∃ ds : List Int, len = ds.length ∧ len ≤ cap ∧ Kd.C (Kd.int .u8) W a len ds ∧ ∀ b ∈ ds, isB b := by
  obtain ⟨ds, h1, h2, h3, h4⟩ := open_num Tryd.underlying22 Tryd.underlying5 cell5' h
  refine ⟨ds, h1, h2, h3, fun b hb => ?_⟩
  have h3 := h4 b hb
  simp only [Lit.wf, Bool.and_eq_true, decide_eq_true_eq] at h3
  have e1 : IntKind.u8.min = 0 := rfl
  have e2 : IntKind.u8.max = 255 := rfl
  rw [e1, e2] at h3
  exact ⟨h3.1, by omega⟩
theorem open_i64S {H : Type} {enc : TypeId × Value → H} {W : World} {a : Option Addr} {len cap : Nat} {d : DataW H} {p : List MemPlace} (h : DataW.Trod enc Tryd.prog W 0 (fun _ => true) true 41 (.slice a len cap) d p) :
    ∃ ds : List Int, len = ds.length ∧ len ≤ cap ∧ Kd.C (Kd.int .i64) W a len ds ∧ ∀ b ∈ ds, (Lit.int .i64 b).wf = true := open_num Tryd.underlying41 Tryd.underlying3 cell3' h
end Go.Proofs.YtknlbeojdmeljaaDoor.R
namespace Go.Proofs.YtknlbeojdmeljaaDoor.H
open Go.RowKit Go.Proofs.YtknlbeojdmeljaaDoorW.PrintWords Go.Proofs.YtknlbeojdmeljaaDoorW.PrintLast Go.Proofs.YtknlbeojdmeljaaDoorW.PrintMore Go.Proofs.YtknlbeojdmeljaaDoor.P
set_option linter.unusedVariables false
set_option linter.unusedSimpArgs false
/-- What is held of rows and blocks, in one bundle. -/
def Hold (w0 w : World) (ls : List (Option Addr × Nat × List S25)) (bs : List (Option Addr × Nat × List Int)) : Prop :=
  Below w0.heap.size w0 w ∧ (∀ p ∈ ls, Kd.C k25 w p.1 p.2.1 p.2.2) ∧ (∀ p ∈ bs, Kd.C (Kd.int .u8) w p.1 p.2.1 p.2.2)
theorem Hold.below {w0 w u : World} {ls : List (Option Addr × Nat × List S25)} {bs : List (Option Addr × Nat × List Int)} (h : Hold w0 w ls bs) (hb : Below w.heap.size w u) : Hold w0 u ls bs :=
  ⟨h.1.trans (hb.mono h.1.size), fun p hp => Kd.C_below (h.2.1 p hp) hb, fun p hp => Kd.C_below (h.2.2 p hp) hb⟩
theorem Hold.addl {w0 w : World} {ls : List (Option Addr × Nat × List S25)} {bs : List (Option Addr × Nat × List Int)} (h : Hold w0 w ls bs) {A : Option Addr} {n : Nat} {xs : List S25} (hc : Kd.C k25 w A n xs) : Hold w0 w ((A, n, xs) :: ls) bs :=
  ⟨h.1, fun p hp => by rcases List.mem_cons.1 hp with rfl | hp; exact hc; exact h.2.1 p hp, h.2.2⟩
theorem Hold.addb {w0 w : World} {ls : List (Option Addr × Nat × List S25)} {bs : List (Option Addr × Nat × List Int)} (h : Hold w0 w ls bs) {A : Option Addr} {n : Nat} {xs : List Int} (hc : Kd.C (Kd.int .u8) w A n xs) : Hold w0 w ls ((A, n, xs) :: bs) :=
  ⟨h.1, h.2.1, fun p hp => by rcases List.mem_cons.1 hp with rfl | hp; exact hc; exact h.2.2 p hp⟩
theorem ex_h {w0 w : World} {ls : List (Option Addr × Nat × List S25)} {bs : List (Option Addr × Nat × List Int)} (h : Hold w0 w ls bs) :
    Calls Tryd.prog 27 #[] w fun e u => ∃ A c, e = .returned (.slice A 256 c) ∧ 256 ≤ c ∧ Hold w0 u ls ((A, 256, exB) :: bs) := by
  obtain ⟨E, hE⟩ : ∃ E, E = exB := ⟨_, rfl⟩
  have hcall := slotmeshlaw34_example.calls 300 E w (by rw [hE]; exact ex_is)
  rw [← hE]
  have hl256 : E.length = 256 := by rw [hE]; simp [exB]
  clear hE
  refine hcall.mono ?_
  rintro e u ⟨v, rfl, hR, hb⟩
  obtain ⟨A, c, rfl⟩ := Kd.R_slice hR
  obtain ⟨_, hl, hc⟩ := Kd.R_reads' hR
  rw [hl256] at hl hc ⊢
  exact ⟨A, c, rfl, hl, (h.below hb).addb hc⟩
theorem enc_h {w0 w : World} {ls : List (Option Addr × Nat × List S25)} {bs : List (Option Addr × Nat × List Int)} (h : Hold w0 w ls bs) (ht : Tabs w0) {A : Option Addr} {c : Nat} (B : List Int) (p s : Int) (hA : (A, 256, B) ∈ bs) (hc : 256 ≤ c) (hp : 0 ≤ p ∧ p < 16) (hs : 0 ≤ s ∧ s ≤ 1000000000) :
    Calls Tryd.prog 12 #[.slice A 256 c, .int .i64 p, .int .i64 s] w fun e u => ∃ A' c', e = .returned (.tuple #[.agg #[.int .i64 p, .int .i64 s, .slice A' 16 c', .slice none 0 0], .int .i64 0]) ∧ 16 ≤ c' ∧ Hold w0 u ls ((A', 16, sumE B s) :: bs) := by
  refine (encode_good A c B p s w hc (h.2.2 _ hA) (ht.keep h.1) hp hs).mono ?_
  rintro e u ⟨v, rfl, hR, hb⟩
  have hl16 : (sumE B s).length = 16 := sumE_len (h.2.2 _ hA).1 s hs
  obtain ⟨A', c', rfl⟩ := Kd.R_slice hR
  obtain ⟨_, hl, hcc⟩ := Kd.R_reads' hR
  rw [show (foldE B (setS s).toNat (fr 16)).1 = sumE B s from rfl, hl16] at hl hcc ⊢
  exact ⟨A', c', rfl, hl, (h.below hb).addb hcc⟩
theorem rcv_h {w0 w : World} {ls : List (Option Addr × Nat × List S25)} {bs : List (Option Addr × Nat × List Int)} (h : Hold w0 w ls bs) (ht : Tabs w0) {A : Option Addr} {c : Nat} (B : List Int) (A2 : Option Addr) (c2 n2 : Nat) (seeds : List Int) (hn : n2 = seeds.length) (hA : (A, 256, B) ∈ bs) (hc : 256 ≤ c)
    (hr2 : Kd.C (Kd.int .i64) w A2 seeds.length seeds) (hl : seeds.length ≤ 200) (hg : ∀ s ∈ seeds, 0 ≤ s ∧ s ≤ 1000000000) (zs : List S25) (m : Int) (b : Bool) (k : Nat) (hres : recL B seeds [] 0 = (zs, m, b)) (hk : zs.length = k) :
    Calls Tryd.prog 24 #[.slice A 256 c, .slice A2 n2 c2] w fun e u => ∃ A' c', e = .returned (.tuple #[.slice A' k c', .int .i64 m, .bool b]) ∧ k ≤ c' ∧ Hold w0 u ((A', k, zs) :: ls) bs := by
  subst hn hk
  have hcall := received_calls A c B A2 c2 seeds w hc (h.2.2 _ hA) hr2 hl hg (ht.keep h.1)
  rw [hres] at hcall
  refine hcall.mono ?_
  rintro e u ⟨v, rfl, hS, hb⟩
  obtain ⟨A', c', rfl⟩ := Kd.R_slice (Kd.S_R hS)
  obtain ⟨_, hl', hcc⟩ := Kd.R_reads' (Kd.S_R hS)
  exact ⟨A', c', rfl, hl', (h.below hb).addl hcc⟩
theorem page_h {w0 w : World} {ls : List (Option Addr × Nat × List S25)} {bs : List (Option Addr × Nat × List Int)} (h : Hold w0 w ls bs) {A : Option Addr} {cap n : Nat} (xs : List S25) (ys : List Int) (b : Bool) (k : Nat)
    (hA : (A, n, xs) ∈ ls) (hn : n = xs.length) (hr : pageS xs = (ys, b)) (hk : ys.length = k) :
    Calls Tryd.prog 16 #[.slice A n cap] w fun e u => ∃ A' c', e = .returned (.tuple #[.slice A' k c', .bool b]) ∧ k ≤ c' ∧ Hold w0 u ls ((A', k, ys) :: bs) := by
  subst hn hk
  have hc := page_calls A cap xs w (h.2.1 _ hA)
  rw [hr] at hc
  refine hc.mono ?_
  rintro e u ⟨v, rfl, hR, hb⟩
  obtain ⟨A', c', rfl⟩ := Kd.R_slice hR
  obtain ⟨_, hl', hcc⟩ := Kd.R_reads' hR
  exact ⟨A', c', rfl, hl', (h.below hb).addb hcc⟩
theorem bytes_h {w0 w : World} {ls : List (Option Addr × Nat × List S25)} {bs : List (Option Addr × Nat × List Int)} (h : Hold w0 w ls bs) {A A1 : Option Addr} {c c1 n n1 : Nat} (xs ys : List Int) (b : Bool) (k : Nat) (hA : (A, n, xs) ∈ bs) (hB : (A1, n1, ys) ∈ bs) (hn : n = xs.length) (hn1 : n1 = ys.length) (hc : n ≤ c) (hc1 : n1 ≤ c1) (hr : slotmeshref33_Bytes.f k xs ys = some b) :
    Calls Tryd.prog 22 #[.slice A n c, .slice A1 n1 c1] w fun e u => e = .returned (.bool b) ∧ Hold w0 u ls bs := by
  subst hn hn1
  refine (slotmeshref33_Bytes.calls k A c xs A1 c1 ys b w (h.2.2 _ hA) hc (h.2.2 _ hB) hc1 hr).mono ?_
  rintro e u ⟨rfl, hd⟩
  exact ⟨rfl, h.below hd.below⟩
end Go.Proofs.YtknlbeojdmeljaaDoor.H
namespace Go.Proofs.YtknlbeojdmeljaaDoor.H
open Go.RowKit Go.Proofs.YtknlbeojdmeljaaDoorW.PrintWords Go.Proofs.YtknlbeojdmeljaaDoorW.PrintLast Go.Proofs.YtknlbeojdmeljaaDoorW.PrintMore Go.Proofs.YtknlbeojdmeljaaDoor.P
set_option linter.unusedVariables false
set_option linter.unusedSimpArgs false
/-- a block's cells, told by their values -/
def Box (w : World) (b : Nat) (vs : List Value) : Prop := b < w.heap.size ∧ ∀ k v, vs[k]? = some v → w.cell? ⟨b, k, none⟩ = some v
theorem Box.below {w u : World} {b : Nat} {vs : List Value} (h : Box w b vs) (hb : Below w.heap.size w u) : Box u b vs :=
  ⟨Nat.lt_of_lt_of_le h.1 hb.size, fun k v hk => (hb.cell (p := ⟨b, k, none⟩) h.1).trans (h.2 k v hk)⟩
theorem Box.new (w : World) (vs : List Value) (t : TypeId) : Box (w.alloc (.cells vs.toArray t)) w.heap.size vs := by
  refine ⟨blk_lt (heap_alloc_new w _), fun k v hk => ?_⟩
  rw [blk_cell (heap_alloc_new w _) k]
  simpa using hk
theorem Hold.alloc {w0 w : World} {ls : List (Option Addr × Nat × List S25)} {bs : List (Option Addr × Nat × List Int)} (h : Hold w0 w ls bs) (o : Obj) : Hold w0 (w.alloc o) ls bs :=
  h.below ((Below.refl _ _).alloc (Nat.le_refl _) _)
theorem lit_C (k : IntKind) (w : World) (e : TypeId) (xs : List Int) (h : xs.length ≤ 9223372036854775807) : Kd.C (Kd.int k) (w.alloc (.cells (nums k xs).toArray e)) (some ⟨w.heap.size, 0, none⟩) xs.length xs := by
  refine ⟨rfl, h, fun _ => ⟨_, rfl, fun j p hj => ⟨[.int k p], rfl, rfl, fun i u hu => ?_⟩⟩⟩
  match i, hu with
  | 0, hu =>
    simp at hu
    subst hu
    have e1 : (Kd.int k).sz = 1 := rfl
    rw [e1, Nat.mul_one, Nat.add_zero, add_plain, blk_cell (heap_alloc_new w _) j]
    simp [nums, hj]
theorem Hold.rebase {w0 w : World} {ls : List (Option Addr × Nat × List S25)} {bs : List (Option Addr × Nat × List Int)} (h : Hold w0 w ls bs) : Hold w w ls bs := ⟨Below.refl _ _, h.2.1, h.2.2⟩
theorem Hold.onto {w0 w u : World} {ls ls' : List (Option Addr × Nat × List S25)} {bs bs' : List (Option Addr × Nat × List Int)} (h : Hold w0 w ls bs) (k : Hold w u ls' bs') : Hold w0 u ls' bs' := ⟨h.1.trans (k.1.mono h.1.size), k.2.1, k.2.2⟩
theorem set_h {w0 w : World} {ls : List (Option Addr × Nat × List S25)} {bs : List (Option Addr × Nat × List Int)} (h : Hold w0 w ls bs) (ht : Tabs w0) (n v : Int) (hv : setS n = v) :
    Calls Tryd.prog 18 #[.int .i64 n] w fun e u => e = .returned (.int .i64 v) ∧ Hold w0 u ls bs := by
  subst hv
  exact (set_calls n w (ht.keep h.1)).mono fun e u ⟨he, hb⟩ => ⟨he, h.below hb⟩
theorem bad_h {w0 w : World} {ls : List (Option Addr × Nat × List S25)} {bs : List (Option Addr × Nat × List Int)} (h : Hold w0 w ls bs) (A : Option Addr) (n c : Nat) (p s : Int) (hg : ¬ goodE n p s) :
    Calls Tryd.prog 12 #[.slice A n c, .int .i64 p, .int .i64 s] w fun e u => e = .returned (.tuple #[.agg #[.int .i64 0, .int .i64 0, .slice none 0 0, .slice none 0 0], .int .i64 1]) ∧ Hold w0 u ls bs :=
  (encode_bad A n c p s w hg).mono fun e u ⟨hb, he⟩ => ⟨he, h.below hb⟩
set_option maxRecDepth 100000 in
set_option maxHeartbeats 1000000 in
theorem head_calls (w : World) (ht : Tabs w) : Calls Tryd.prog 10 #[] w fun e w' => e = .returned (.bool true) ∧ Below w.heap.size w w' := by
  have HT := Lib.hid ht
  have H0 := Lib.hid (show Hold w w [] [] from ⟨Below.refl _ _, (fun _ h => by cases h), (fun _ h => by cases h)⟩)
  obtain ⟨E, hE⟩ : ∃ E, E = exB := ⟨_, rfl⟩
  have HE := Lib.hid hE
  obtain ⟨z1, hz1⟩ : ∃ z, z = (recL exB up15 [] 0).1 := ⟨_, rfl⟩
  obtain ⟨z2, hz2⟩ : ∃ z, z = (recL exB dn16 [] 0).1 := ⟨_, rfl⟩
  have R1 := Lib.hid (show recL E up15 [] 0 = (z1, 15, true) by rw [hE, hz1, ← ex_up])
  have R2 := Lib.hid (show recL E dn16 [] 0 = (z2, 16, true) by rw [hE, hz2, ← ex_dn])
  obtain ⟨⟨p1, b1⟩, hp1⟩ : ∃ p, p = pageS z1 := ⟨_, rfl⟩
  have hb1 : b1 = false := by have := ex_upP; rw [← hz1, ← hp1] at this; exact this
  subst hb1
  have P1 := Lib.hid hp1.symm
  have P2 := Lib.hid (show pageS z2 = (E, true) by rw [hE, hz2, ex_dnP])
  have S3 := Lib.hid (show sumE E 3 = List.replicate 16 3 by rw [hE]; exact ex_enc)
  have EX := Lib.hid (fun w0 w1 ls bs (h : Hold w0 w1 ls bs) => hE ▸ ex_h h)
  have LE := Lib.hid (show E.length = 256 by rw [hE]; simp [exB])
  clear ht hE hz1 hz2 hp1
  go_enter Tryd.func10, Tryd.ntmps10
  go_wp2_with fail
  refine (EX.out _ _ _ _ H0.out).mono ?_
  rintro e u1 ⟨A1, c1, rfl, hc1, h1⟩
  have H1 := Lib.hid h1
  clear h1
  go_wp2_with fail
  refine (enc_h H1.out HT.out E 2 3 (List.mem_cons_self) hc1 (by omega) (by omega)).mono ?_
  rintro e u2 ⟨A2, c2, rfl, hc2, h2⟩
  have H2 := Lib.hid h2
  clear h2
  go_wp2_with fail
  obtain ⟨u2b, hu2⟩ : ∃ u, u = u2.alloc (Obj.cells #[Value.int IntKind.i64 2, Value.int IntKind.i64 3, Value.slice A2 16 c2, Value.slice none 0 0] 26) := ⟨_, rfl⟩
  have X2 := Lib.hid (show Box u2b u2.heap.size [Value.int IntKind.i64 2, Value.int IntKind.i64 3, Value.slice A2 16 c2, Value.slice none 0 0] by rw [hu2]; exact Box.new _ _ _)
  have H2b := Lib.hid (show Hold w u2b _ _ by rw [hu2]; exact H2.out.alloc _)
  have K2 := Lib.hid H2b.out.rebase
  have TB := Lib.hid (HT.out.keep H2b.out.1)
  rw [← hu2]
  clear hu2
  refine (EX.out _ _ _ _ K2.out).mono ?_
  rintro e u3 ⟨A3, c3, rfl, hc3, h3⟩
  have H3 := Lib.hid h3
  clear h3
  go_wp2_with fail
  refine (rcv_h (H3.out.alloc _) TB.out E _ _ _ up15 rfl List.mem_cons_self hc3 (lit_C .i64 u3 3 up15 (by decide)) (by decide) (by decide) z1 15 true _ R1.out rfl).mono ?_
  rintro e u4 ⟨A4, c4, rfl, hc4, h4⟩
  have H4 := Lib.hid h4
  clear h4
  go_wp2_with fail
  refine (page_h H4.out z1 p1 false _ List.mem_cons_self rfl P1.out rfl).mono ?_
  rintro e u5 ⟨A5, c5, rfl, hc5, h5⟩
  have H5 := Lib.hid h5
  clear h5
  go_wp2_with fail
  refine (EX.out _ _ _ _ H5.out).mono ?_
  rintro e u6 ⟨A6, c6, rfl, hc6, h6⟩
  have H6 := Lib.hid h6
  clear h6
  go_wp2_with fail
  refine (rcv_h (H6.out.alloc _) TB.out E _ _ _ dn16 rfl List.mem_cons_self hc6 (lit_C .i64 u6 3 dn16 (by decide)) (by decide) (by decide) z2 16 true _ R2.out rfl).mono ?_
  rintro e u7 ⟨A7, c7, rfl, hc7, h7⟩
  have H7 := Lib.hid h7
  clear h7
  go_wp2_with fail
  refine (page_h H7.out z2 E true _ List.mem_cons_self rfl P2.out LE.out).mono ?_
  rintro e u8 ⟨A8, c8, rfl, hc8, h8⟩
  have H8 := Lib.hid h8
  clear h8
  go_wp2_with fail
  refine (bad_h H8.out _ _ _ _ _ (by unfold goodE; omega)).mono ?_
  rintro e u9 ⟨rfl, h9⟩
  have H9 := Lib.hid h9
  clear h9
  go_wp2_with fail
  refine (set_h (H9.out.alloc _) TB.out _ 1 (by decide)).mono ?_
  rintro e u10 ⟨rfl, h10⟩
  have H10 := Lib.hid h10
  clear h10
  go_wp2_with fail
  refine (set_h H10.out TB.out _ 8 (by decide)).mono ?_
  rintro e u11 ⟨rfl, h11⟩
  have H11 := Lib.hid h11
  clear h11
  go_wp2_with fail
  refine (set_h H11.out TB.out _ 32768 (by decide)).mono ?_
  rintro e u12 ⟨rfl, h12⟩
  have H12 := Lib.hid h12
  clear h12
  go_wp2_with fail
  refine (set_h H12.out TB.out _ 0 (by decide)).mono ?_
  rintro e u13 ⟨rfl, h13⟩
  have H13 := Lib.hid h13
  clear h13
  have X13 := Lib.hid (X2.out.below H13.out.1)
  have xc0 := X13.out.2 0 _ rfl
  have xc1 := X13.out.2 1 _ rfl
  have xc2 := X13.out.2 2 _ rfl
  go_wp2_with fail
  have hm2 : (A2, 16, List.replicate 16 3) ∈ [(A8, 256, E), (A6, 256, E), (A5, p1.length, p1), (A3, 256, E), (A2, 16, sumE E 3), (A1, 256, E)] := by rw [S3.out]; simp
  refine (bytes_h ((H13.out.alloc _).addb (lit_C .u8 u13 5 (List.replicate 16 3) (by decide))) (List.replicate 16 3) (List.replicate 16 3) true 300 (List.mem_cons_of_mem _ hm2) List.mem_cons_self rfl rfl hc2 (Nat.le_refl 16) ex_b3).mono ?_
  rintro e u14 ⟨rfl, h14⟩
  have H14 := Lib.hid h14
  clear h14 hm2
  go_wp2_with fail
  refine (EX.out _ _ _ _ H14.out).mono ?_
  rintro e u15 ⟨A15, c15, rfl, hc15, h15⟩
  have H15 := Lib.hid h15
  clear h15
  go_wp2_with fail
  refine (bytes_h H15.out E E true 300 (List.mem_cons_of_mem _ (List.mem_cons_of_mem _ List.mem_cons_self)) List.mem_cons_self LE.out.symm LE.out.symm hc8 hc15 (by rw [HE.out]; exact ex_bb)).mono ?_
  rintro e u16 ⟨rfl, h16⟩
  have H16 := Lib.hid h16
  clear h16
  go_wp2_with fail
  go_ret
  exact ⟨rfl, (H2b.out.onto H16.out).1⟩
end Go.Proofs.YtknlbeojdmeljaaDoor.H
namespace Go.Proofs.YtknlbeojdmeljaaDoor.L
open Go.RowKit Go.Proofs.YtknlbeojdmeljaaDoorW.PrintWords Go.Proofs.YtknlbeojdmeljaaDoorW.PrintLast Go.Proofs.YtknlbeojdmeljaaDoorW.PrintMore Go.Proofs.YtknlbeojdmeljaaDoor.P Go.Proofs.YtknlbeojdmeljaaDoor.H
set_option linter.unusedVariables false
set_option linter.unusedSimpArgs false
def seedB (s : Int) : Bool := decide (0 ≤ s ∧ s ≤ 1000000000)
def validB (P seeds : List Int) : Bool := (seeds.take 200).all seedB && (decide (P.length = 256) && decide (seeds.length ≤ 100))
theorem validB_iff (P seeds : List Int) : validB P seeds = true ↔ P.length = 256 ∧ seeds.length ≤ 100 ∧ Good seeds := by
  unfold validB Good
  simp only [Bool.and_eq_true, decide_eq_true_eq, List.all_eq_true, seedB]
  constructor
  · rintro ⟨h1, h2, h3⟩
    exact ⟨h2, h3, fun s hs => h1 s (by rw [List.take_of_length_le (by omega)]; exact hs)⟩
  · rintro ⟨h2, h3, h1⟩
    exact ⟨fun s hs => h1 s (List.mem_of_mem_take hs), h2, h3⟩
theorem seed_f (n : Int) : slotmeshref34_Seed.f n = some (seedB n) := by
  unfold slotmeshref34_Seed.f seedB
  by_cases h : 0 ≤ n
  · rw [if_pos h]; simp [h]
  · rw [if_neg h]; simp [h]
theorem valid34_l0 (P seeds : List Int) : ∀ n i : Nat, i + n = (seeds.take 200).length →
    Ev (fun k => slotmeshlaw34_valid.l0 k P seeds (i : Int)) (((seeds.take 200).drop i).all seedB && (decide (P.length = 256) && decide (seeds.length ≤ 100)))
  | 0, i, hi => by
    have hd : (seeds.take 200).drop i = [] := List.drop_of_length_le (by omega)
    rw [hd]
    have fin : Ev (fun k => slotmeshlaw34_valid.j1 k P seeds (i : Int) false) ([].all seedB && (decide (P.length = 256) && decide (seeds.length ≤ 100))) := by
      refine ⟨1, fun k hk => ?_⟩
      obtain ⟨k, rfl⟩ : ∃ m, k = m + 1 := ⟨k - 1, by omega⟩
      simp only [slotmeshlaw34_valid.j1]
      rw [if_neg (by simp)]
      by_cases hP : P.length = 256
      · rw [if_pos (by omega)]
        simp [hP]
        omega
      · rw [if_neg (by omega)]
        simp [hP]
    obtain ⟨K, hK⟩ := fin
    refine ⟨K + 1, fun k hk => ?_⟩
    obtain ⟨k, rfl⟩ : ∃ m, k = m + 1 := ⟨k - 1, by omega⟩
    simp only [slotmeshlaw34_valid.l0]
    rw [List.length_take] at hi
    by_cases h : (i : Int) < seeds.length
    · rw [if_pos h, show decide ((i : Int) < 200) = false by simp; omega]
      exact hK k (by omega)
    · rw [if_neg h]
      exact hK k (by omega)
  | n + 1, i, hi => by
    have hlt : i < (seeds.take 200).length := by omega
    have hlt2 := hlt
    rw [List.length_take] at hlt2
    obtain ⟨K, hK⟩ := valid34_l0 P seeds n (i + 1) (by omega)
    rw [List.drop_eq_getElem_cons hlt, List.all_cons]
    refine ⟨K + 2, fun k hk => ?_⟩
    obtain ⟨k, rfl⟩ : ∃ m, k = m + 2 := ⟨k - 2, by omega⟩
    simp only [slotmeshlaw34_valid.l0]
    rw [if_pos (by omega), show decide ((i : Int) < 200) = true by simp; omega]
    simp only [slotmeshlaw34_valid.j1]
    rw [if_pos trivial, if_pos (by omega), if_pos (by omega), seed_f]
    simp only [Option.bind_some]
    have hr : rd seeds (i : Int) = (seeds.take 200)[i] := by
      rw [List.getElem_take]
      simp [rd, show i < seeds.length by omega]
    rw [hr]
    cases hs : seedB (seeds.take 200)[i]
    · simp
    · rw [if_pos rfl, Bool.true_and, show wrap64 ((i : Int) + 1) = ((i + 1 : Nat) : Int) by unfold wrap64; omega]
      exact hK k (by omega)
theorem valid_ev (P seeds : List Int) : Ev (fun k => slotmeshlaw34_valid.f k P seeds) (validB P seeds) := by
  have := valid34_l0 P seeds _ 0 (Nat.zero_add _)
  exact this
end Go.Proofs.YtknlbeojdmeljaaDoor.L
namespace Go.Proofs.YtknlbeojdmeljaaDoor.H
open Go.RowKit Go.Proofs.YtknlbeojdmeljaaDoorW.PrintWords Go.Proofs.YtknlbeojdmeljaaDoorW.PrintLast Go.Proofs.YtknlbeojdmeljaaDoorW.PrintMore Go.Proofs.YtknlbeojdmeljaaDoor.P
set_option linter.unusedVariables false
set_option linter.unusedSimpArgs false
variable {w0 w : World} {ls : List (Option Addr × Nat × List S25)} {bs : List (Option Addr × Nat × List Int)}
theorem head_h (h : Hold w0 w ls bs) (ht : Tabs w0) : Calls Tryd.prog 10 #[] w fun e u => e = .returned (.bool true) ∧ Hold w0 u ls bs :=
  (head_calls w (ht.keep h.1)).mono fun e u ⟨he, hb⟩ => ⟨he, h.below hb⟩
theorem seed_h (h : Hold w0 w ls bs) (n : Int) (b : Bool) (hb : L.seedB n = b) : Calls Tryd.prog 25 #[.int .i64 n] w fun e u => e = .returned (.bool b) ∧ Hold w0 u ls bs := by
  subst hb
  exact (slotmeshref34_Seed.calls n _ w (L.seed_f n)).mono fun e u ⟨he, hd⟩ => ⟨he, h.below hd.below⟩
theorem valid_h (h : Hold w0 w ls bs) {A : Option Addr} {n c : Nat} (P : List Int) (hA : (A, n, P) ∈ bs) (hn : n = P.length) (hc : n ≤ c) (A2 : Option Addr) (n2 c2 : Nat) (seeds : List Int) (hr : Kd.C (Kd.int .i64) w0 A2 n2 seeds) (hn2 : n2 = seeds.length) (hc2 : n2 ≤ c2) (b : Bool) (hb : L.validB P seeds = b) :
    Calls Tryd.prog 23 #[.slice A n c, .slice A2 n2 c2] w fun e u => e = .returned (.bool b) ∧ Hold w0 u ls bs := by
  subst hn hn2 hb
  obtain ⟨K, hK⟩ := L.valid_ev P seeds
  exact (slotmeshlaw34_valid.calls K A c P A2 c2 seeds _ w (h.2.2 _ hA) hc (Kd.C_below hr h.1) hc2 (hK K (Nat.le_refl K))).mono fun e u ⟨he, hd⟩ => ⟨he, h.below hd.below⟩
theorem sameE_h (h : Hold w0 w ls bs) {A A1 : Option Addr} {c c1 n n1 : Nat} (xs ys : List S25) (hx : ∀ x ∈ xs, x.f1.length < 9223372036854775808) (b : Bool) (hA : (A, n, xs) ∈ ls) (hB : (A1, n1, ys) ∈ ls) (hn : n = xs.length) (hn1 : n1 = ys.length) (hc : n ≤ c) (hc1 : n1 ≤ c1) (hb : L.sameB xs ys = b) :
    Calls Tryd.prog 21 #[.slice A n c, .slice A1 n1 c1] w fun e u => e = .returned (.bool b) ∧ Hold w0 u ls bs := by
  subst hn hn1 hb
  have hl := (h.2.1 _ hA).2.1
  obtain ⟨K, hK⟩ := L.refSame xs ys (by simp only at hl; omega) hx
  exact (slotmeshref33_Same.calls K A c xs A1 c1 ys _ w (h.2.1 _ hA) hc (h.2.1 _ hB) hc1 (hK K (Nat.le_refl K))).mono fun e u ⟨he, hd⟩ => ⟨he, h.below hd.below⟩
theorem rcv1_h (h : Hold w0 w ls bs) (ht : Tabs w0) {A : Option Addr} {cap n : Nat} (zs : List S25) (p s : Int) {A1 : Option Addr} {c1 n1 : Nat} (ds : List Int) (pr : Value) (hA : (A, n, zs) ∈ ls) (hB : (A1, n1, ds) ∈ bs) (hn : n = zs.length) (hn1 : n1 = ds.length) (hlen : zs.length ≤ 1000000) (hg : goodR p s ds.length)
    (xs : List S25) (f : Bool) (e : Int) (k : Nat) (hr : addS zs (setS s) ds = (xs, f, e)) (hk : xs.length = k) :
    Calls Tryd.prog 14 #[.slice A n cap, .agg #[.int .i64 p, .int .i64 s, .slice A1 n1 c1, pr]] w fun e2 u => ∃ A' c', e2 = .returned (.tuple #[.slice A' k c', .bool f, .int .i64 e]) ∧ k ≤ c' ∧ Hold w0 u ((A', k, xs) :: ls) bs := by
  subst hn hn1 hk
  have hc := receive_good A cap zs p s A1 c1 ds pr w (h.2.1 _ hA) (h.2.2 _ hB) hlen (ht.keep h.1) hg
  rw [hr] at hc
  refine hc.mono ?_
  rintro e2 u ⟨v, rfl, hS, hb⟩
  obtain ⟨A', c', rfl⟩ := Kd.R_slice (Kd.S_R hS)
  obtain ⟨_, hl', hcc⟩ := Kd.R_reads' (Kd.S_R hS)
  exact ⟨A', c', rfl, hl', (h.below hb).addl hcc⟩
end Go.Proofs.YtknlbeojdmeljaaDoor.H
namespace Go.Proofs.YtknlbeojdmeljaaDoor.H
open Go.RowKit Go.Proofs.YtknlbeojdmeljaaDoorW.PrintWords Go.Proofs.YtknlbeojdmeljaaDoorW.PrintLast Go.Proofs.YtknlbeojdmeljaaDoorW.PrintMore Go.Proofs.YtknlbeojdmeljaaDoor.P
set_option linter.unusedVariables false
set_option linter.unusedSimpArgs false
theorem Hold.start (w : World) {A : Option Addr} {n : Nat} {P : List Int} (h : Kd.C (Kd.int .u8) w A n P) : Hold w w [] [(A, n, P)] :=
  ⟨Below.refl _ _, (fun _ h => by cases h), (fun p hp => by rw [List.mem_singleton.1 hp]; exact h)⟩
theorem sumE_N {P : List Int} {s : Int} {m : Nat} (hs : 0 ≤ s ∧ s ≤ 1000000000) (hm : setS s = (m : Int)) : sumE P s = L.sumB P m := by
  rw [L.sumE_eq P s hs, hm, Int.toNat_natCast]
theorem row_len {B : List Int} {l : List S25} (h : L.TR B l) : ∀ x ∈ l, x.f1.length < 9223372036854775808 := by
  intro x hx
  have := (L.fine_spec (h.gr.fine x hx)).2.2
  omega
theorem same_self (l : List S25) : L.sameB l l = true := by unfold L.sameB; exact beq_self_eq_true _
end Go.Proofs.YtknlbeojdmeljaaDoor.H
namespace Go.Proofs.YtknlbeojdmeljaaDoor.H
open Go.RowKit Go.Proofs.YtknlbeojdmeljaaDoorW.PrintWords Go.Proofs.YtknlbeojdmeljaaDoorW.PrintLast Go.Proofs.YtknlbeojdmeljaaDoorW.PrintMore Go.Proofs.YtknlbeojdmeljaaDoor.P
set_option linter.unusedVariables false
set_option linter.unusedSimpArgs false
set_option maxRecDepth 100000 in
set_option maxHeartbeats 1000000 in
theorem enough34_calls (A : Option Addr) (c n : Nat) (P : List Int) (hB : ∀ b ∈ P, L.isB b) (hn : n = P.length) (hc : n ≤ c) (A2 : Option Addr) (c2 n2 : Nat) (seeds : List Int) (hn2 : n2 = seeds.length) (hc2 : n2 ≤ c2) (s : Int) (w : World) (hr : Kd.C (Kd.int .u8) w A n P) (hr2 : Kd.C (Kd.int .i64) w A2 n2 seeds) (ht : Tabs w) :
    Calls Tryd.prog 5 #[.slice A n c, .slice A2 n2 c2, .int .i64 s] w fun e w' => e = .returned (.bool true) ∧ Below w.heap.size w w' := by
  have HT := Lib.hid ht
  have HN := Lib.hid hn
  have HN2 := Lib.hid hn2
  have HR2 := Lib.hid hr2
  have H0 := Lib.hid (Hold.start w hr)
  by_cases hv : L.validB P seeds = true
  · have HV := Lib.hid hv
    by_cases hs : L.seedB s = true
    · obtain ⟨v1, v2, v3⟩ := (L.validB_iff P seeds).1 hv
      have hss : 0 ≤ s ∧ s ≤ 1000000000 := of_decide_eq_true hs
      have HS := Lib.hid hs
      have pb : L.PB P := ⟨v1, hB⟩
      obtain ⟨l, r1, r2, r3⟩ := L.rec0 pb seeds v3
      obtain ⟨m, m1, m2, m3⟩ := L.setN s hss
      have hE := sumE_N (P := P) hss m1
      have hEl := sumE_len v1 s hss
      have hl16 := L.len16 r3.gr r3.vp
      have RL := Lib.hid (row_len r3)
      have V2 := Lib.hid v2
      have V3 := Lib.hid v3
      have HSS := Lib.hid hss
      have n256 : n = 256 := by omega
      have HG := Lib.hid (show goodR 0 s (sumE P s).length from ⟨by omega, hss, by rw [hEl]; rfl⟩)
      have HEL := Lib.hid hEl
      subst n256
      by_cases h16 : l.length = 16
      · have hp := L.page_yes pb r3 h16
        have hadd := (L.enough pb r3 h16 m2 m3).2
        rw [← m1, ← hE] at hadd
        rw [h16] at r1
        have R1 := Lib.hid r1
        have HP := Lib.hid hp
        have HA := Lib.hid hadd
        have H16 := Lib.hid h16
        clear ht hn hn2 hr hr2 hB hv pb r1 r2 r3 v1 v2 v3 hp hadd m1 m2 m3 hE hEl hl16 hss hs h16
        go_enter Tryd.func5, Tryd.ntmps5
        go_wp2_with fail
        refine (head_h H0.out HT.out).mono ?_
        rintro e u1 ⟨rfl, h1⟩
        have H1 := Lib.hid h1
        clear h1
        go_wp2_with fail
        refine (valid_h H1.out P List.mem_cons_self HN.out hc A2 _ c2 seeds HR2.out HN2.out hc2 true HV.out).mono ?_
        rintro e u2 ⟨rfl, h2⟩
        have H2 := Lib.hid h2
        clear h2
        go_wp2_with fail
        refine (seed_h H2.out s true HS.out).mono ?_
        rintro e u2b ⟨rfl, h2b⟩
        have H2b := Lib.hid h2b
        clear h2b
        go_wp2_with fail
        refine (rcv_h H2b.out HT.out P A2 c2 _ seeds HN2.out List.mem_cons_self hc (HN2.out ▸ Kd.C_below HR2.out H2b.out.1) (by have := V2.out; omega) V3.out l 16 true 16 R1.out H16.out).mono ?_
        rintro e u3 ⟨A3, c3, rfl, hc3, h3⟩
        have H3 := Lib.hid h3
        clear h3
        go_wp2_with fail
        refine (page_h H3.out l P true _ List.mem_cons_self H16.out.symm HP.out rfl).mono ?_
        rintro e u4 ⟨A4, c4, rfl, hc4, h4⟩
        have H4 := Lib.hid h4
        clear h4
        go_wp2_with fail
        refine (enc_h H4.out HT.out P 0 s (List.mem_cons_of_mem _ List.mem_cons_self) hc (by omega) HSS.out).mono ?_
        rintro e u5 ⟨A5, c5, rfl, hc5, h5⟩
        have H5 := Lib.hid h5
        clear h5
        go_wp2_with fail
        refine (rcv1_h (H5.out.alloc _) HT.out l 0 s (sumE P s) _ List.mem_cons_self List.mem_cons_self H16.out.symm HEL.out.symm (by have := H16.out; omega) HG.out l false 0 16 HA.out H16.out).mono ?_
        rintro e u6 ⟨A6, c6, rfl, hc6, h6⟩
        have H6 := Lib.hid h6
        clear h6
        go_wp2_with fail
        refine (sameE_h H6.out l l RL.out true (List.mem_cons_of_mem _ List.mem_cons_self) List.mem_cons_self H16.out.symm H16.out.symm hc3 hc6 (same_self l)).mono ?_
        rintro e u7 ⟨rfl, h7⟩
        have H7 := Lib.hid h7
        clear h7
        go_wp2_with fail
        go_ret
        exact ⟨rfl, H7.out.1⟩
      · obtain ⟨ps, hp⟩ : ∃ ps, pageS l = (ps, false) := ⟨(pageS l).1, by rw [← show (pageS l).2 = false by rw [L.page_iff pb r3]; simpa using h16]⟩
        obtain ⟨l2, f2, hadd⟩ : ∃ l2 f2, addS l (setS s) (sumE P s) = (l2, f2, 0) := by
          rw [m1, hE]
          rcases r3.add pb m2 m3 with ⟨_, _, e⟩ | ⟨_, _, e, _⟩
          · exact ⟨_, _, e⟩
          · exact ⟨_, _, e⟩
        have R1 := Lib.hid r1
        have HP := Lib.hid hp
        have HA := Lib.hid hadd
        obtain ⟨N, hN⟩ : ∃ N, N = l.length := ⟨_, rfl⟩
        have HLN := Lib.hid hN
        have d1 : ((N : Int) == 16) = false := by simp; omega
        have d2 : N ≤ 16 := by omega
        have d3 : decide ((N : Int) > 16) = false := by simp; omega
        rw [← hN] at R1
        clear ht hn hn2 hr hr2 hB hv pb r1 r2 r3 v1 v2 v3 hp hadd m1 m2 m3 hE hEl hl16 hss hs h16 hN
        go_enter Tryd.func5, Tryd.ntmps5
        go_wp2_with fail
        refine (head_h H0.out HT.out).mono ?_
        rintro e u1 ⟨rfl, h1⟩
        have H1 := Lib.hid h1
        clear h1
        go_wp2_with fail
        refine (valid_h H1.out P List.mem_cons_self HN.out hc A2 _ c2 seeds HR2.out HN2.out hc2 true HV.out).mono ?_
        rintro e u2 ⟨rfl, h2⟩
        have H2 := Lib.hid h2
        clear h2
        go_wp2_with fail
        refine (seed_h H2.out s true HS.out).mono ?_
        rintro e u2b ⟨rfl, h2b⟩
        have H2b := Lib.hid h2b
        clear h2b
        go_wp2_with fail
        refine (rcv_h H2b.out HT.out P A2 c2 _ seeds HN2.out List.mem_cons_self hc (HN2.out ▸ Kd.C_below HR2.out H2b.out.1) (by have := V2.out; omega) V3.out l N true N R1.out HLN.out.symm).mono ?_
        rintro e u3 ⟨A3, c3, rfl, hc3, h3⟩
        have H3 := Lib.hid h3
        clear h3
        go_wp2_with fail
        refine (page_h H3.out l ps false _ List.mem_cons_self HLN.out HP.out rfl).mono ?_
        rintro e u4 ⟨A4, c4, rfl, hc4, h4⟩
        have H4 := Lib.hid h4
        clear h4
        go_wp2_with fail
        refine (enc_h H4.out HT.out P 0 s (List.mem_cons_of_mem _ List.mem_cons_self) hc (by omega) HSS.out).mono ?_
        rintro e u5 ⟨A5, c5, rfl, hc5, h5⟩
        have H5 := Lib.hid h5
        clear h5
        go_wp2_with fail
        refine (rcv1_h (H5.out.alloc _) HT.out l 0 s (sumE P s) _ List.mem_cons_self List.mem_cons_self HLN.out HEL.out.symm (by have := HLN.out; omega) HG.out l2 f2 0 _ HA.out rfl).mono ?_
        rintro e u6 ⟨A6, c6, rfl, hc6, h6⟩
        have H6 := Lib.hid h6
        clear h6
        go_wp2_with fail
        go_ret
        exact ⟨rfl, H6.out.1⟩
    · have HS := Lib.hid (show L.seedB s = false by simpa using hs)
      clear ht hn hn2 hr hr2 hB hv hs
      go_enter Tryd.func5, Tryd.ntmps5
      go_wp2_with fail
      refine (head_h H0.out HT.out).mono ?_
      rintro e u1 ⟨rfl, h1⟩
      have H1 := Lib.hid h1
      clear h1
      go_wp2_with fail
      refine (valid_h H1.out P List.mem_cons_self HN.out hc A2 _ c2 seeds HR2.out HN2.out hc2 true HV.out).mono ?_
      rintro e u2 ⟨rfl, h2⟩
      have H2 := Lib.hid h2
      clear h2
      go_wp2_with fail
      refine (seed_h H2.out s false HS.out).mono ?_
      rintro e u2b ⟨rfl, h2b⟩
      have H2b := Lib.hid h2b
      clear h2b
      go_wp2_with fail
      go_ret
      exact ⟨rfl, H2b.out.1⟩
  · have HV := Lib.hid (show L.validB P seeds = false by simpa using hv)
    obtain ⟨b, hb⟩ : ∃ b, L.seedB s = b := ⟨_, rfl⟩
    have HS := Lib.hid hb
    clear ht hn hn2 hr hr2 hB hv hb
    go_enter Tryd.func5, Tryd.ntmps5
    go_wp2_with fail
    refine (head_h H0.out HT.out).mono ?_
    rintro e u1 ⟨rfl, h1⟩
    have H1 := Lib.hid h1
    clear h1
    go_wp2_with fail
    refine (valid_h H1.out P List.mem_cons_self HN.out hc A2 _ c2 seeds HR2.out HN2.out hc2 false HV.out).mono ?_
    rintro e u2 ⟨rfl, h2⟩
    have H2 := Lib.hid h2
    clear h2
    go_wp2_with fail
    refine (seed_h H2.out s b HS.out).mono ?_
    rintro e u2b ⟨rfl, h2b⟩
    have H2b := Lib.hid h2b
    clear h2b
    go_wp2_with fail
    go_ret
    exact ⟨rfl, H2b.out.1⟩
end Go.Proofs.YtknlbeojdmeljaaDoor.H
