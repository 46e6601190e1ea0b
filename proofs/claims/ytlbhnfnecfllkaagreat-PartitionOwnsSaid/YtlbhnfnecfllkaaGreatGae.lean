/-
  Days of zones: Floor, local days, the checks. warehouseref4.offset and local. Plain functions of chapter 22: schemes, days of rows, partitions, as both texts compute them. No program is in sight. warehouseref4.day. zone.dayAt, zone.Day, warehouseref4.Day: both days are dayS. Schemes of chapter 22: partition.find, Validate, day, Day; warehouseref22.Validate, Day (not built yet). Plain law of chapter 22: Pick, Replace, Changed and the sums of bags. No program is in sight. Cells of partitions in a slice. No program is in sight. zone.Start with its closure and sort.Search: the first instant whose day is at least a day. warehouseref4.start and Span: first instants of days, the reference's way.
-/
import Derived.Test.YtlbhnfnecfllkaaGreatZone
import Derived.Test.YtlbhnfnecfllkaaGreatGac
import Derived.Test.YtlbhnfnecfllkaaGreatGaa
namespace Go.Proofs.YtlbhnfnecfllkaaGreat
open Go.RowKit
set_option linter.unusedSimpArgs false
set_option linter.unusedVariables false

theorem floor_ref (a : Int) (h1 : -4611686018427387904 ≤ a) (h2 : a ≤ 4611686018427387904) (w : World) : Calls Tryz.prog 151 #[.int .i64 a, .int .i64 1440] w fun e w' => e = .returned (.int .i64 (a / 1440)) ∧ w = w' := by
  by_cases h : 0 ≤ a
  · go_enter Tryz.func151, Tryz.ntmps151
    go_wp2
    all_goals (first | (exfalso; go_light; omega) | (go_ret; exact ⟨ret_int (by go_light; omega), rfl⟩))
  · have e1 : a.tdiv 1440 = -((-a) / 1440) := by
      have h3 : a.tdiv 1440 = -((-a).tdiv 1440) := by rw [Int.neg_tdiv, Int.neg_neg]
      rw [h3, Int.tdiv_eq_ediv_of_nonneg (a := -a) (by omega)]
    have e2 : a.tmod 1440 = -((-a) % 1440) := by
      have h3 : a.tmod 1440 = -((-a).tmod 1440) := by rw [Int.neg_tmod, Int.neg_neg]
      rw [h3, Int.tmod_eq_emod_of_nonneg (a := -a) (by omega)]
    have E1 := hide e1
    have E2 := hide e2
    have hw := hide (IntWalk.wrap64_in (a.tdiv 1440 - 1) (by rw [e1]; omega))
    clear e1 e2
    go_enter Tryz.func151, Tryz.ntmps151
    go_wp2
    all_goals
      go_ret
      refine ⟨ret_int ?_, rfl⟩
      have e1 := E1.out
      have e2 := E2.out
      go_light
      first | (rw [hw.out]; omega) | omega
theorem local_any (t o : Int) (h1 : -4611686018427387904 ≤ t) (h2 : t ≤ 4611686018427387904) (h3 : -840 ≤ o) (h4 : o ≤ 840) (w : World) : Calls Tryz.prog 125 #[.int .i64 t, .int .i64 o] w fun e w' => e = .returned (.int .i64 (localDay t o)) ∧ w = w' := by
  by_cases h : t + o < 0
  · go_enter Tryz.func125, Tryz.ntmps125
    go_wp2
    all_goals (first | (exfalso; go_light; omega) | (go_ret; exact ⟨ret_int (by simp [localDay, h]), rfl⟩))
  · have h' : 0 ≤ t + o := by omega
    go_enter Tryz.func125, Tryz.ntmps125
    go_wp2
    all_goals (first | (exfalso; go_light; omega) | (go_ret; exact ⟨ret_int (by rw [localDay, if_neg (by omega)]), rfl⟩))
theorem zcheck_any (w : World) (A : Option Addr) (n c : Nat) (z : Zone) (hx : In w A n c z.shifts) (ho : I64 z.offset) (t : Int) :
    Calls Tryz.prog 90 #[.agg #[.string z.name, .int .i64 z.offset, .slice A n c], .int .i64 t] w fun e w' => e = .returned (.int .i64 (dayErr z t)) ∧ Below w.heap.size w w' := by
  go_enter Tryz.func90, Tryz.ntmps90
  go_wp2_with fail
  refine (zone_any _ A n c z (hx.below (by first | exact below_alloc | exact Below.refl _ _)) ho).mono ?_
  rintro e w1 ⟨rfl, hb1⟩
  have hbb : Below w.heap.size w w1 := by first | exact hb1 | exact below_trans below_alloc hb1
  clear hb1
  by_cases h0 : zoneErr z = 0
  · have HD : Hid (dayErr z t = if t < 0 ∨ 575999999 < t then 1 else 0) := hide (by rw [dayErr, if_neg (by simp [h0])])
    rw [h0]
    clear h0
    go_wp2
    all_goals (go_ret; refine ⟨ret_int ?_, hbb⟩; rw [HD.out]; go_light; (try simp only [decide_eq_true_eq, decide_eq_false_iff_not] at *); first | (rw [if_pos (by omega)]) | (rw [if_neg (by omega)]))
  · have HD : Hid (dayErr z t = zoneErr z) := hide (by rw [dayErr, if_pos h0])
    have q : (zoneErr z != 0) = true := by simpa using h0
    clear h0
    go_wp2
    go_ret
    exact ⟨ret_int HD.out.symm, hbb⟩
theorem zcheck_ref (w : World) (A : Option Addr) (n c : Nat) (z : Zone) (hx : In w A n c z.shifts) (ho : I64 z.offset) (t : Int) :
    Calls Tryz.prog 128 #[.agg #[.string z.name, .int .i64 z.offset, .slice A n c], .int .i64 t] w fun e w' => e = .returned (.int .i64 (dayErr z t)) ∧ Below w.heap.size w w' := by
  go_enter Tryz.func128, Tryz.ntmps128
  go_wp2_with fail
  refine (zone_ref _ A n c z (hx.below (by first | exact below_alloc | exact Below.refl _ _)) ho).mono ?_
  rintro e w1 ⟨rfl, hb1⟩
  have hbb : Below w.heap.size w w1 := by first | exact hb1 | exact below_trans below_alloc hb1
  clear hb1
  by_cases h0 : zoneErr z = 0
  · have HD : Hid (dayErr z t = if t < 0 ∨ 575999999 < t then 1 else 0) := hide (by rw [dayErr, if_neg (by simp [h0])])
    rw [h0]
    clear h0
    go_wp2
    all_goals (go_ret; refine ⟨ret_int ?_, hbb⟩; rw [HD.out]; go_light; (try simp only [decide_eq_true_eq, decide_eq_false_iff_not] at *); first | (rw [if_pos (by omega)]) | (rw [if_neg (by omega)]))
  · have HD : Hid (dayErr z t = zoneErr z) := hide (by rw [dayErr, if_pos h0])
    have q : (zoneErr z != 0) = true := by simpa using h0
    clear h0
    go_wp2
    go_ret
    exact ⟨ret_int HD.out.symm, hbb⟩
end Go.Proofs.YtlbhnfnecfllkaaGreat

namespace Go.Proofs.YtlbhnfnecfllkaaGreat
open Go.RowKit
set_option linter.unusedSimpArgs false
set_option linter.unusedVariables false

theorem shift_off {l : List Shift} {k : Nat} (h : firstShift l k (l.drop k) = 0) : ∀ s ∈ l.drop k, -840 ≤ s.offset ∧ s.offset ≤ 840 ∧ 1 ≤ s.at_ ∧ s.at_ ≤ 575999999 := by
  have key : ∀ (r : List Shift) (k : Nat), firstShift l k r = 0 → ∀ s ∈ r, -840 ≤ s.offset ∧ s.offset ≤ 840 ∧ 1 ≤ s.at_ ∧ s.at_ ≤ 575999999 := by
    intro r
    induction r with
    | nil => intro k _ s hs; cases hs
    | cons x r ih =>
      intro k h s hs
      rw [firstShift] at h
      split at h
      · contradiction
      · rename_i h0
        have h0 : shiftErr l k x = 0 := by omega
        rcases List.mem_cons.1 hs with rfl | hs
        · rw [shiftErr] at h0
          split at h0
          · omega
          · rename_i hn
            have h3 : offOk s.offset = true := by
              cases hq : offOk s.offset
              · exact absurd (.inr (.inr hq)) hn
              · rfl
            simp [offOk] at h3
            have h1 : ¬ s.at_ < 1 := fun q => hn (.inl q)
            have h2 : ¬ 575999999 < s.at_ := fun q => hn (.inr (.inl q))
            omega
        · exact ih (k + 1) h s hs
  exact key _ k h
set_option maxHeartbeats 1000000 in
set_option maxRecDepth 100000 in
theorem offset_ref4 (w : World) (A : Option Addr) (n c : Nat) (z : Zone) (hx : In w A n c z.shifts) (ho : I64 z.offset) (t : Int) :
    Calls Tryz.prog 152 #[.agg #[.string z.name, .int .i64 z.offset, .slice A n c], .int .i64 t] w fun e w' => e = .returned (.int .i64 (offL t z.shifts z.offset)) ∧ Below w.heap.size w w' := by
  obtain ⟨nm, off0, xs⟩ := z
  simp only at hx ho ⊢
  have h63 := hx.le
  go_enter Tryz.func152, Tryz.ntmps152
  go_wp2
  obtain ⟨w1, hw1⟩ : ∃ w1, w1 = w.alloc (.cells #[.string nm, .int .i64 off0, .slice A n c] 25) := ⟨_, rfl⟩
  have g2 : w1.cell? ⟨w.heap.size, 2, none⟩ = some (.slice A n c) := by rw [hw1]; simp [go_sem]
  have hb1 : Below w.heap.size w w1 := by rw [hw1]; exact below_alloc
  rw [← hw1]
  clear hw1
  have hin := hx.below hb1
  go_loop [5, 6] (fun o i => ∃ (k : Nat) (q : Int), k ≤ n ∧ i = .int .i64 k ∧ o = .int .i64 q ∧ offL t xs off0 = offL t (xs.drop k) q) (fun _ i => n - (intOf i).toNat)
  case atStart => exact ⟨0, off0, Nat.zero_le _, rfl, rfl, rfl⟩
  case round =>
    obtain ⟨k, q, hk, rfl, rfl, heq⟩ := hrel
    have HE := hide heq
    clear heq
    by_cases hlt : k < n
    · obtain ⟨b, off, x, rfl, hB, HX, f0, f1, f2, f3⟩ := hin.shift hlt
      by_cases hs : x.at_ ≤ t
      · have HN : Hid (offL t xs off0 = offL t (xs.drop (k + 1)) x.offset) := hide (by rw [HE.out, HX.out, offL, if_pos hs])
        go_wp2
        go_round
        case rel => exact ⟨k + 1, x.offset, by omega, by go_num, rfl, HN.out⟩
        case measure => simp [intOf]; omega
      · have HN : Hid (offL t xs off0 = offL t (xs.drop (k + 1)) q) := hide (by rw [HE.out, HX.out, offL, if_neg hs])
        go_wp2
        go_round
        case rel => exact ⟨k + 1, q, by omega, by go_num, rfl, HN.out⟩
        case measure => simp [intOf]; omega
    · go_wp2
      go_ret
      exact ⟨ret_int (by rw [HE.out, drop_end hx.len (by omega), offL]), hb1⟩

theorem offL_bd (t : Int) : ∀ (l : List Shift) (o : Int), (∀ s ∈ l, -840 ≤ s.offset ∧ s.offset ≤ 840) → -840 ≤ o ∧ o ≤ 840 → -840 ≤ offL t l o ∧ offL t l o ≤ 840
  | [], o, _, h => h
  | s :: l, o, h, ho => by
    rw [offL]
    refine offL_bd t l _ (fun q hq => h q (by simp [hq])) ?_
    split
    · exact h s (by simp)
    · exact ho
theorem zone_bd {z : Zone} (hz : zoneErr z = 0) : (-840 ≤ z.offset ∧ z.offset ≤ 840) ∧ ∀ s ∈ z.shifts, -840 ≤ s.offset ∧ s.offset ≤ 840 ∧ 1 ≤ s.at_ ∧ s.at_ ≤ 575999999 := by
  rw [zoneErr] at hz
  split at hz
  · omega
  · split at hz
    · omega
    · rename_i h1 h2
      refine ⟨?_, shift_off (k := 0) hz⟩
      have h3 : offOk z.offset = true := by
        cases hq : offOk z.offset
        · exact absurd hq h2
        · rfl
      simpa [offOk] using h3
set_option maxHeartbeats 1000000 in
set_option maxRecDepth 100000 in
theorem local_ref4 (w : World) (A : Option Addr) (n c : Nat) (z : Zone) (hx : In w A n c z.shifts) (hz : zoneErr z = 0) (t : Int) (ht0 : -1 ≤ t) (ht1 : t ≤ 576000000) :
    Calls Tryz.prog 140 #[.agg #[.string z.name, .int .i64 z.offset, .slice A n c], .int .i64 t] w fun e w' => e = .returned (.int .i64 (rloc z t)) ∧ Below w.heap.size w w' := by
  obtain ⟨hb0, hb1⟩ := zone_bd hz
  have hbd := offL_bd t z.shifts z.offset (fun s hs => ⟨(hb1 s hs).1, (hb1 s hs).2.1⟩) hb0
  have ho : I64 z.offset := by unfold I64; omega
  obtain ⟨q, hq⟩ : ∃ q, offL t z.shifts z.offset = q := ⟨_, rfl⟩
  rw [hq] at hbd
  have HQ := hide hq
  have HR : Hid (rloc z t = (t + q) / 1440) := hide (by rw [rloc, hq])
  obtain ⟨l0, l1⟩ := hbd
  clear hq hb0 hb1 hz
  go_enter Tryz.func140, Tryz.ntmps140
  go_wp2_with fail
  refine (offset_ref4 _ A n c z (hx.below below_alloc) ho t).mono ?_
  rintro e w1 ⟨rfl, hb1⟩
  have hbb := below_trans below_alloc hb1
  clear hb1
  rw [HQ.out]
  go_wp2_with fail
  refine (floor_ref (t + q) (by omega) (by omega) _).mono ?_
  rintro e w' ⟨rfl, rfl⟩
  go_wp2
  go_ret
  exact ⟨ret_int HR.out.symm, hbb⟩
end Go.Proofs.YtlbhnfnecfllkaaGreat

namespace Go.Proofs.YtlbhnfnecfllkaaGreat
open Go.RowKit
set_option linter.unusedVariables false
set_option linter.unusedSimpArgs false

structure Partn where
  day : Int
  rows : List Ent
instance : Inhabited Partn := ⟨⟨0, []⟩⟩
instance : Rep Partn where
  size := 2
  rd w S cs x := ∃ A n c, cs = [.int .i64 x.day, .slice A n c] ∧ Sl w S A n c x.rows ∧ I64 x.day
  len h := by obtain ⟨A, n, c, rfl, _⟩ := h; rfl
  keep hs h := by obtain ⟨A, n, c, rfl, h, hc⟩ := h; exact ⟨A, n, c, rfl, h.keep hs, hc⟩
  mono hs h := by obtain ⟨A, n, c, rfl, h, hc⟩ := h; exact ⟨A, n, c, rfl, h.mono hs, hc⟩

/-- The number of a scheme's column (-1 if there is none), and the scheme's error. -/
def findS (cols : List Col) (column : ByteArray) (z : Zone) : Int × Int :=
  if colsErr cols ≠ 0 then (-1, colsErr cols) else if noStr column = true then (-1, 0) else if index cols column < 0 then (-1, 5)
  else if (cols.getD (index cols column).toNat default).kind ≠ 4 ∧ (cols.getD (index cols column).toNat default).kind ≠ 2 then (-1, 7) else (index cols column, zoneErr z)
/-- The day of a value of a scheme's column. -/
def dayVal (z : Zone) (v : Val) : Int :=
  if v.kind = 4 then (if dayErr z v.num = 0 then dayAt z v.num else -1) else if v.kind = 2 ∧ 0 ≤ v.num ∧ v.num ≤ 400000 then v.num else -1
def dayRow (at_ : Int) (z : Zone) (row : List Val) : Int := if at_ < 0 then -1 else dayVal z (row.getD at_.toNat default)
def dayPS (cols : List Col) (column : ByteArray) (z : Zone) (row : List Val) : Int × Int :=
  if (findS cols column z).2 ≠ 0 then (0, (findS cols column z).2) else if rowErr cols row ≠ 0 then (0, rowErr cols row) else (dayRow (findS cols column z).1 z row, 0)
/-- The error of a scheme with a bag. -/
def schemeErr (cols : List Col) (column : ByteArray) (z : Zone) (rows : List Ent) : Int :=
  if (findS cols column z).2 ≠ 0 then (findS cols column z).2 else if bagErr rows ≠ 0 then bagErr rows else firstErr (fun _ x => rowErr cols x.row) 0 rows
def daysR (at_ : Int) (z : Zone) (rows : List Ent) : List Int := rows.map fun x => dayRow at_ z x.row
/-- The rows of a day. -/
def ofDay (at_ : Int) (z : Zone) (rows : List Ent) (d : Int) : List Ent := rows.filter fun x => dayRow at_ z x.row == d

/-- Strictly ascending. -/
def Asc (l : List Int) : Prop := l.Pairwise (· < ·)
theorem asc_unique : ∀ {l m : List Int}, Asc l → Asc m → (∀ d, d ∈ l ↔ d ∈ m) → l = m
  | [], [], _, _, _ => rfl
  | [], y :: m, _, _, h => by have := (h y).2 (by simp); cases this
  | x :: l, [], _, _, h => by have := (h x).1 (by simp); cases this
  | x :: l, y :: m, hl, hm, h => by
    rw [Asc, List.pairwise_cons] at hl hm
    have e : x = y := by
      have h1 := (h x).1 (by simp)
      have h2 := (h y).2 (by simp)
      rcases List.mem_cons.1 h1 with h1 | h1
      · exact h1
      · rcases List.mem_cons.1 h2 with h2 | h2
        · exact h2.symm
        · have := hl.1 y h2
          have := hm.1 x h1
          omega
    subst e
    congr 1
    refine asc_unique hl.2 hm.2 fun d => ⟨fun hd => ?_, fun hd => ?_⟩
    · have h1 := hl.1 d hd
      rcases List.mem_cons.1 ((h d).1 (List.mem_cons_of_mem _ hd)) with h2 | h2
      · omega
      · exact h2
    · have h1 := hm.1 d hd
      rcases List.mem_cons.1 ((h d).2 (List.mem_cons_of_mem _ hd)) with h2 | h2
      · omega
      · exact h2
/-- The partitions of a bag, told by its days. -/
def IsSplit (at_ : Int) (z : Zone) (rows : List Ent) (ps : List Partn) : Prop :=
  ∃ ks, Asc ks ∧ (∀ d, d ∈ ks ↔ d ∈ daysR at_ z rows) ∧ ps = ks.map fun d => ⟨d, ofDay at_ z rows d⟩
theorem IsSplit.unique {at_ : Int} {z : Zone} {rows : List Ent} {ps qs : List Partn} (h : IsSplit at_ z rows ps) (h' : IsSplit at_ z rows qs) : ps = qs := by
  obtain ⟨ks, h1, h2, rfl⟩ := h
  obtain ⟨ls, g1, g2, rfl⟩ := h'
  rw [asc_unique h1 g1 fun d => (h2 d).trans (g2 d).symm]
theorem dayFrom_le {t : Int} (ht : t ≤ 575999999) : ∀ (l : List Shift) (b o : Int), (∀ s ∈ l, s.at_ ≤ 575999999 ∧ s.offset ≤ 840) → o ≤ 840 → b ≤ 400000 → dayFrom t l b o ≤ 400000
  | [], b, o, _, ho, hb => by
    rw [dayFrom]
    have : localDay t o ≤ 400000 := by rw [localDay]; split <;> omega
    omega
  | s :: l, b, o, h, ho, hb => by
    have hs := h s (by simp)
    rw [dayFrom]
    split
    · have : localDay t o ≤ 400000 := by rw [localDay]; split <;> omega
      omega
    · have : localDay (s.at_ - 1) o ≤ 400000 := by rw [localDay]; split <;> omega
      exact dayFrom_le ht l _ _ (fun q hq => h q (by simp [hq])) hs.2 (by omega)
theorem dayAt_le {z : Zone} (hz : zoneErr z = 0) {t : Int} (h1 : t ≤ 575999999) : dayAt z t ≤ 400000 := by
  obtain ⟨q1, q2⟩ := zone_bd hz
  exact dayFrom_le h1 z.shifts 0 z.offset (fun s hs => ⟨(q2 s hs).2.2.2, (q2 s hs).2.1⟩) q1.2 (by omega)

/-! ### The reference's way: the least day above the last one, again and again -/
def leastA (last : Int) : List Int → Int → Int
  | [], m => m
  | x :: l, m => leastA last l (if last < x ∧ x < m then x else m)
theorem leastA_spec (last : Int) : ∀ (l : List Int) (m : Int), leastA last l m ≤ m ∧ (leastA last l m = m ∨ (leastA last l m ∈ l ∧ last < leastA last l m)) ∧ ∀ x ∈ l, last < x → leastA last l m ≤ x
  | [], m => ⟨Int.le_refl _, .inl rfl, fun x hx => by cases hx⟩
  | y :: l, m => by
    rw [leastA]
    by_cases h : last < y ∧ y < m
    · rw [if_pos h]
      obtain ⟨a, b, c⟩ := leastA_spec last l y
      refine ⟨by omega, ?_, fun x hx hl => ?_⟩
      · rcases b with b | b
        · exact .inr ⟨by rw [b]; simp, by omega⟩
        · exact .inr ⟨List.mem_cons_of_mem _ b.1, b.2⟩
      · rcases List.mem_cons.1 hx with rfl | hx
        · exact a
        · exact c x hx hl
    · rw [if_neg h]
      obtain ⟨a, b, c⟩ := leastA_spec last l m
      refine ⟨a, ?_, fun x hx hl => ?_⟩
      · rcases b with b | b
        · exact .inl b
        · exact .inr ⟨List.mem_cons_of_mem _ b.1, b.2⟩
      · rcases List.mem_cons.1 hx with rfl | hx
        · omega
        · exact c x hx hl
/-- The days so far, up to the last one. -/
def Upto (l ks : List Int) (last : Int) : Prop := Asc ks ∧ ∀ d, d ∈ ks ↔ d ∈ l ∧ d ≤ last
theorem Upto.start {l : List Int} (h : ∀ d ∈ l, -1 ≤ d) : Upto l [] (-2) := ⟨List.Pairwise.nil, fun d => ⟨(fun h => by cases h), (fun ⟨h1, h2⟩ => by have := h d h1; omega)⟩⟩
theorem Upto.done {l ks : List Int} {last : Int} (h : Upto l ks last) (hm : ∀ d ∈ l, d ≤ 400000) (he : leastA last l 400001 = 400001) : Asc ks ∧ ∀ d, d ∈ ks ↔ d ∈ l := by
  refine ⟨h.1, fun d => ⟨fun hd => ((h.2 d).1 hd).1, fun hd => (h.2 d).2 ⟨hd, ?_⟩⟩⟩
  have h1 := hm d hd
  by_cases q : d ≤ last
  · exact q
  · have := (leastA_spec last l 400001).2.2 d hd (by omega)
    omega
theorem Upto.step {l ks : List Int} {last : Int} (h : Upto l ks last) (he : leastA last l 400001 ≠ 400001) : Upto l (ks ++ [leastA last l 400001]) (leastA last l 400001) ∧ last < leastA last l 400001 ∧ leastA last l 400001 ∈ l := by
  obtain ⟨a, b, c⟩ := leastA_spec last l 400001
  obtain ⟨b1, b2⟩ := b.resolve_left he
  refine ⟨⟨?_, fun d => ?_⟩, b2, b1⟩
  · rw [Asc, List.pairwise_append]
    refine ⟨h.1, List.pairwise_singleton _ _, fun x hx y hy => ?_⟩
    simp at hy
    have := ((h.2 x).1 hx).2
    omega
  · rw [List.mem_append, h.2 d]
    simp only [List.mem_singleton]
    constructor
    · rintro (⟨h1, h2⟩ | rfl)
      · exact ⟨h1, by omega⟩
      · exact ⟨b1, Int.le_refl _⟩
    · rintro ⟨h1, h2⟩
      by_cases q : d ≤ last
      · exact .inl ⟨h1, q⟩
      · have := c d h1 (by omega)
        exact .inr (by omega)
/-- How many days are still to come. -/
def above (l : List Int) (last : Int) : Nat := (l.filter fun d => decide (last < d)).length
theorem above_less {l : List Int} {last m : Int} (h : last < m) (hm : m ∈ l) : above l m < above l last := by
  induction l with
  | nil => cases hm
  | cons x l ih =>
    rw [above, above, List.filter_cons, List.filter_cons]
    have hle : ∀ k : List Int, (k.filter fun d => decide (m < d)).length ≤ (k.filter fun d => decide (last < d)).length := by
      intro k
      induction k with
      | nil => exact Nat.le_refl _
      | cons y k ihk =>
        rw [List.filter_cons, List.filter_cons]
        by_cases q1 : m < y
        · have q2 : last < y := by omega
          simp [q1, q2]; exact ihk
        · by_cases q2 : last < y
          · simp [q1, q2]; omega
          · simp [q1, q2]; exact ihk
    rcases List.mem_cons.1 hm with rfl | hm
    · have q1 : ¬ m < m := by omega
      simp [q1, h]
      have := hle l
      omega
    · have := ih hm
      rw [above, above] at this
      by_cases q1 : m < x
      · have q2 : last < x := by omega
        simp [q1, q2]; exact this
      · by_cases q2 : last < x
        · simp [q1, q2]; omega
        · simp [q1, q2]; exact this
end Go.Proofs.YtlbhnfnecfllkaaGreat

namespace Go.Proofs.YtlbhnfnecfllkaaGreat
open Go.RowKit
set_option linter.unusedSimpArgs false
set_option linter.unusedVariables false

set_option maxHeartbeats 1000000 in
set_option maxRecDepth 100000 in
theorem day_ref4 (w : World) (A : Option Addr) (n c : Nat) (z : Zone) (hx : In w A n c z.shifts) (hz : zoneErr z = 0) (t : Int) (ht0 : 0 ≤ t) (ht1 : t ≤ 575999999) :
    Calls Tryz.prog 129 #[.agg #[.string z.name, .int .i64 z.offset, .slice A n c], .int .i64 t] w fun e w' => e = .returned (.int .i64 (rday z t)) ∧ Below w.heap.size w w' := by
  have HB1 := hide (zone_bd hz).2
  have HZ := hide hz
  have h63 := hx.le
  have HD : Hid (rday z t = rdayFrom z t z.shifts (max 0 (rloc z t))) := hide rfl
  clear hz
  go_enter Tryz.func129, Tryz.ntmps129
  go_wp2_with fail
  refine (local_ref4 _ A n c z (hx.below below_alloc) HZ.out t (by omega) (by omega)).mono ?_
  rintro e w1 ⟨rfl, hb1⟩
  have hbb := below_trans below_alloc hb1
  have g0 := bat (b := w.heap.size) (o := 0) (v := .string z.name) hb1 (by simp) (by simp [go_sem])
  have g1 := bat (b := w.heap.size) (o := 1) (v := .int .i64 z.offset) hb1 (by simp) (by simp [go_sem])
  have g2 := bat (b := w.heap.size) (o := 2) (v := .slice A n c) hb1 (by simp) (by simp [go_sem])
  have hl1 : w.heap.size < w1.heap.size := lt_of_cell g0
  clear hb1
  go_wp2
  all_goals
    go_loopw [5, 6] (fun d i wr => ∃ (k : Nat) (q : Int), k ≤ n ∧ i = .int .i64 k ∧ d = .int .i64 q ∧ rdayFrom z t z.shifts (max 0 (rloc z t)) = rdayFrom z t (z.shifts.drop k) q ∧ Below w1.heap.size w1 wr) (fun _ i _ => n - (intOf i).toNat)
    case atStart => exact ⟨0, _, Nat.zero_le _, rfl, rfl, by first | rfl | (rw [List.drop_zero]; congr 1; omega), Below.refl _ _⟩
    case round =>
      obtain ⟨k, q, hk, rfl, rfl, heq, hb⟩ := hrel
      have HE := hide heq
      have HB := hide hb
      have p0 := bat hb hl1 g0
      have p1 := bat hb hl1 g1
      have p2 := bat hb hl1 g2
      have hlr : w.heap.size < wr.heap.size := lt_of_cell p0
      clear heq hb
      by_cases hlt : k < n
      · obtain ⟨b, off, x, rfl, hBk, HX, f0, f1, f2, f3⟩ := (hx.below (below_trans hbb HB.out)).shift hlt
        have hxb := HB1.out x (List.mem_of_mem_drop (i := k) (by rw [HX.out]; simp))
        obtain ⟨_, _, x1, x2⟩ := hxb
        have k0 : (0 : Int) ≤ (k : Int) := by omega
        have k1 : (k : Int) < (n : Int) := by omega
        have hw : IntKind.i64.wrap (x.at_ - 1) = x.at_ - 1 := IntWalk.i64_in _ (by omega)
        by_cases hs : x.at_ ≤ t
        · have HN : Hid (rdayFrom z t z.shifts (max 0 (rloc z t)) = rdayFrom z t (z.shifts.drop (k + 1)) (max q (rloc z (x.at_ - 1)))) := hide (by rw [HE.out, HX.out, rdayFrom, if_pos hs])
          go_wp2
          go_region_held3 (fun V => V.cell? ⟨w.heap.size, 0, none⟩ = some (.string z.name) ∧ V.cell? ⟨w.heap.size, 1, none⟩ = some (.int .i64 z.offset) ∧ V.cell? ⟨w.heap.size, 2, none⟩ = some (.slice (some ⟨b, off, none⟩) n c) ∧ V.cell? ⟨b, off + k * 2, none⟩ = some (.int .i64 x.at_)) (first | exact ⟨p0, p1, p2, f0⟩ | exact ⟨bat hq2 hlr p0, bat hq2 hlr p1, bat hq2 hlr p2, bat hq2 hBk f0⟩) (first | (go_at_call 140; (try rw [hw]); refine (local_ref4 _ _ n c z (hx.below ((below_trans hbb HB.out).drew)) HZ.out (x.at_ - 1) (by omega) (by omega)).mono ?_; rintro e w2 ⟨rfl, hb2⟩; have hq2 := below_undrew hb2; clear hb2))
          have HB2 := hide (below_trans HB.out hq2)
          go_wp2
          all_goals
            go_roundw
            case rel => exact ⟨k + 1, _, by omega, by go_num, rfl, by first | exact HN.out | (rw [HN.out]; congr 1; omega), HB2.out⟩
            case measure => simp [intOf]; omega
        · have HN : Hid (rdayFrom z t z.shifts (max 0 (rloc z t)) = rdayFrom z t (z.shifts.drop (k + 1)) q) := hide (by rw [HE.out, HX.out, rdayFrom, if_neg hs])
          go_wp2
          go_roundw
          case rel => exact ⟨k + 1, q, by omega, by go_num, rfl, HN.out, HB.out⟩
          case measure => simp [intOf]; omega
      · go_wp2
        go_ret
        exact ⟨ret_int (by rw [HD.out, HE.out, drop_end hx.len (by omega), rdayFrom]), below_trans hbb HB.out⟩
end Go.Proofs.YtlbhnfnecfllkaaGreat

namespace Go.Proofs.YtlbhnfnecfllkaaGreat
open Go.RowKit
set_option linter.unusedSimpArgs false
set_option linter.unusedVariables false

set_option maxHeartbeats 1000000 in
set_option maxRecDepth 100000 in
theorem dayAt_any (w : World) (A : Option Addr) (n c : Nat) (z : Zone) (hx : In w A n c z.shifts) (hz : zoneErr z = 0) (t : Int) (ht0 : 0 ≤ t) (ht1 : t ≤ 575999999) :
    Calls Tryz.prog 91 #[.agg #[.string z.name, .int .i64 z.offset, .slice A n c], .int .i64 t] w fun e w' => e = .returned (.int .i64 (dayAt z t)) ∧ Below w.heap.size w w' := by
  have HB1 := hide (zone_bd hz).2
  have hoff := (zone_bd hz).1
  have h63 := hx.le
  obtain ⟨nm, off0, xs⟩ := z
  simp only at hx hoff ⊢
  have HD : Hid (dayAt ⟨nm, off0, xs⟩ t = dayFrom t xs 0 off0) := hide rfl
  clear hz
  go_enter Tryz.func91, Tryz.ntmps91
  go_wp2
  obtain ⟨w1, hw1⟩ : ∃ w1, w1 = w.alloc (.cells #[.string nm, .int .i64 off0, .slice A n c] 25) := ⟨_, rfl⟩
  have g0 : w1.cell? ⟨w.heap.size, 0, none⟩ = some (.string nm) := by rw [hw1]; simp [go_sem]
  have g1 : w1.cell? ⟨w.heap.size, 1, none⟩ = some (.int .i64 off0) := by rw [hw1]; simp [go_sem]
  have g2 : w1.cell? ⟨w.heap.size, 2, none⟩ = some (.slice A n c) := by rw [hw1]; simp [go_sem]
  have hb1 : Below w.heap.size w w1 := by rw [hw1]; exact below_alloc
  rw [← hw1]
  clear hw1
  go_quiet (fail)
  go_wp2
  go_loopw [5, 6, 14] (fun d o i wr => ∃ (k : Nat) (q r : Int), k ≤ n ∧ i = .int .i64 k ∧ d = .int .i64 q ∧ o = .int .i64 r ∧ (-840 ≤ r ∧ r ≤ 840) ∧ dayFrom t xs 0 off0 = dayFrom t (xs.drop k) q r ∧ Below w.heap.size w wr) (fun _ _ i _ => n - (intOf i).toNat)
  case atStart => exact ⟨0, 0, off0, Nat.zero_le _, rfl, rfl, rfl, hoff, rfl, below_drewN hb1 _⟩
  case round =>
    obtain ⟨k, q, r, hk, rfl, rfl, rfl, ⟨hr0, hr1⟩, heq, hb⟩ := hrel
    have HE := hide heq
    have HB := hide hb
    clear heq hb
    by_cases hlt : k < n
    · obtain ⟨b, off, x, rfl, hBk, HX, f0, f1, f2, f3⟩ := (hx.below HB.out).shift hlt
      obtain ⟨x1, x2, x3, x4⟩ := HB1.out x (List.mem_of_mem_drop (i := k) (by rw [HX.out]; simp))
      have k0 : (0 : Int) ≤ (k : Int) := by omega
      have k1 : (k : Int) < (n : Int) := by omega
      have hw : IntKind.i64.wrap (x.at_ - 1) = x.at_ - 1 := IntWalk.i64_in _ (by omega)
      by_cases hs : t < x.at_
      · have HN : Hid (dayFrom t xs 0 off0 = max q (localDay t r)) := hide (by rw [HE.out, HX.out, dayFrom, if_pos hs])
        go_wp2_with (go_at_call 125; refine (local_any _ _ (by omega) (by omega) hr0 hr1 _).mono ?_; rintro e w' ⟨rfl, rfl⟩)
        all_goals
          go_ret
          exact ⟨ret_int (by rw [HD.out, HN.out]; first | rfl | omega), below_trans HB.out below_alloc⟩
      · have HN : Hid (dayFrom t xs 0 off0 = dayFrom t (xs.drop (k + 1)) (max q (localDay (x.at_ - 1) r)) x.offset) := hide (by rw [HE.out, HX.out, dayFrom, if_neg hs])
        go_wp2
        go_region_held3 (fun V => V.cell? ⟨wr.heap.size, 0, none⟩ = some (.int .i64 x.at_) ∧ V.cell? ⟨wr.heap.size, 1, none⟩ = some (.int .i64 x.offset)) (first | go_keep | fail) (first | (go_at_call 125; (try rw [hw]); refine (local_any _ _ (by omega) (by omega) hr0 hr1 _).mono ?_; rintro e w' ⟨rfl, rfl⟩))
        go_wp2
        all_goals
          go_roundw
          case rel => exact ⟨k + 1, _, _, by omega, by go_num, rfl, rfl, ⟨x1, x2⟩, by first | exact HN.out | (rw [HN.out]; congr 1; omega), below_drewN (below_trans HB.out below_alloc) _⟩
          case measure => simp [intOf]; omega
    · have HN : Hid (dayFrom t xs 0 off0 = max q (localDay t r)) := hide (by rw [HE.out, drop_end hx.len (by omega), dayFrom])
      go_wp2_with (go_at_call 125; refine (local_any _ _ (by omega) (by omega) hr0 hr1 _).mono ?_; rintro e w' ⟨rfl, rfl⟩)
      all_goals
        go_ret
        exact ⟨ret_int (by rw [HD.out, HN.out]; first | rfl | omega), HB.out⟩
set_option maxHeartbeats 1000000 in
set_option maxRecDepth 100000 in
theorem day_any (w : World) (A : Option Addr) (n c : Nat) (z : Zone) (hx : In w A n c z.shifts) (ho : I64 z.offset) (t : Int) :
    Calls Tryz.prog 63 #[.agg #[.string z.name, .int .i64 z.offset, .slice A n c], .int .i64 t] w fun e w' => e = .returned (.tuple #[.int .i64 (dayS z t).1, .int .i64 (dayS z t).2]) ∧ Below w.heap.size w w' := by
  go_enter Tryz.func63, Tryz.ntmps63
  go_wp2_with fail
  refine (zcheck_any _ A n c z (hx.below below_alloc) ho t).mono ?_
  rintro e w1 ⟨rfl, hb1⟩
  have hbb := below_trans below_alloc hb1
  have g0 := bat (b := w.heap.size) (o := 0) (v := .string z.name) hb1 (by simp) (by simp [go_sem])
  have g1 := bat (b := w.heap.size) (o := 1) (v := .int .i64 z.offset) hb1 (by simp) (by simp [go_sem])
  have g2 := bat (b := w.heap.size) (o := 2) (v := .slice A n c) hb1 (by simp) (by simp [go_sem])
  clear hb1
  by_cases h0 : dayErr z t = 0
  · have HD : Hid (dayS z t = (dayAt z t, 0)) := hide (by rw [dayS, if_neg (by simp [h0])])
    have h1 : zoneErr z = 0 ∧ 0 ≤ t ∧ t ≤ 575999999 := by
      rw [dayErr] at h0
      split at h0
      · omega
      · split at h0
        · omega
        · omega
    obtain ⟨h1, h2, h3⟩ := h1
    have H1 := hide h1
    rw [h0]
    clear h0 h1
    go_wp2_with fail
    refine (dayAt_any _ A n c z (hx.below hbb) H1.out t h2 h3).mono ?_
    rintro e w2 ⟨rfl, hb2⟩
    go_wp2
    go_ret2
    exact ⟨by rw [HD.out]; rfl, below_trans hbb hb2⟩
  · have HD : Hid (dayS z t = (0, dayErr z t)) := hide (by rw [dayS, if_pos h0])
    have q : (dayErr z t != 0) = true := by simpa using h0
    clear h0
    go_wp2
    go_ret2
    exact ⟨by rw [HD.out]; rfl, hbb⟩
set_option maxHeartbeats 1000000 in
set_option maxRecDepth 100000 in
theorem day_ref (w : World) (A : Option Addr) (n c : Nat) (z : Zone) (hx : In w A n c z.shifts) (ho : I64 z.offset) (t : Int) :
    Calls Tryz.prog 98 #[.agg #[.string z.name, .int .i64 z.offset, .slice A n c], .int .i64 t] w fun e w' => e = .returned (.tuple #[.int .i64 (dayS z t).1, .int .i64 (dayS z t).2]) ∧ Below w.heap.size w w' := by
  go_enter Tryz.func98, Tryz.ntmps98
  go_wp2_with fail
  refine (zcheck_ref _ A n c z (hx.below below_alloc) ho t).mono ?_
  rintro e w1 ⟨rfl, hb1⟩
  have hbb := below_trans below_alloc hb1
  have g0 := bat (b := w.heap.size) (o := 0) (v := .string z.name) hb1 (by simp) (by simp [go_sem])
  have g1 := bat (b := w.heap.size) (o := 1) (v := .int .i64 z.offset) hb1 (by simp) (by simp [go_sem])
  have g2 := bat (b := w.heap.size) (o := 2) (v := .slice A n c) hb1 (by simp) (by simp [go_sem])
  clear hb1
  by_cases h0 : dayErr z t = 0
  · have h1 : zoneErr z = 0 ∧ 0 ≤ t ∧ t ≤ 575999999 := by
      rw [dayErr] at h0
      split at h0
      · omega
      · split at h0
        · omega
        · omega
    obtain ⟨h1, h2, h3⟩ := h1
    have HD : Hid (dayS z t = (rday z t, 0)) := hide (by rw [dayS, if_neg (by simp [h0]), day_eq h1])
    have H1 := hide h1
    rw [h0]
    clear h0 h1
    go_wp2_with fail
    refine (day_ref4 _ A n c z (hx.below hbb) H1.out t h2 h3).mono ?_
    rintro e w2 ⟨rfl, hb2⟩
    go_wp2
    go_ret2
    exact ⟨by rw [HD.out]; rfl, below_trans hbb hb2⟩
  · have HD : Hid (dayS z t = (0, dayErr z t)) := hide (by rw [dayS, if_pos h0])
    have q : (dayErr z t != 0) = true := by simpa using h0
    clear h0
    go_wp2
    go_ret2
    exact ⟨by rw [HD.out]; rfl, hbb⟩
end Go.Proofs.YtlbhnfnecfllkaaGreat

namespace Go.Proofs.YtlbhnfnecfllkaaGreat
open Go.RowKit
set_option linter.unusedSimpArgs false
set_option linter.unusedVariables false

theorem findS_cols {cols : List Col} {col : ByteArray} {z : Zone} (h : ¬ colsErr cols = 0) : findS cols col z = (-1, colsErr cols) := by rw [findS, if_pos h]
theorem findS_none {cols : List Col} {col : ByteArray} {z : Zone} (h : colsErr cols = 0) (h1 : noStr col = true) : findS cols col z = (-1, 0) := by rw [findS, if_neg (by simp [h]), if_pos h1]
theorem findS_unknown {cols : List Col} {col : ByteArray} {z : Zone} (h : colsErr cols = 0) (h1 : ¬ noStr col = true) (h2 : index cols col < 0) : findS cols col z = (-1, 5) := by rw [findS, if_neg (by simp [h]), if_neg h1, if_pos h2]
theorem findS_type {cols : List Col} {col : ByteArray} {z : Zone} (h : colsErr cols = 0) (h1 : ¬ noStr col = true) (h2 : ¬ index cols col < 0) (h3 : (cols.getD (index cols col).toNat default).kind ≠ 4 ∧ (cols.getD (index cols col).toNat default).kind ≠ 2) : findS cols col z = (-1, 7) := by
  rw [findS, if_neg (by simp [h]), if_neg h1, if_neg h2, if_pos h3]
theorem findS_ok {cols : List Col} {col : ByteArray} {z : Zone} (h : colsErr cols = 0) (h1 : ¬ noStr col = true) (h2 : ¬ index cols col < 0) (h3 : ¬ ((cols.getD (index cols col).toNat default).kind ≠ 4 ∧ (cols.getD (index cols col).toNat default).kind ≠ 2)) : findS cols col z = (index cols col, zoneErr z) := by
  rw [findS, if_neg (by simp [h]), if_neg h1, if_neg h2, if_neg h3]
theorem indexP_range (name : ByteArray) : ∀ (l : List Col) (k : Nat), indexFrom name k l = -1 ∨ ((k : Int) ≤ indexFrom name k l ∧ indexFrom name k l < k + l.length)
  | [], k => .inl rfl
  | z :: l, k => by
    rw [indexFrom]
    split
    · exact .inr ⟨Int.le_refl _, by simp only [List.length_cons]; omega⟩
    · rcases indexP_range name l (k + 1) with h | ⟨h1, h2⟩
      · exact .inl h
      · exact .inr ⟨by omega, by simp only [List.length_cons]; omega⟩
theorem indexP_at {cols : List Col} {name : ByteArray} (h : ¬ index cols name < 0) : ∃ i : Nat, index cols name = (i : Int) ∧ i < cols.length := by
  rcases indexP_range name cols 0 with hr | ⟨h1, h2⟩
  · exact absurd (by rw [index, hr]; omega) h
  · exact ⟨(index cols name).toNat, by rw [index] at *; omega, by rw [index]; omega⟩
set_option maxHeartbeats 2000000 in
set_option maxRecDepth 100000 in
theorem findP_any (w : World) (A1 : Option Addr) (n1 c1 : Nat) (cols : List Col) (hc : In w A1 n1 c1 cols) (col : ByteArray) (A : Option Addr) (n c : Nat) (z : Zone) (hx : In w A n c z.shifts) (ho : I64 z.offset) :
    Calls Tryz.prog 60 #[.slice A1 n1 c1, .string col, .agg #[.string z.name, .int .i64 z.offset, .slice A n c]] w fun e w' => e = .returned (.tuple #[.int .i64 (findS cols col z).1, .int .i64 (findS cols col z).2]) ∧ Below w.heap.size w w' := by
  have h64 := hc.le
  go_enter Tryz.func60, Tryz.ntmps60
  go_wp2_with fail
  refine (cols_any _ _ _ _ cols (hc.below below_alloc)).mono ?_
  rintro e w1 ⟨rfl, hb1⟩
  have f0 : w1.cell? ⟨w.heap.size, 0, none⟩ = some (.string z.name) := bat hb1 (by simp) (by simp [go_sem])
  have f1 : w1.cell? ⟨w.heap.size, 1, none⟩ = some (.int .i64 z.offset) := bat hb1 (by simp) (by simp [go_sem])
  have f2 : w1.cell? ⟨w.heap.size, 2, none⟩ = some (.slice A n c) := bat hb1 (by simp) (by simp [go_sem])
  have hg := lt_of_cell f0
  have bb1 := below_trans below_alloc hb1
  clear hb1
  obtain ⟨ce, hce⟩ : ∃ q, colsErr cols = q := ⟨_, rfl⟩
  have HCE := hide hce
  rw [hce]
  clear hce
  by_cases h0 : ¬ ce = 0
  · have HN : Hid (findS cols col z = (-1, ce)) := hide (by rw [← HCE.out]; exact findS_cols (by rw [HCE.out]; exact h0))
    have q : (ce != 0) = true := by simpa using h0
    clear h0
    go_wp2
    go_ret2
    exact ⟨by rw [HN.out]; rfl, bb1⟩
  replace h0 : ce = 0 := by omega
  subst h0
  cases hcl : col.toList.isEmpty
  · go_wp2_with fail
    refine (index_any _ _ _ _ cols (hc.below bb1) col).mono ?_
    rintro e w2 ⟨rfl, hb2⟩
    have f0 := bat hb2 hg f0
    have f1 := bat hb2 hg f1
    have f2 := bat hb2 hg f2
    have bb2 := below_trans bb1 hb2
    have HCL : Hid (¬ noStr col = true) := hide (by rw [noStr, hcl]; simp)
    clear hb2 bb1 hg
    by_cases hi : index cols col < 0
    · have HN : Hid (findS cols col z = (-1, 5)) := hide (findS_unknown HCE.out HCL.out hi)
      obtain ⟨ix, hix⟩ : ∃ q, index cols col = q := ⟨_, rfl⟩
      rw [hix] at hi
      rw [hix]
      clear hix
      go_wp2
      go_ret2
      exact ⟨by rw [HN.out]; rfl, bb2⟩
    · obtain ⟨i, e1, e2⟩ := indexP_at hi
      have hin : i < n1 := by rw [← hc.len]; exact e2
      obtain ⟨b, off, x, rfl, hB, HX, g0, g1, g2, _⟩ := (hc.below bb2).col hin
      have HI := hide hi
      have HE := hide e1
      have HG : Hid (cols.getD (index cols col).toNat default = x) := hide (by rw [e1, Int.toNat_natCast, List.getD, (drop_get HX.out).1]; rfl)
      rw [e1]
      have i0 : (0 : Int) ≤ (i : Int) := by omega
      have i1 : (i : Int) < (n1 : Int) := by omega
      clear hi e1 e2
      by_cases hk : x.kind ≠ 4 ∧ x.kind ≠ 2
      · have HN : Hid (findS cols col z = (-1, 7)) := hide (findS_type HCE.out HCL.out HI.out (by rw [HG.out]; exact hk))
        have q1 : (x.kind != 4) = true := by simpa using hk.1
        have q2 : (x.kind != 2) = true := by simpa using hk.2
        clear hk
        go_wp2
        go_ret2
        exact ⟨by rw [HN.out]; rfl, bb2⟩
      · have HN : Hid (findS cols col z = ((i : Int), zoneErr z)) := hide (by rw [findS_ok HCE.out HCL.out HI.out (by rw [HG.out]; exact hk), HE.out])
        by_cases h4 : x.kind = 4
        · have q1 : (x.kind != 4) = false := by simp [h4]
          clear hk h4
          go_wp2_with fail
          refine (zone_any _ A n c z (hx.below bb2) ho).mono ?_
          rintro e w3 ⟨rfl, hb3⟩
          go_wp2
          go_ret2
          exact ⟨by rw [HN.out]; rfl, below_trans bb2 hb3⟩
        · have h2 : x.kind = 2 := by omega
          have q1 : (x.kind != 4) = true := by simpa using h4
          have q2 : (x.kind != 2) = false := by simp [h2]
          clear hk h4 h2
          go_wp2_with fail
          refine (zone_any _ A n c z (hx.below bb2) ho).mono ?_
          rintro e w3 ⟨rfl, hb3⟩
          go_wp2
          go_ret2
          exact ⟨by rw [HN.out]; rfl, below_trans bb2 hb3⟩
  · have HN : Hid (findS cols col z = (-1, 0)) := hide (findS_none HCE.out hcl)
    go_wp2
    go_ret2
    exact ⟨by rw [HN.out]; rfl, bb1⟩
set_option maxHeartbeats 2000000 in
set_option maxRecDepth 100000 in
theorem validateP_ref (w : World) (A1 : Option Addr) (n1 c1 : Nat) (cols : List Col) (hc : In w A1 n1 c1 cols) (col : ByteArray) (A : Option Addr) (n c : Nat) (z : Zone) (hx : In w A n c z.shifts) (ho : I64 z.offset) :
    Calls Tryz.prog 67 #[.slice A1 n1 c1, .string col, .agg #[.string z.name, .int .i64 z.offset, .slice A n c]] w fun e w' => e = .returned (.int .i64 (findS cols col z).2) ∧ Below w.heap.size w w' := by
  have h64 := hc.le
  go_enter Tryz.func67, Tryz.ntmps67
  go_wp2_with fail
  refine (cols_ref _ _ _ _ cols (hc.below below_alloc)).mono ?_
  rintro e w1 ⟨rfl, rfl⟩
  obtain ⟨ce, hce⟩ : ∃ q, colsErr cols = q := ⟨_, rfl⟩
  have HCE := hide hce
  rw [hce]
  clear hce
  by_cases h0 : ¬ ce = 0
  · have HN : Hid (findS cols col z = (-1, ce)) := hide (by rw [← HCE.out]; exact findS_cols (by rw [HCE.out]; exact h0))
    have q : (ce != 0) = true := by simpa using h0
    clear h0
    go_wp2
    go_ret
    exact ⟨by rw [HN.out]; rfl, below_alloc⟩
  replace h0 : ce = 0 := by omega
  subst h0
  cases hcl : col.toList.isEmpty
  · have HCL : Hid (¬ noStr col = true) := hide (by rw [noStr, hcl]; simp)
    go_wp2_with fail
    refine (index_ref _ _ _ _ cols (hc.below below_alloc) col).mono ?_
    rintro e w2 ⟨rfl, rfl⟩
    by_cases hi : index cols col < 0
    · have HN : Hid (findS cols col z = (-1, 5)) := hide (findS_unknown HCE.out HCL.out hi)
      obtain ⟨ix, hix⟩ : ∃ q, index cols col = q := ⟨_, rfl⟩
      rw [hix] at hi
      rw [hix]
      clear hix
      go_wp2
      go_ret
      exact ⟨by rw [HN.out]; rfl, below_alloc⟩
    · obtain ⟨i, e1, e2⟩ := indexP_at hi
      have hin : i < n1 := by rw [← hc.len]; exact e2
      obtain ⟨b, off, x, rfl, hB, HX, g0, g1, g2, _⟩ := (hc.below (below_alloc (o := .cells #[.string z.name, .int .i64 z.offset, .slice A n c] 25))).col hin
      have HI := hide hi
      have HE := hide e1
      have HG : Hid (cols.getD (index cols col).toNat default = x) := hide (by rw [e1, Int.toNat_natCast, List.getD, (drop_get HX.out).1]; rfl)
      rw [e1]
      have i0 : (0 : Int) ≤ (i : Int) := by omega
      have i1 : (i : Int) < (n1 : Int) := by omega
      clear hi e1 e2
      by_cases hk : x.kind ≠ 4 ∧ x.kind ≠ 2
      · have HN : Hid (findS cols col z = (-1, 7)) := hide (findS_type HCE.out HCL.out HI.out (by rw [HG.out]; exact hk))
        have q1 : (x.kind != 4) = true := by simpa using hk.1
        have q2 : (x.kind != 2) = true := by simpa using hk.2
        clear hk
        go_wp2
        go_ret
        exact ⟨by rw [HN.out]; rfl, below_alloc⟩
      · have HN : Hid (findS cols col z = ((i : Int), zoneErr z)) := hide (by rw [findS_ok HCE.out HCL.out HI.out (by rw [HG.out]; exact hk), HE.out])
        by_cases h4 : x.kind = 4
        · have q1 : (x.kind != 4) = false := by simp [h4]
          clear hk h4
          go_wp2_with fail
          refine (zone_ref _ A n c z (hx.below below_alloc) ho).mono ?_
          rintro e w3 ⟨rfl, hb3⟩
          go_wp2
          go_ret
          exact ⟨by rw [HN.out]; rfl, below_trans below_alloc hb3⟩
        · have h2 : x.kind = 2 := by omega
          have q1 : (x.kind != 4) = true := by simpa using h4
          have q2 : (x.kind != 2) = false := by simp [h2]
          clear hk h4 h2
          go_wp2_with fail
          refine (zone_ref _ A n c z (hx.below below_alloc) ho).mono ?_
          rintro e w3 ⟨rfl, hb3⟩
          go_wp2
          go_ret
          exact ⟨by rw [HN.out]; rfl, below_trans below_alloc hb3⟩
  · have HN : Hid (findS cols col z = (-1, 0)) := hide (findS_none HCE.out hcl)
    go_wp2
    go_ret
    exact ⟨by rw [HN.out]; rfl, below_alloc⟩
end Go.Proofs.YtlbhnfnecfllkaaGreat

namespace Go.Proofs.YtlbhnfnecfllkaaGreat
set_option linter.unusedVariables false
set_option linter.unusedSimpArgs false

/-- Add's answer. -/
def addS (xs ys : List Ent) : Int × List Ent := if bagErr xs ≠ 0 then (bagErr xs, []) else if bagErr ys ≠ 0 then (bagErr ys, []) else bagS (xs ++ ys)
/-- Normalize's answer. -/
def normS (xs : List Ent) : Int × List Ent := if firstErr (fun _ x => entErr x) 0 xs ≠ 0 then (firstErr (fun _ x => entErr x) 0 xs, []) else bagS xs
/-- The entries with given days. -/
def pickR (at_ : Int) (z : Zone) (rows : List Ent) (days : List Int) : List Ent := rows.filter fun x => days.contains (dayRow at_ z x.row)
def pickS (cols : List Col) (col : ByteArray) (z : Zone) (rows : List Ent) (days : List Int) : Int × List Ent :=
  if schemeErr cols col z rows ≠ 0 then (schemeErr cols col z rows, []) else (0, pickR (findS cols col z).1 z rows days)
/-- The entries of all days but one. -/
def restR (at_ : Int) (z : Zone) (rows : List Ent) (d : Int) : List Ent := rows.filter fun x => dayRow at_ z x.row != d
def replS (cols : List Col) (col : ByteArray) (z : Zone) (rows : List Ent) (d : Int) (part : List Ent) : Int × List Ent :=
  if schemeErr cols col z rows ≠ 0 then (schemeErr cols col z rows, []) else if schemeErr cols col z part ≠ 0 then (schemeErr cols col z part, [])
  else if (part.any fun x => dayRow (findS cols col z).1 z x.row != d) = true then (8, []) else bagS (restR (findS cols col z).1 z rows d ++ part)
/-- The days for which two bags differ. -/
def IsChanged (at_ : Int) (z : Zone) (old new : List Ent) (ds : List Int) : Prop :=
  Asc ds ∧ ∀ d, d ∈ ds ↔ ofDay at_ z old d ≠ ofDay at_ z new d
theorem IsChanged.unique {at_ : Int} {z : Zone} {old new : List Ent} {ds es : List Int} (h : IsChanged at_ z old new ds) (h' : IsChanged at_ z old new es) : ds = es :=
  asc_unique h.1 h'.1 fun d => by rw [h.2, h'.2]
theorem bagErr_filter {b : List Ent} (h : bagErr b = 0) (p : Ent → Bool) : bagErr (b.filter p) = 0 := by
  obtain ⟨h1, h2, h3⟩ := bagErr_iff.1 h
  exact bagErr_iff.2 ⟨Nat.le_trans (List.length_filter_le _ _) h1, fun x hx => h2 x (List.mem_filter.1 hx).1, h3.filter p⟩
theorem ents_ok {xs : List Ent} : firstErr (fun _ x => entErr x) 0 xs = 0 ↔ ∀ x ∈ xs, entErr x = 0 := by
  rw [fe_zero]
  constructor
  · intro h x hx
    obtain ⟨j, hj⟩ := List.mem_iff_getElem?.1 hx
    exact h j x hj
  · intro h j x hx
    exact h x (List.mem_iff_getElem?.2 ⟨j, hx⟩)
theorem normS_ok {xs : List Ent} (h : ∀ x ∈ xs, entErr x = 0) : normS xs = bagS xs := by
  rw [normS, if_neg (by rw [ents_ok.2 h]; simp)]
theorem bag_ents {b : List Ent} (h : bagErr b = 0) : ∀ x ∈ b, entErr x = 0 := fun x hx => ((bagErr_iff.1 h).2.1 x hx).1
theorem addS_norm {xs ys : List Ent} (h : bagErr xs = 0) (h' : bagErr ys = 0) : addS xs ys = normS (xs ++ ys) := by
  rw [addS, if_neg (by simpa using h), if_neg (by simpa using h'), normS_ok]
  intro x hx
  rcases List.mem_append.1 hx with hx | hx
  · exact bag_ents h x hx
  · exact bag_ents h' x hx
/-- The two parts of a bag are together the bag. -/
theorem addS_parts {b : List Ent} (h : bagErr b = 0) (p q : Ent → Bool) (hpq : ∀ x ∈ b, q x = !p x) : addS (b.filter p) (b.filter q) = (0, b) := by
  rw [addS, if_neg (by simpa using bagErr_filter h p), if_neg (by simpa using bagErr_filter h q)]
  rw [show b.filter q = b.filter fun x => !p x from List.filter_congr hpq]
  rw [bagS_congr (ys := b) fun r => by rw [cnt_app, ← cnt_filter_split], bagS_bag h]
theorem pickR_parts {at_ : Int} {z : Zone} {b : List Ent} (h : bagErr b = 0) {ins outs : List Int} (h1 : ∀ d ∈ daysR at_ z b, (d ∈ ins ∧ d ∉ outs) ∨ (d ∉ ins ∧ d ∈ outs)) :
    addS (pickR at_ z b ins) (pickR at_ z b outs) = (0, b) := by
  refine addS_parts h _ _ fun x hx => ?_
  rcases h1 _ (List.mem_map.2 ⟨x, hx, rfl⟩) with ⟨a, c⟩ | ⟨a, c⟩
  · rw [show ins.contains (dayRow at_ z x.row) = true by simpa using a, show outs.contains (dayRow at_ z x.row) = false by simpa using c]; rfl
  · rw [show ins.contains (dayRow at_ z x.row) = false by simpa using a, show outs.contains (dayRow at_ z x.row) = true by simpa using c]; rfl
/-! ### Replacing the changed days -/
theorem cnt_filter_of {p : Ent → Bool} {l : List Ent} {r : List Val} (h : ∀ x ∈ l, x.row = r → p x = true) : cnt (l.filter p) r = cnt l r := by
  induction l with
  | nil => rfl
  | cons x l ih =>
    have ih := ih fun y hy => h y (by simp [hy])
    by_cases q : p x = true
    · rw [List.filter_cons_of_pos q, cnt, cnt, ih]
    · rw [List.filter_cons_of_neg q, cnt, ih, if_neg]
      · omega
      · intro e; exact q (h x (by simp) (cr_zero.1 e))
theorem cnt_filter_no {p : Ent → Bool} {l : List Ent} {r : List Val} (h : ∀ x ∈ l, x.row = r → p x = false) : cnt (l.filter p) r = 0 := by
  refine cnt_none fun x hx e => ?_
  obtain ⟨h1, h2⟩ := List.mem_filter.1 hx
  rw [h x h1 (cr_zero.1 e)] at h2
  cases h2
theorem cnt_restR {at_ : Int} {z : Zone} {l : List Ent} {d : Int} {r : List Val} : cnt (restR at_ z l d) r = if dayRow at_ z r = d then 0 else cnt l r := by
  split
  · rename_i h; exact cnt_filter_no fun x _ e => by rw [e, h]; simp
  · rename_i h; exact cnt_filter_of fun x _ e => by rw [e]; simpa using h
theorem cnt_ofDay {at_ : Int} {z : Zone} {l : List Ent} {d : Int} {r : List Val} : cnt (ofDay at_ z l d) r = if dayRow at_ z r = d then cnt l r else 0 := by
  split
  · rename_i h; exact cnt_filter_of fun x _ e => by rw [e]; simpa using h
  · rename_i h; exact cnt_filter_no fun x _ e => by rw [e]; simpa using h
theorem pickR_one {at_ : Int} {z : Zone} {l : List Ent} {d : Int} : pickR at_ z l [d] = ofDay at_ z l d := by
  refine List.filter_congr fun x _ => ?_
  by_cases h : dayRow at_ z x.row = d
  · simp [h]
  · have : ¬ d = dayRow at_ z x.row := fun e => h e.symm
    simp [h]
/-- Where the days that have been replaced lie in 'now', all others as of old. -/
structure Mixed (at_ : Int) (z : Zone) (old new now : List Ent) (done : List Int) : Prop where
  bag : bagErr now = 0
  cnt : ∀ r, cnt now r = if dayRow at_ z r ∈ done then cnt new r else cnt old r
theorem Mixed.start {at_ : Int} {z : Zone} {old new : List Ent} (h : bagErr old = 0) : Mixed at_ z old new old [] := ⟨h, fun r => by simp⟩
theorem bag_noz {b : List Ent} (h : bagErr b = 0) : NoZ b := fun x hx => ((bagErr_iff.1 h).2.1 x hx).2
theorem bag_asc {b : List Ent} (h : bagErr b = 0) : AscE b := (bagErr_iff.1 h).2.2
theorem bag_ext {a b : List Ent} (h : bagErr a = 0) (h' : bagErr b = 0) (hc : ∀ r, Proofs.YtlbhnfnecfllkaaGreat.cnt a r = Proofs.YtlbhnfnecfllkaaGreat.cnt b r) : a = b := asc_ext (bag_asc h) (bag_asc h') (bag_noz h) (bag_noz h') hc
theorem mem_cnt {b : List Ent} (h : bagErr b = 0) {r : List Val} : Proofs.YtlbhnfnecfllkaaGreat.cnt b r ≠ 0 ↔ ∃ x ∈ b, x.row = r := by
  constructor
  · intro q
    by_cases g : ∃ x ∈ b, x.row = r
    · exact g
    · exact absurd (cnt_none fun x hx e => g ⟨x, hx, cr_zero.1 e⟩) q
  · rintro ⟨x, hx, rfl⟩
    rw [(bag_asc h).mem hx]
    exact bag_noz h x hx
theorem ofDay_ext {at_ : Int} {z : Zone} {a b : List Ent} (h : bagErr a = 0) (h' : bagErr b = 0) {d : Int} (hc : ∀ r, dayRow at_ z r = d → Proofs.YtlbhnfnecfllkaaGreat.cnt a r = Proofs.YtlbhnfnecfllkaaGreat.cnt b r) : ofDay at_ z a d = ofDay at_ z b d :=
  bag_ext (bagErr_filter h _) (bagErr_filter h' _) fun r => by
    show Proofs.YtlbhnfnecfllkaaGreat.cnt (ofDay at_ z a d) r = Proofs.YtlbhnfnecfllkaaGreat.cnt (ofDay at_ z b d) r
    rw [cnt_ofDay, cnt_ofDay]
    split
    · rename_i q; exact hc r q
    · rfl
/-- Before all changed days are replaced, 'now' is not the new bag. -/
theorem Mixed.ne {at_ : Int} {z : Zone} {old new now : List Ent} {ds done l : List Int} {d : Int} (h : Mixed at_ z old new now done) (ho : bagErr old = 0) (hn : bagErr new = 0) (hc : IsChanged at_ z old new ds) (e : ds = done ++ d :: l) : now ≠ new := by
  rintro rfl
  have h1 := (hc.2 d).1 (by rw [e]; simp)
  apply h1
  refine ofDay_ext ho hn fun r hr => ?_
  have h2 := h.cnt r
  rw [if_neg] at h2
  · exact h2.symm
  · rw [hr]
    intro q
    have := hc.1
    rw [e] at this
    have := (List.pairwise_append.1 this).2.2 d q d (by simp)
    omega
theorem Mixed.fin {at_ : Int} {z : Zone} {old new now : List Ent} {ds : List Int} (h : Mixed at_ z old new now ds) (ho : bagErr old = 0) (hn : bagErr new = 0) (hc : IsChanged at_ z old new ds) : now = new := by
  refine bag_ext h.bag hn fun r => ?_
  rw [h.cnt]
  split
  · rfl
  · rename_i q
    rw [hc.2] at q
    have q : ofDay at_ z old (dayRow at_ z r) = ofDay at_ z new (dayRow at_ z r) := by
      by_cases g : ofDay at_ z old (dayRow at_ z r) = ofDay at_ z new (dayRow at_ z r)
      · exact g
      · exact absurd g q
    have := congrArg (fun l => Proofs.YtlbhnfnecfllkaaGreat.cnt l r) q
    simpa [cnt_ofDay] using this
theorem len_cnt {b : List Ent} (h : AscE b) (hz : NoZ b) {l : List Ent} (hl : ∀ r, Proofs.YtlbhnfnecfllkaaGreat.cnt b r ≠ 0 → ∃ x ∈ l, x.row = r) : b.length ≤ l.length := by
  have hnd : (b.map Ent.row).Nodup := by
    rw [List.nodup_iff_pairwise_ne, List.pairwise_map]
    refine h.imp fun {x y} q e => ?_
    rw [e, cr_zero.2 rfl] at q
    omega
  have hsub : ∀ r ∈ b.map Ent.row, r ∈ l.map Ent.row := fun r hr => by
    obtain ⟨x, hx, rfl⟩ := List.mem_map.1 hr
    obtain ⟨y, hy, e⟩ := hl x.row (by rw [h.mem hx]; exact hz x hx)
    exact List.mem_map.2 ⟨y, hy, e⟩
  have := hnd.length_le_of_subset hsub
  simpa using this
theorem Mixed.rows {at_ : Int} {z : Zone} {old new now : List Ent} {done : List Int} (h : Mixed at_ z old new now done) : ∀ x ∈ now, ∃ y ∈ old ++ new, y.row = x.row := fun x hx => by
  have h1 := (mem_cnt h.bag (r := x.row)).2 ⟨x, hx, rfl⟩
  by_cases g : ∃ y ∈ old ++ new, y.row = x.row
  · exact g
  · exfalso
    rw [h.cnt] at h1
    apply h1
    split
    · exact cnt_none fun y hy e => g ⟨y, by simp [hy], cr_zero.1 e⟩
    · exact cnt_none fun y hy e => g ⟨y, by simp [hy], cr_zero.1 e⟩
theorem Mixed.len {at_ : Int} {z : Zone} {old new now : List Ent} {done : List Int} (h : Mixed at_ z old new now done) : now.length ≤ (old ++ new).length :=
  len_cnt (bag_asc h.bag) (bag_noz h.bag) fun r hr => by
    obtain ⟨x, hx, rfl⟩ := (mem_cnt h.bag).1 hr
    exact h.rows x hx
/-- One changed day more. -/
theorem Mixed.step {at_ : Int} {z : Zone} {old new now : List Ent} {done : List Int} {d : Int} (h : Mixed at_ z old new now done) (ho : bagErr old = 0) (hn : bagErr new = 0) (hl : (old ++ new).length ≤ 4096) :
    ∃ nx, bagS (restR at_ z now d ++ ofDay at_ z new d) = (0, nx) ∧ Mixed at_ z old new nx (done ++ [d]) := by
  have hc : ∀ r, Proofs.YtlbhnfnecfllkaaGreat.cnt (restR at_ z now d ++ ofDay at_ z new d) r = if dayRow at_ z r ∈ done ++ [d] then Proofs.YtlbhnfnecfllkaaGreat.cnt new r else Proofs.YtlbhnfnecfllkaaGreat.cnt old r := fun r => by
    rw [cnt_app, cnt_restR, cnt_ofDay, h.cnt]
    by_cases q : dayRow at_ z r = d
    · simp [q]
    · simp [q]
  have hok : ∀ x ∈ restR at_ z now d ++ ofDay at_ z new d, entErr x = 0 := fun x hx => by
    rcases List.mem_append.1 hx with hx | hx
    · exact bag_ents h.bag x (List.mem_filter.1 hx).1
    · exact bag_ents hn x (List.mem_filter.1 hx).1
  have herr : resErr 0 (keepF (sortL (restR at_ z now d ++ ofDay at_ z new d))) = false := by
    refine (resErr_iff _ 0 (keepF_noz _) (by omega)).2 ⟨fun x hx => ?_, ?_⟩
    · have h1 := (keepF_asc (sortL_asc _)).mem hx
      rw [keepF_cnt, sortL_cnt, hc] at h1
      have hx0 := keepF_noz _ x hx
      have : ∀ b : List Ent, bagErr b = 0 → Proofs.YtlbhnfnecfllkaaGreat.cnt b x.row = x.count → -65536 ≤ x.count ∧ x.count ≤ 65536 := fun b hb e => by
        obtain ⟨y, hy, e2⟩ := (mem_cnt hb (r := x.row)).1 (by rw [e]; exact hx0)
        have := (bag_asc hb).mem hy
        rw [e2, e] at this
        have := ent_cnt (bag_ents hb y hy)
        omega
      split at h1
      · exact this new hn h1
      · exact this old ho h1
    · have : (keepF (sortL (restR at_ z now d ++ ofDay at_ z new d))).length ≤ (old ++ new).length :=
        len_cnt (keepF_asc (sortL_asc _)) (keepF_noz _) fun r hr => by
          rw [keepF_cnt, sortL_cnt, hc] at hr
          by_cases g : ∃ y ∈ old ++ new, y.row = r
          · exact g
          · exfalso; apply hr
            split
            · exact cnt_none fun y hy e => g ⟨y, by simp [hy], cr_zero.1 e⟩
            · exact cnt_none fun y hy e => g ⟨y, by simp [hy], cr_zero.1 e⟩
      omega
  rw [resErr_keep] at herr
  have hb : bagS (restR at_ z now d ++ ofDay at_ z new d) = (0, keepF (sortL (restR at_ z now d ++ ofDay at_ z new d))) := by rw [bagS, herr]; simp
  have h1 := bagS_ok hok
  rw [hb] at h1
  exact ⟨_, hb, h1, fun r => by rw [keepF_cnt, sortL_cnt, hc]⟩
end Go.Proofs.YtlbhnfnecfllkaaGreat

namespace Go.Proofs.YtlbhnfnecfllkaaGreat
open Go.RowKit
set_option linter.unusedSimpArgs false
set_option linter.unusedVariables false

theorem In.part {w : World} {A : Option Addr} {n c k : Nat} {xs : List Partn} (h : In w A n c xs) (hk : k < n) : ∃ b off x, A = some ⟨b, off, none⟩ ∧ b < w.heap.size ∧ Hid (xs.drop k = x :: xs.drop (k + 1)) ∧
    ∃ A' n' c', w.cell? ⟨b, off + k * 2, none⟩ = some (.int .i64 x.day) ∧ w.cell? ⟨b, off + k * 2 + 1, none⟩ = some (.slice A' n' c') ∧ In w A' n' c' x.rows ∧ I64 x.day := by
  obtain ⟨b, off, x, e, hb, hx, cs, ⟨A', n', c', rfl, hs, hv⟩, hc⟩ := h.get hk
  exact ⟨b, off, x, e, hb, hx, A', n', c', hc 0 (by simp), hc 1 (by simp), hs, hv⟩
end Go.Proofs.YtlbhnfnecfllkaaGreat

namespace Go.Proofs.YtlbhnfnecfllkaaGreat
open Go.RowKit
set_option linter.unusedSimpArgs false
set_option linter.unusedVariables false

set_option maxHeartbeats 1000000 in
set_option maxRecDepth 100000 in
theorem start_clo (w : World) (A : Option Addr) (n c : Nat) (z : Zone) (hx : In w A n c z.shifts) (hz : zoneErr z = 0) (d t : Int) (zb db : Nat) (hzb : zb < w.heap.size) (hdb : db < w.heap.size) (z0 : w.cell? ⟨zb, 0, none⟩ = some (.string z.name)) (z1 : w.cell? ⟨zb, 1, none⟩ = some (.int .i64 z.offset)) (z2 : w.cell? ⟨zb, 2, none⟩ = some (.slice A n c)) (d0 : w.cell? ⟨db, 0, none⟩ = some (.int .i64 d)) (ht0 : 0 ≤ t) (ht1 : t ≤ 575999999) :
    Calls Tryz.prog 93 #[.int .i64 t, .pointer (some ⟨zb, 0, none⟩), .pointer (some ⟨db, 0, none⟩)] w fun e w' => e = .returned (.bool (decide (d ≤ dayAt z t))) ∧ Below w.heap.size w w' := by
  have HZ := hide hz
  clear hz
  go_enter Tryz.func93, Tryz.ntmps93
  go_wp2
  go_region_held3 (fun V => V.cell? ⟨zb, 0, none⟩ = some (.string z.name) ∧ V.cell? ⟨zb, 1, none⟩ = some (.int .i64 z.offset) ∧ V.cell? ⟨zb, 2, none⟩ = some (.slice A n c) ∧ V.cell? ⟨db, 0, none⟩ = some (.int .i64 d)) (first | exact ⟨z0, z1, z2, d0⟩ | exact ⟨bat hq2 hzb z0, bat hq2 hzb z1, bat hq2 hzb z2, bat hq2 hdb d0⟩) (first | (go_at_call 91; refine (dayAt_any _ A n c z (by first | exact hx | exact hx.below ((Below.refl _ _).drew)) HZ.out t ht0 ht1).mono ?_; rintro e w2 ⟨rfl, hb2⟩; have hq2 := below_undrew hb2; clear hb2))
  all_goals
    go_wp2
    go_ret
    exact ⟨rfl, hq2⟩

/-- What sort.Search asks of its function: it reads only, and tells p. -/
def Tells (P : Program) (g : FuncId) (caps : Array Value) (p : Int → Bool) (w0 : World) (m : Int) : Prop :=
  ∀ w t, Below w0.heap.size w0 w → 0 ≤ t → t < m → Calls P g (#[.int .i64 t] ++ caps) w fun e w' => e = .returned (.bool (p t)) ∧ Below w.heap.size w w'
theorem half_u64 {x : Int} (h0 : 0 ≤ x) (h1 : x ≤ 1152000000) : x / 2 ≤ 576000000 ∧ 0 ≤ x / 2 := ⟨by omega, by omega⟩

set_option maxHeartbeats 1000000 in
set_option maxRecDepth 100000 in
theorem search_any (w : World) (p : Int → Bool) (b1 b2 : Nat) (h : Tells Tryz.prog 93 #[.pointer (some ⟨b1, 0, none⟩), .pointer (some ⟨b2, 0, none⟩)] p w 576000000) :
    Calls Tryz.prog 92 #[.int .i64 576000000, .func (.func 93) #[] #[.pointer (some ⟨b1, 0, none⟩), .pointer (some ⟨b2, 0, none⟩)]] w fun e w' => e = .returned (.int .i64 (searchN p 576000001 0 576000000)) ∧ Below w.heap.size w w' := by
  have HT := hide h
  clear h
  generalize hS : searchN p 576000001 0 576000000 = S
  have HS := hide hS
  clear hS
  go_enter Tryz.func92, Tryz.ntmps92
  go_wp2
  go_loopw [5, 6] (fun i j wr => ∃ (f : Nat) (a b : Int), i = .int .i64 a ∧ j = .int .i64 b ∧ 0 ≤ a ∧ a ≤ b ∧ b ≤ 576000000 ∧ b - a ≤ f ∧ searchN p f a b = S ∧ Below w.heap.size w wr) (fun i j _ => (intOf j).toNat - (intOf i).toNat)
  case atStart => exact ⟨576000001, 0, 576000000, rfl, rfl, by omega, by omega, by omega, by omega, HS.out, Below.refl _ _⟩
  case round =>
    obtain ⟨f, a, b, rfl, rfl, ha, hab, hb6, hf, heq, hb⟩ := hrel
    have HE := hide heq
    have HB := hide hb
    clear heq hb
    by_cases hlt : a < b
    · have m0 : 0 ≤ (a + b) / 2 := by omega
      have m1 : (a + b) / 2 < b := by omega
      have m2 : a ≤ (a + b) / 2 := by omega
      have q1 : IntKind.i64.wrap (a + b) = a + b := IntWalk.i64_in _ (by omega)
      have q2 : IntKind.u64.wrap (a + b) = a + b := by simp [IntKind.wrap, IntKind.bits, IntKind.signed]; omega
      have q3 : IntKind.i64.wrap ((a + b) / 2) = (a + b) / 2 := IntWalk.i64_in _ (by omega)
      have q4 : IntKind.u64.wrap ((a + b) / 2) = (a + b) / 2 := by simp [IntKind.wrap, IntKind.bits, IntKind.signed]; omega
      have HR : Hid (∃ f', f = f' + 1) := hide ⟨f - 1, by omega⟩
      obtain ⟨f', rfl⟩ := HR.out
      have HN : Hid ((if p ((a + b) / 2) then searchN p f' a ((a + b) / 2) else searchN p f' ((a + b) / 2 + 1) b) = S) := hide (by rw [← HE.out, searchN, if_pos hlt])
      go_wp2_with fail
      refine (HT.out wr ((a + b) / 2) HB.out m0 (by omega)).mono ?_
      rintro e w2 ⟨rfl, hb2⟩
      have HB2 := hide (below_trans HB.out hb2)
      clear hb2
      cases hp : p ((a + b) / 2)
      · have HN2 : Hid (searchN p f' ((a + b) / 2 + 1) b = S) := hide (by rw [← HN.out, hp]; rfl)
        have q5 : IntKind.i64.wrap ((a + b) / 2 + 1) = (a + b) / 2 + 1 := IntWalk.i64_in _ (by omega)
        go_wp2
        all_goals (try (exfalso; go_light; simp_all; done))
        go_roundw
        case rel => exact ⟨f', (a + b) / 2 + 1, b, rfl, rfl, by omega, by omega, by omega, by omega, HN2.out, HB2.out⟩
        case measure => simp [intOf]; omega
      · have HN2 : Hid (searchN p f' a ((a + b) / 2) = S) := hide (by rw [← HN.out, hp]; rfl)
        go_wp2
        all_goals (try (exfalso; go_light; simp_all; done))
        go_roundw
        case rel => exact ⟨f', a, (a + b) / 2, rfl, rfl, by omega, by omega, by omega, by omega, HN2.out, HB2.out⟩
        case measure => simp [intOf]; omega
    · have HN : Hid (a = S) := hide (by rw [← HE.out]; cases f with | zero => rfl | succ f => rw [searchN, if_neg hlt])
      go_wp2
      go_ret
      exact ⟨ret_int HN.out, HB.out⟩

/-- What Start and the reference's say of a day. -/
def startE (z : Zone) (d : Int) : Int × Int := if zoneErr z ≠ 0 then (0, zoneErr z) else if d < 0 ∨ 400001 < d then (0, 1) else (startS z d, 0)

set_option maxHeartbeats 1000000 in
set_option maxRecDepth 100000 in
theorem start_any (w : World) (A : Option Addr) (n c : Nat) (z : Zone) (hx : In w A n c z.shifts) (ho : I64 z.offset) (d : Int) :
    Calls Tryz.prog 64 #[.agg #[.string z.name, .int .i64 z.offset, .slice A n c], .int .i64 d] w fun e w' => e = .returned (.tuple #[.int .i64 (startE z d).1, .int .i64 (startE z d).2]) ∧ Below w.heap.size w w' := by
  go_enter Tryz.func64, Tryz.ntmps64
  go_wp2_with fail
  have hba : Below w.heap.size w ((w.alloc (.cells #[.string z.name, .int .i64 z.offset, .slice A n c] 25)).alloc (.cells #[.int .i64 d] 3)) := below_alloc2
  refine (zone_any _ A n c z (hx.below hba) ho).mono ?_
  rintro e w1 ⟨rfl, hb1⟩
  have hbb := below_trans hba hb1
  have g0 := bat (b := w.heap.size) (o := 0) (v := .string z.name) hb1 (by simp; omega) (by simp [go_sem])
  have g1 := bat (b := w.heap.size) (o := 1) (v := .int .i64 z.offset) hb1 (by simp; omega) (by simp [go_sem])
  have g2 := bat (b := w.heap.size) (o := 2) (v := .slice A n c) hb1 (by simp; omega) (by simp [go_sem])
  have g3 := bat (b := w.heap.size + 1) (o := 0) (v := .int .i64 d) hb1 (by simp) (by simp [go_sem])
  clear hb1 hba
  by_cases hz : zoneErr z = 0
  · have HZ := hide hz
    rw [hz]
    clear hz
    by_cases h1 : d < 0
    · have HD : Hid (startE z d = (0, 1)) := hide (by rw [startE, if_neg (by simp [HZ.out]), if_pos (by omega)])
      go_wp2
      all_goals (try (exfalso; go_light; simp_all; done))
      go_ret2
      exact ⟨by rw [HD.out]; rfl, hbb⟩
    by_cases h2 : 400001 < d
    · have HD : Hid (startE z d = (0, 1)) := hide (by rw [startE, if_neg (by simp [HZ.out]), if_pos (by omega)])
      go_wp2
      all_goals (try (exfalso; go_light; simp_all; done))
      go_ret2
      exact ⟨by rw [HD.out]; rfl, hbb⟩
    · have HD : Hid (startE z d = (startS z d, 0)) := hide (by rw [startE, if_neg (by simp [HZ.out]), if_neg (by omega)])
      have HT : Hid (Tells Tryz.prog 93 #[.pointer (some ⟨w.heap.size, 0, none⟩), .pointer (some ⟨w.heap.size + 1, 0, none⟩)] (fun t => decide (d ≤ dayAt z t)) w1 576000000) := hide (by
        intro V t hV h3 h4
        have l0 := lt_of_cell g0
        have l3 := lt_of_cell g3
        have lv := hV.size
        exact start_clo V A n c z (hx.below (below_trans hbb hV)) HZ.out d t _ _ (by simp at l0; omega) (by simp at l3; omega) (bat hV l0 g0) (bat hV l0 g1) (bat hV l0 g2) (bat hV l3 g3) h3 (by omega))
      go_wp2_with fail
      all_goals (try (exfalso; go_light; simp_all; done))
      refine (search_any w1 _ _ _ HT.out).mono ?_
      rintro e w2 ⟨rfl, hb2⟩
      have hb3 := below_trans hbb hb2
      clear hb2
      go_wp2
      go_ret2
      exact ⟨by rw [HD.out]; rfl, hb3⟩
  · have HD : Hid (startE z d = (0, zoneErr z)) := hide (by rw [startE, if_pos hz])
    have q : (zoneErr z != 0) = true := by simpa using hz
    clear hz
    go_wp2
    go_ret2
    exact ⟨by rw [HD.out]; rfl, hbb⟩
end Go.Proofs.YtlbhnfnecfllkaaGreat

namespace Go.Proofs.YtlbhnfnecfllkaaGreat
open Go.RowKit
set_option linter.unusedSimpArgs false
set_option linter.unusedVariables false

def spanE (z : Zone) (d : Int) : Int × Int × Int := if zoneErr z ≠ 0 then (0, 0, zoneErr z) else if d < 0 ∨ 400000 < d then (0, 0, 1) else (startS z d, startS z (d + 1), 0)

end Go.Proofs.YtlbhnfnecfllkaaGreat
