/-
  zone.Validate and warehouseref4.Validate: both return zoneErr. Plain functions of chapter 22: schemes, days of rows, partitions, as both texts compute them. No program is in sight. Plain law: the value of a well-typed expression fits its type; what each operator's operands then are. No program is in sight. Plain law of chapter 22: Pick, Replace, Changed and the sums of bags. No program is in sight. Cells of partitions in a slice. No program is in sight.
-/
import Derived.Test.YtodapiholjeehaaGreatDoorProg
import Derived.Test.YtodapiholjeehaaGreatDoorKit
import Derived.Test.YtodapiholjeehaaGreatDoorGaa
import Derived.Test.YtodapiholjeehaaGreatDoorGab
namespace Go.Proofs.YtodapiholjeehaaGreatDoor
open Go.RowKit
set_option linter.unusedSimpArgs false
set_option linter.unusedVariables false
theorem offset_any (m : Int) (w : World) : Calls Tryz.prog 271 #[.int .i64 m] w fun e w' => e = .returned (.bool (offOk m)) ∧ w = w' := by
  go_enter Tryz.func271, Tryz.ntmps271
  go_wp2
  all_goals (go_ret; refine ⟨ret_bool ?_, rfl⟩; go_light; unfold offOk; first | (simp_all; done) | (simp_all; omega))
theorem within_ref (m : Int) (w : World) : Calls Tryz.prog 177 #[.int .i64 m] w fun e w' => e = .returned (.bool (offOk m)) ∧ w = w' := by
  go_enter Tryz.func177, Tryz.ntmps177
  go_wp2
  all_goals (go_ret; refine ⟨ret_bool ?_, rfl⟩; go_light; unfold offOk; first | (simp_all; done) | (simp_all; omega))
theorem In.shift {w : World} {A : Option Addr} {n c k : Nat} {xs : List Shift} (h : In w A n c xs) (hk : k < n) : ∃ b off x, A = some ⟨b, off, none⟩ ∧ b < w.heap.size ∧ Hid (xs.drop k = x :: xs.drop (k + 1)) ∧
    w.cell? ⟨b, off + k * 2, none⟩ = some (.int .i64 x.at_) ∧ w.cell? ⟨b, off + k * 2 + 1, none⟩ = some (.int .i64 x.offset) ∧ I64 x.at_ ∧ I64 x.offset := by
  obtain ⟨b, off, x, e, hb, hx, cs, ⟨rfl, hv⟩, hc⟩ := h.get hk
  exact ⟨b, off, x, e, hb, hx, hc 0 (by simp [Shift.cells]), hc 1 (by simp [Shift.cells]), hv⟩
theorem firstShift_zero {l r : List Shift} {k : Nat} {x : Shift} (h : shiftErr l k x = 0) : firstShift l k (x :: r) = firstShift l (k + 1) r := by simp [firstShift, h]
theorem firstShift_err {l r : List Shift} {k : Nat} {x : Shift} {e : Int} (h : shiftErr l k x = e) (he : e ≠ 0) : firstShift l k (x :: r) = e := by simp [firstShift, h, he]
set_option maxHeartbeats 2000000 in
set_option maxRecDepth 100000 in
theorem zone_any (w : World) (A : Option Addr) (n c : Nat) (z : Zone) (hx : In w A n c z.shifts) (ho : I64 z.offset) :
    Calls Tryz.prog 214 #[.agg #[.string z.name, .int .i64 z.offset, .slice A n c]] w fun e w' => e = .returned (.int .i64 (zoneErr z)) ∧ Below w.heap.size w w' := by
  obtain ⟨nm, off0, xs⟩ := z
  simp only at hx ho ⊢
  have h63 := hx.le
  have hlen := hide hx.len
  by_cases h1 : 64 < n
  · have he : Hid (2 = zoneErr ⟨nm, off0, xs⟩) := hide (by simp only [zoneErr]; rw [hlen.out, if_pos h1])
    go_enter Tryz.func214, Tryz.ntmps214
    go_wp2
    all_goals (go_ret; exact ⟨ret_int he.out, below_alloc⟩)
  cases h2 : offOk off0
  · have he : Hid (1 = zoneErr ⟨nm, off0, xs⟩) := hide (by simp only [zoneErr]; rw [hlen.out, if_neg h1, if_pos h2])
    go_enter Tryz.func214, Tryz.ntmps214
    go_wp2_with (go_at_call 271; refine (offset_any _ _).mono ?_; rintro e w' ⟨rfl, rfl⟩)
    all_goals (go_ret; exact ⟨ret_int he.out, below_alloc⟩)
  have HE0 : Hid (zoneErr ⟨nm, off0, xs⟩ = firstShift xs 0 xs) := hide (by simp only [zoneErr]; rw [hlen.out, if_neg h1, if_neg (by simp [h2])])
  go_enter Tryz.func214, Tryz.ntmps214
  go_wp2_with (go_at_call 271; refine (offset_any _ _).mono ?_; rintro e w' ⟨rfl, rfl⟩)
  go_loopw [16] (fun i wr => ∃ k : Nat, k ≤ n ∧ i = .int .i64 k ∧ firstShift xs 0 xs = firstShift xs k (xs.drop k) ∧ Below (w.alloc (.cells #[.string nm, .int .i64 off0, .slice A n c] 112)).heap.size (w.alloc (.cells #[.string nm, .int .i64 off0, .slice A n c] 112)) wr) (fun i _ => n - (intOf i).toNat)
  case atStart => exact ⟨0, Nat.zero_le _, rfl, rfl, Below.refl _ _⟩
  case round =>
    obtain ⟨k, hk, rfl, heq, hb0⟩ := hrel
    have HE := hide heq
    clear heq
    have hb : Below w.heap.size w wr := below_trans below_alloc hb0
    have g0 : wr.cell? ⟨w.heap.size, 2, none⟩ = some (.slice A n c) := bat hb0 (by simp) (by simp [go_sem])
    have hsz : w.heap.size < wr.heap.size := by have := hb0.size; simp at this; omega
    have HB0 := hide hb0
    clear hb0
    by_cases hlt : k < n
    · obtain ⟨b, off, x, rfl, hB, HX, f0, f1, f2, f3⟩ := (hx.below hb).shift hlt
      have f2' := f2
      have f3' := f3
      unfold I64 at f2 f3
      by_cases c1 : x.at_ < 1
      · have he : Hid (1 = zoneErr ⟨nm, off0, xs⟩) := hide (by rw [HE0.out, HE.out, HX.out]; exact (firstShift_err (by simp [shiftErr, c1]) (by omega)).symm)
        go_wp2_with (go_at_call 271; refine (offset_any _ _).mono ?_; rintro e w' ⟨rfl, rfl⟩)
        all_goals (try (exfalso; go_light; simp_all; done))
        all_goals (go_ret; exact ⟨ret_int he.out, below_trans hb below_alloc⟩)
      by_cases c2 : 575999999 < x.at_
      · have he : Hid (1 = zoneErr ⟨nm, off0, xs⟩) := hide (by rw [HE0.out, HE.out, HX.out]; exact (firstShift_err (by simp [shiftErr, c2]) (by omega)).symm)
        go_wp2_with (go_at_call 271; refine (offset_any _ _).mono ?_; rintro e w' ⟨rfl, rfl⟩)
        all_goals (try (exfalso; go_light; simp_all; done))
        all_goals (go_ret; exact ⟨ret_int he.out, below_trans hb below_alloc⟩)
      cases c3 : offOk x.offset
      · have he : Hid (1 = zoneErr ⟨nm, off0, xs⟩) := hide (by rw [HE0.out, HE.out, HX.out]; exact (firstShift_err (by simp [shiftErr, c3]) (by omega)).symm)
        go_wp2_with (go_at_call 271; refine (offset_any _ _).mono ?_; rintro e w' ⟨rfl, rfl⟩)
        all_goals (try (exfalso; go_light; simp_all; done))
        all_goals (go_ret; exact ⟨ret_int he.out, below_trans hb below_alloc⟩)
      have k0 : (0 : Int) ≤ (k : Int) := by omega
      have k1 : (k : Int) < (n : Int) := by omega
      have hbk := below_trans HB0.out (below_alloc (o := .cells #[.int .i64 x.at_, .int .i64 x.offset] 192))
      have HBK := hide hbk
      have hbb := below_trans hb (below_alloc (o := .cells #[.int .i64 x.at_, .int .i64 x.offset] 192))
      clear hbk
      by_cases hk0 : k = 0
      · have HR : Hid (firstShift xs 0 xs = firstShift xs (k + 1) (xs.drop (k + 1))) := hide (by rw [HE.out, HX.out]; exact firstShift_zero (by simp [shiftErr, c1, c2, c3, hk0]))
        have q0 : decide (0 < k) = false := by simp; omega
        have HK0 := hide hk0
        clear hk0
        go_wp2_with (go_at_call 271; refine (offset_any _ _).mono ?_; rintro e w' ⟨rfl, rfl⟩)
        all_goals (try (exfalso; go_light; simp_all; done))
        go_quiet (fail)
        go_wp2
        go_roundw
        case rel => exact ⟨k + 1, by omega, by go_num, HR.out, by first | exact HBK.out | exact below_drewN HBK.out _⟩
        case measure => simp [intOf]; omega
      · obtain ⟨b', off', y, e, hB', HY, y0, y1, y2, y3⟩ := (hx.below hbb).shift (show k - 1 < n by omega)
        injection e with e
        injection e with e_1 e_2
        subst e_1 e_2
        have HP := hide (drop_get HY.out).1
        have q0 : decide (0 < k) = true := by simp; omega
        have i1 : (0 : Int) ≤ (k : Int) - 1 := by omega
        have i2 : (k : Int) - 1 < (n : Int) := by omega
        have i3 : ((k : Int) - 1).toNat = k - 1 := by omega
        have i5 : (1 : Int) ≤ (k : Int) := by omega
        have i6 : (k : Int) ≤ (n : Int) := by omega
        have i4 : IntKind.i64.wrap ((k : Int) - 1) = (k : Int) - 1 := IntWalk.i64_in _ (by omega)
        have P0 : Hid (0 < k) := hide (by omega)
        clear hk0
        by_cases c4 : x.at_ ≤ y.at_
        · have he : Hid (14 = zoneErr ⟨nm, off0, xs⟩) := hide (by rw [HE0.out, HE.out, HX.out]; exact (firstShift_err (by simp [shiftErr, c1, c2, c3, P0.out, HP.out, c4]) (by omega)).symm)
          go_wp2_with (go_at_call 271; refine (offset_any _ _).mono ?_; rintro e w' ⟨rfl, rfl⟩)
          all_goals (try (exfalso; go_light; simp_all; done))
          go_quiet (fail)
          go_wp2
          go_ret
          exact ⟨ret_int he.out, by first | exact hbb | exact below_drewN hbb _⟩
        · have HR : Hid (firstShift xs 0 xs = firstShift xs (k + 1) (xs.drop (k + 1))) := hide (by rw [HE.out, HX.out]; exact firstShift_zero (by simp [shiftErr, c1, c2, c3, HP.out, c4]))
          go_wp2_with (go_at_call 271; refine (offset_any _ _).mono ?_; rintro e w' ⟨rfl, rfl⟩)
          all_goals (try (exfalso; go_light; simp_all; done))
          go_quiet (fail)
          go_wp2
          go_roundw
          case rel => exact ⟨k + 1, by omega, by go_num, HR.out, by first | exact HBK.out | exact below_drewN HBK.out _⟩
          case measure => simp [intOf]; omega
    · go_wp2
      go_ret
      exact ⟨ret_int (by rw [HE0.out, HE.out, drop_end hx.len (by omega), firstShift]), hb⟩
set_option maxHeartbeats 2000000 in
set_option maxRecDepth 100000 in
theorem zone_ref (w : World) (A : Option Addr) (n c : Nat) (z : Zone) (hx : In w A n c z.shifts) (ho : I64 z.offset) :
    Calls Tryz.prog 119 #[.agg #[.string z.name, .int .i64 z.offset, .slice A n c]] w fun e w' => e = .returned (.int .i64 (zoneErr z)) ∧ Below w.heap.size w w' := by
  obtain ⟨nm, off0, xs⟩ := z
  simp only at hx ho ⊢
  have h63 := hx.le
  have hlen := hide hx.len
  by_cases h1 : 64 < n
  · have he : Hid (2 = zoneErr ⟨nm, off0, xs⟩) := hide (by simp only [zoneErr]; rw [hlen.out, if_pos h1])
    go_enter Tryz.func119, Tryz.ntmps119
    go_wp2
    all_goals (go_ret; exact ⟨ret_int he.out, below_alloc⟩)
  cases h2 : offOk off0
  · have he : Hid (1 = zoneErr ⟨nm, off0, xs⟩) := hide (by simp only [zoneErr]; rw [hlen.out, if_neg h1, if_pos h2])
    go_enter Tryz.func119, Tryz.ntmps119
    go_wp2_with (go_at_call 177; refine (within_ref _ _).mono ?_; rintro e w' ⟨rfl, rfl⟩)
    all_goals (go_ret; exact ⟨ret_int he.out, below_alloc⟩)
  have HE0 : Hid (zoneErr ⟨nm, off0, xs⟩ = firstShift xs 0 xs) := hide (by simp only [zoneErr]; rw [hlen.out, if_neg h1, if_neg (by simp [h2])])
  go_enter Tryz.func119, Tryz.ntmps119
  go_wp2_with (go_at_call 177; refine (within_ref _ _).mono ?_; rintro e w' ⟨rfl, rfl⟩)
  go_loopw [3] (fun i wr => ∃ k : Nat, k ≤ n ∧ i = .int .i64 k ∧ firstShift xs 0 xs = firstShift xs k (xs.drop k) ∧ Below (w.alloc (.cells #[.string nm, .int .i64 off0, .slice A n c] 112)).heap.size (w.alloc (.cells #[.string nm, .int .i64 off0, .slice A n c] 112)) wr) (fun i _ => n - (intOf i).toNat)
  case atStart => exact ⟨0, Nat.zero_le _, rfl, rfl, Below.refl _ _⟩
  case round =>
    obtain ⟨k, hk, rfl, heq, hb0⟩ := hrel
    have HE := hide heq
    clear heq
    have hb : Below w.heap.size w wr := below_trans below_alloc hb0
    have g0 : wr.cell? ⟨w.heap.size, 2, none⟩ = some (.slice A n c) := bat hb0 (by simp) (by simp [go_sem])
    have hsz : w.heap.size < wr.heap.size := by have := hb0.size; simp at this; omega
    have HB0 := hide hb0
    clear hb0
    by_cases hlt : k < n
    · obtain ⟨b, off, x, rfl, hB, HX, f0, f1, f2, f3⟩ := (hx.below hb).shift hlt
      have f2' := f2
      have f3' := f3
      unfold I64 at f2 f3
      by_cases c1 : x.at_ < 1
      · have he : Hid (1 = zoneErr ⟨nm, off0, xs⟩) := hide (by rw [HE0.out, HE.out, HX.out]; exact (firstShift_err (by simp [shiftErr, c1]) (by omega)).symm)
        go_wp2_with (go_at_call 177; refine (within_ref _ _).mono ?_; rintro e w' ⟨rfl, rfl⟩)
        all_goals (try (exfalso; go_light; simp_all; done))
        all_goals (go_ret; exact ⟨ret_int he.out, below_trans hb below_alloc⟩)
      by_cases c2 : 575999999 < x.at_
      · have he : Hid (1 = zoneErr ⟨nm, off0, xs⟩) := hide (by rw [HE0.out, HE.out, HX.out]; exact (firstShift_err (by simp [shiftErr, c2]) (by omega)).symm)
        go_wp2_with (go_at_call 177; refine (within_ref _ _).mono ?_; rintro e w' ⟨rfl, rfl⟩)
        all_goals (try (exfalso; go_light; simp_all; done))
        all_goals (go_ret; exact ⟨ret_int he.out, below_trans hb below_alloc⟩)
      cases c3 : offOk x.offset
      · have he : Hid (1 = zoneErr ⟨nm, off0, xs⟩) := hide (by rw [HE0.out, HE.out, HX.out]; exact (firstShift_err (by simp [shiftErr, c3]) (by omega)).symm)
        go_wp2_with (go_at_call 177; refine (within_ref _ _).mono ?_; rintro e w' ⟨rfl, rfl⟩)
        all_goals (try (exfalso; go_light; simp_all; done))
        all_goals (go_ret; exact ⟨ret_int he.out, below_trans hb below_alloc⟩)
      have k0 : (0 : Int) ≤ (k : Int) := by omega
      have k1 : (k : Int) < (n : Int) := by omega
      have hbk := below_trans HB0.out (below_alloc (o := .cells #[.int .i64 x.at_, .int .i64 x.offset] 192))
      have HBK := hide hbk
      have hbb := below_trans hb (below_alloc (o := .cells #[.int .i64 x.at_, .int .i64 x.offset] 192))
      clear hbk
      by_cases hk0 : k = 0
      · have HR : Hid (firstShift xs 0 xs = firstShift xs (k + 1) (xs.drop (k + 1))) := hide (by rw [HE.out, HX.out]; exact firstShift_zero (by simp [shiftErr, c1, c2, c3, hk0]))
        have q0 : decide (0 < k) = false := by simp; omega
        have HK0 := hide hk0
        clear hk0
        go_wp2_with (go_at_call 177; refine (within_ref _ _).mono ?_; rintro e w' ⟨rfl, rfl⟩)
        all_goals (try (exfalso; go_light; simp_all; done))
        go_quiet (fail)
        go_wp2
        go_roundw
        case rel => exact ⟨k + 1, by omega, by go_num, HR.out, by first | exact HBK.out | exact below_drewN HBK.out _⟩
        case measure => simp [intOf]; omega
      · obtain ⟨b', off', y, e, hB', HY, y0, y1, y2, y3⟩ := (hx.below hbb).shift (show k - 1 < n by omega)
        injection e with e
        injection e with e_1 e_2
        subst e_1 e_2
        have HP := hide (drop_get HY.out).1
        have q0 : decide (0 < k) = true := by simp; omega
        have i1 : (0 : Int) ≤ (k : Int) - 1 := by omega
        have i2 : (k : Int) - 1 < (n : Int) := by omega
        have i3 : ((k : Int) - 1).toNat = k - 1 := by omega
        have i5 : (1 : Int) ≤ (k : Int) := by omega
        have i6 : (k : Int) ≤ (n : Int) := by omega
        have i4 : IntKind.i64.wrap ((k : Int) - 1) = (k : Int) - 1 := IntWalk.i64_in _ (by omega)
        have P0 : Hid (0 < k) := hide (by omega)
        clear hk0
        by_cases c4 : x.at_ ≤ y.at_
        · have he : Hid (14 = zoneErr ⟨nm, off0, xs⟩) := hide (by rw [HE0.out, HE.out, HX.out]; exact (firstShift_err (by simp [shiftErr, c1, c2, c3, P0.out, HP.out, c4]) (by omega)).symm)
          go_wp2_with (go_at_call 177; refine (within_ref _ _).mono ?_; rintro e w' ⟨rfl, rfl⟩)
          all_goals (try (exfalso; go_light; simp_all; done))
          go_quiet (fail)
          go_wp2
          go_ret
          exact ⟨ret_int he.out, by first | exact hbb | exact below_drewN hbb _⟩
        · have HR : Hid (firstShift xs 0 xs = firstShift xs (k + 1) (xs.drop (k + 1))) := hide (by rw [HE.out, HX.out]; exact firstShift_zero (by simp [shiftErr, c1, c2, c3, HP.out, c4]))
          go_wp2_with (go_at_call 177; refine (within_ref _ _).mono ?_; rintro e w' ⟨rfl, rfl⟩)
          all_goals (try (exfalso; go_light; simp_all; done))
          go_quiet (fail)
          go_wp2
          go_roundw
          case rel => exact ⟨k + 1, by omega, by go_num, HR.out, by first | exact HBK.out | exact below_drewN HBK.out _⟩
          case measure => simp [intOf]; omega
    · go_wp2
      go_ret
      exact ⟨ret_int (by rw [HE0.out, HE.out, drop_end hx.len (by omega), firstShift]), hb⟩
end Go.Proofs.YtodapiholjeehaaGreatDoor

namespace Go.Proofs.YtodapiholjeehaaGreatDoor
open Go.RowKit
set_option linter.unusedVariables false
set_option linter.unusedSimpArgs false
structure Partn where
  day : Int
  rows : List Ent
instance : Inhabited Partn := ⟨⟨0, []⟩⟩
instance : Rep Partn where
  size := 2
  rd w S cs x := ∃ A n c, cs = [.int .i64 x.day, .slice A n c] ∧ Sl w S A n c x.rows ∧ I64 x.day
  len h := by obtain ⟨A, n, c, rfl, _⟩ := h; rfl
  keep hs h := by obtain ⟨A, n, c, rfl, h, hc⟩ := h; exact ⟨A, n, c, rfl, h.keep hs, hc⟩
  mono hs h := by obtain ⟨A, n, c, rfl, h, hc⟩ := h; exact ⟨A, n, c, rfl, h.mono hs, hc⟩
def dayVal (z : Zone) (v : Val) : Int :=
  if v.kind = 4 then (if dayErr z v.num = 0 then dayAt z v.num else -1) else if v.kind = 2 ∧ 0 ≤ v.num ∧ v.num ≤ 400000 then v.num else -1
def dayRow (at_ : Int) (z : Zone) (row : List Val) : Int := if at_ < 0 then -1 else dayVal z (row.getD at_.toNat default)
def ofDay (at_ : Int) (z : Zone) (rows : List Ent) (d : Int) : List Ent := rows.filter fun x => dayRow at_ z x.row == d
def Asc (l : List Int) : Prop := l.Pairwise (· < ·)
def leastA (last : Int) : List Int → Int → Int
  | [], m => m
  | x :: l, m => leastA last l (if last < x ∧ x < m then x else m)
theorem leastA_spec (last : Int) : ∀ (l : List Int) (m : Int), leastA last l m ≤ m ∧ (leastA last l m = m ∨ (leastA last l m ∈ l ∧ last < leastA last l m)) ∧ ∀ x ∈ l, last < x → leastA last l m ≤ x
  | [], m => ⟨Int.le_refl _, .inl rfl, fun x hx => by cases hx⟩
  | y :: l, m => by
    rw [leastA]
    by_cases h : last < y ∧ y < m
    · rw [if_pos h]
      obtain ⟨a, b, c⟩ := leastA_spec last l y
      refine ⟨by omega, ?_, fun x hx hl => ?_⟩
      · rcases b with b | b
        · exact .inr ⟨by rw [b]; simp, by omega⟩
        · exact .inr ⟨List.mem_cons_of_mem _ b.1, b.2⟩
      · rcases List.mem_cons.1 hx with rfl | hx
        · exact a
        · exact c x hx hl
    · rw [if_neg h]
      obtain ⟨a, b, c⟩ := leastA_spec last l m
      refine ⟨a, ?_, fun x hx hl => ?_⟩
      · rcases b with b | b
        · exact .inl b
        · exact .inr ⟨List.mem_cons_of_mem _ b.1, b.2⟩
      · rcases List.mem_cons.1 hx with rfl | hx
        · omega
        · exact c x hx hl
def Upto (l ks : List Int) (last : Int) : Prop := Asc ks ∧ ∀ d, d ∈ ks ↔ d ∈ l ∧ d ≤ last
theorem Upto.done {l ks : List Int} {last : Int} (h : Upto l ks last) (hm : ∀ d ∈ l, d ≤ 400000) (he : leastA last l 400001 = 400001) : Asc ks ∧ ∀ d, d ∈ ks ↔ d ∈ l := by
  refine ⟨h.1, fun d => ⟨fun hd => ((h.2 d).1 hd).1, fun hd => (h.2 d).2 ⟨hd, ?_⟩⟩⟩
  have h1 := hm d hd
  by_cases q : d ≤ last
  · exact q
  · have := (leastA_spec last l 400001).2.2 d hd (by omega)
    omega
end Go.Proofs.YtodapiholjeehaaGreatDoor

namespace Go.Proofs.YtodapiholjeehaaGreatDoor
set_option linter.unusedVariables false
set_option linter.unusedSimpArgs false
def Has (k : Kd) (v : Val) : Prop := valid v = true ∧ (v.kind = k.kind ∨ (v.kind = 0 ∧ k.null = true))
def KdOk (k : Kd) : Prop := 0 ≤ k.kind ∧ k.kind ≤ 4 ∧ (k.kind = 0 → k.null = true)
def Fit2 : List Kd → List Val → Prop
  | [], [] => True
  | k :: ks, v :: vs => (KdOk k ∧ Has k v) ∧ Fit2 ks vs
  | _, _ => False
theorem Fit2.len : ∀ {ks : List Kd} {vs : List Val}, Fit2 ks vs → ks.length = vs.length
  | [], [], _ => rfl
  | _ :: _, _ :: _, h => by rw [List.length_cons, List.length_cons, Fit2.len h.2]
  | [], _ :: _, h => h.elim
  | _ :: _, [], h => h.elim
theorem Fit2.take : ∀ {ks : List Kd} {vs : List Val} (n : Nat), Fit2 ks vs → Fit2 (ks.take n) (vs.take n)
  | [], [], _, _ => by simp [Fit2]
  | _ :: _, _ :: _, 0, _ => trivial
  | _ :: _, _ :: _, n + 1, h => ⟨h.1, Fit2.take n h.2⟩
  | [], _ :: _, _, h => h.elim
  | _ :: _, [], _, h => h.elim
theorem Fit2.drop : ∀ {ks : List Kd} {vs : List Val} (n : Nat), Fit2 ks vs → Fit2 (ks.drop n) (vs.drop n)
  | [], [], _, _ => by simp [Fit2]
  | _ :: _, _ :: _, 0, h => h
  | _ :: _, _ :: _, n + 1, h => Fit2.drop n h.2
  | [], _ :: _, _, h => h.elim
  | _ :: _, [], _, h => h.elim
theorem Fit2.push {k : Kd} {v : Val} (hk : KdOk k ∧ Has k v) : ∀ {ks : List Kd} {vs : List Val}, Fit2 ks vs → Fit2 (ks ++ [k]) (vs ++ [v])
  | [], [], _ => ⟨hk, trivial⟩
  | _ :: _, _ :: _, h => ⟨h.1, Fit2.push hk h.2⟩
  | [], _ :: _, h => h.elim
  | _ :: _, [], h => h.elim
theorem Fit2.valid : ∀ {ks : List Kd} {vs : List Val}, Fit2 ks vs → ∀ v ∈ vs, valid v = true
  | [], [], _, _, h => by cases h
  | k :: ks, x :: vs, h, v, hv => by
    rcases List.mem_cons.1 hv with rfl | hv
    · exact h.1.2.1
    · exact Fit2.valid h.2 v hv
  | [], _ :: _, h, _, _ => h.elim
  | _ :: _, [], h, _, _ => h.elim
end Go.Proofs.YtodapiholjeehaaGreatDoor

namespace Go.Proofs.YtodapiholjeehaaGreatDoor
set_option linter.unusedVariables false
set_option linter.unusedSimpArgs false
def IsChanged (at_ : Int) (z : Zone) (old new : List Ent) (ds : List Int) : Prop :=
  Asc ds ∧ ∀ d, d ∈ ds ↔ ofDay at_ z old d ≠ ofDay at_ z new d
theorem bagErr_filter {b : List Ent} (h : bagErr b = 0) (p : Ent → Bool) : bagErr (b.filter p) = 0 := by
  obtain ⟨h1, h2, h3⟩ := bagErr_iff.1 h
  exact bagErr_iff.2 ⟨Nat.le_trans (List.length_filter_le _ _) h1, fun x hx => h2 x (List.mem_filter.1 hx).1, h3.filter p⟩
theorem cnt_filter_of {p : Ent → Bool} {l : List Ent} {r : List Val} (h : ∀ x ∈ l, x.row = r → p x = true) : cnt (l.filter p) r = cnt l r := by
  induction l with
  | nil => rfl
  | cons x l ih =>
    have ih := ih fun y hy => h y (by simp [hy])
    by_cases q : p x = true
    · rw [List.filter_cons_of_pos q, cnt, cnt, ih]
    · rw [List.filter_cons_of_neg q, cnt, ih, if_neg]
      · omega
      · intro e; exact q (h x (by simp) (cr_zero.1 e))
theorem cnt_filter_no {p : Ent → Bool} {l : List Ent} {r : List Val} (h : ∀ x ∈ l, x.row = r → p x = false) : cnt (l.filter p) r = 0 := by
  refine cnt_none fun x hx e => ?_
  obtain ⟨h1, h2⟩ := List.mem_filter.1 hx
  rw [h x h1 (cr_zero.1 e)] at h2
  cases h2
theorem cnt_ofDay {at_ : Int} {z : Zone} {l : List Ent} {d : Int} {r : List Val} : cnt (ofDay at_ z l d) r = if dayRow at_ z r = d then cnt l r else 0 := by
  split
  · rename_i h; exact cnt_filter_of fun x _ e => by rw [e]; simpa using h
  · rename_i h; exact cnt_filter_no fun x _ e => by rw [e]; simpa using h
structure Mixed (at_ : Int) (z : Zone) (old new now : List Ent) (done : List Int) : Prop where
  bag : bagErr now = 0
  cnt : ∀ r, cnt now r = if dayRow at_ z r ∈ done then cnt new r else cnt old r
theorem bag_noz {b : List Ent} (h : bagErr b = 0) : NoZ b := fun x hx => ((bagErr_iff.1 h).2.1 x hx).2
theorem bag_asc {b : List Ent} (h : bagErr b = 0) : AscE b := (bagErr_iff.1 h).2.2
theorem bag_ext {a b : List Ent} (h : bagErr a = 0) (h' : bagErr b = 0) (hc : ∀ r, Proofs.YtodapiholjeehaaGreatDoor.cnt a r = Proofs.YtodapiholjeehaaGreatDoor.cnt b r) : a = b := asc_ext (bag_asc h) (bag_asc h') (bag_noz h) (bag_noz h') hc
theorem mem_cnt {b : List Ent} (h : bagErr b = 0) {r : List Val} : Proofs.YtodapiholjeehaaGreatDoor.cnt b r ≠ 0 ↔ ∃ x ∈ b, x.row = r := by
  constructor
  · intro q
    by_cases g : ∃ x ∈ b, x.row = r
    · exact g
    · exact absurd (cnt_none fun x hx e => g ⟨x, hx, cr_zero.1 e⟩) q
  · rintro ⟨x, hx, rfl⟩
    rw [(bag_asc h).mem hx]
    exact bag_noz h x hx
theorem ofDay_ext {at_ : Int} {z : Zone} {a b : List Ent} (h : bagErr a = 0) (h' : bagErr b = 0) {d : Int} (hc : ∀ r, dayRow at_ z r = d → Proofs.YtodapiholjeehaaGreatDoor.cnt a r = Proofs.YtodapiholjeehaaGreatDoor.cnt b r) : ofDay at_ z a d = ofDay at_ z b d :=
  bag_ext (bagErr_filter h _) (bagErr_filter h' _) fun r => by
    show Proofs.YtodapiholjeehaaGreatDoor.cnt (ofDay at_ z a d) r = Proofs.YtodapiholjeehaaGreatDoor.cnt (ofDay at_ z b d) r
    rw [cnt_ofDay, cnt_ofDay]
    split
    · rename_i q; exact hc r q
    · rfl
theorem Mixed.ne {at_ : Int} {z : Zone} {old new now : List Ent} {ds done l : List Int} {d : Int} (h : Mixed at_ z old new now done) (ho : bagErr old = 0) (hn : bagErr new = 0) (hc : IsChanged at_ z old new ds) (e : ds = done ++ d :: l) : now ≠ new := by
  rintro rfl
  have h1 := (hc.2 d).1 (by rw [e]; simp)
  apply h1
  refine ofDay_ext ho hn fun r hr => ?_
  have h2 := h.cnt r
  rw [if_neg] at h2
  · exact h2.symm
  · rw [hr]
    intro q
    have := hc.1
    rw [e] at this
    have := (List.pairwise_append.1 this).2.2 d q d (by simp)
    omega
theorem len_cnt {b : List Ent} (h : AscE b) (hz : NoZ b) {l : List Ent} (hl : ∀ r, Proofs.YtodapiholjeehaaGreatDoor.cnt b r ≠ 0 → ∃ x ∈ l, x.row = r) : b.length ≤ l.length := by
  have hnd : (b.map Ent.row).Nodup := by
    rw [List.nodup_iff_pairwise_ne, List.pairwise_map]
    refine h.imp fun {x y} q e => ?_
    rw [e, cr_zero.2 rfl] at q
    omega
  have hsub : ∀ r ∈ b.map Ent.row, r ∈ l.map Ent.row := fun r hr => by
    obtain ⟨x, hx, rfl⟩ := List.mem_map.1 hr
    obtain ⟨y, hy, e⟩ := hl x.row (by rw [h.mem hx]; exact hz x hx)
    exact List.mem_map.2 ⟨y, hy, e⟩
  have := hnd.length_le_of_subset hsub
  simpa using this
theorem Mixed.rows {at_ : Int} {z : Zone} {old new now : List Ent} {done : List Int} (h : Mixed at_ z old new now done) : ∀ x ∈ now, ∃ y ∈ old ++ new, y.row = x.row := fun x hx => by
  have h1 := (mem_cnt h.bag (r := x.row)).2 ⟨x, hx, rfl⟩
  by_cases g : ∃ y ∈ old ++ new, y.row = x.row
  · exact g
  · exfalso
    rw [h.cnt] at h1
    apply h1
    split
    · exact cnt_none fun y hy e => g ⟨y, by simp [hy], cr_zero.1 e⟩
    · exact cnt_none fun y hy e => g ⟨y, by simp [hy], cr_zero.1 e⟩
theorem Mixed.len {at_ : Int} {z : Zone} {old new now : List Ent} {done : List Int} (h : Mixed at_ z old new now done) : now.length ≤ (old ++ new).length :=
  len_cnt (bag_asc h.bag) (bag_noz h.bag) fun r hr => by
    obtain ⟨x, hx, rfl⟩ := (mem_cnt h.bag).1 hr
    exact h.rows x hx
end Go.Proofs.YtodapiholjeehaaGreatDoor

namespace Go.Proofs.YtodapiholjeehaaGreatDoor
open Go.RowKit
set_option linter.unusedSimpArgs false
set_option linter.unusedVariables false
theorem In.part {w : World} {A : Option Addr} {n c k : Nat} {xs : List Partn} (h : In w A n c xs) (hk : k < n) : ∃ b off x, A = some ⟨b, off, none⟩ ∧ b < w.heap.size ∧ Hid (xs.drop k = x :: xs.drop (k + 1)) ∧
    ∃ A' n' c', w.cell? ⟨b, off + k * 2, none⟩ = some (.int .i64 x.day) ∧ w.cell? ⟨b, off + k * 2 + 1, none⟩ = some (.slice A' n' c') ∧ In w A' n' c' x.rows ∧ I64 x.day := by
  obtain ⟨b, off, x, e, hb, hx, cs, ⟨A', n', c', rfl, hs, hv⟩, hc⟩ := h.get hk
  exact ⟨b, off, x, e, hb, hx, A', n', c', hc 0 (by simp), hc 1 (by simp), hs, hv⟩
end Go.Proofs.YtodapiholjeehaaGreatDoor
