/-
  zone.Validate and warehouseref4.Validate: both return zoneErr.
-/
import Derived.Test.YtlbhnfnecfllkaaGreatProg
import Derived.Test.YtlbhnfnecfllkaaGreatGab
import Derived.Test.YtlbhnfnecfllkaaGreatGaa
namespace Go.Proofs.YtlbhnfnecfllkaaGreat
open Go.RowKit
set_option linter.unusedSimpArgs false
set_option linter.unusedVariables false

theorem offset_any (m : Int) (w : World) : Calls Tryz.prog 89 #[.int .i64 m] w fun e w' => e = .returned (.bool (offOk m)) ∧ w = w' := by
  go_enter Tryz.func89, Tryz.ntmps89
  go_wp2
  all_goals (go_ret; refine ⟨ret_bool ?_, rfl⟩; go_light; unfold offOk; first | (simp_all; done) | (simp_all; omega))
theorem within_ref (m : Int) (w : World) : Calls Tryz.prog 127 #[.int .i64 m] w fun e w' => e = .returned (.bool (offOk m)) ∧ w = w' := by
  go_enter Tryz.func127, Tryz.ntmps127
  go_wp2
  all_goals (go_ret; refine ⟨ret_bool ?_, rfl⟩; go_light; unfold offOk; first | (simp_all; done) | (simp_all; omega))
theorem In.shift {w : World} {A : Option Addr} {n c k : Nat} {xs : List Shift} (h : In w A n c xs) (hk : k < n) : ∃ b off x, A = some ⟨b, off, none⟩ ∧ b < w.heap.size ∧ Hid (xs.drop k = x :: xs.drop (k + 1)) ∧
    w.cell? ⟨b, off + k * 2, none⟩ = some (.int .i64 x.at_) ∧ w.cell? ⟨b, off + k * 2 + 1, none⟩ = some (.int .i64 x.offset) ∧ I64 x.at_ ∧ I64 x.offset := by
  obtain ⟨b, off, x, e, hb, hx, cs, ⟨rfl, hv⟩, hc⟩ := h.get hk
  exact ⟨b, off, x, e, hb, hx, hc 0 (by simp [Shift.cells]), hc 1 (by simp [Shift.cells]), hv⟩
theorem firstShift_zero {l r : List Shift} {k : Nat} {x : Shift} (h : shiftErr l k x = 0) : firstShift l k (x :: r) = firstShift l (k + 1) r := by simp [firstShift, h]
theorem firstShift_err {l r : List Shift} {k : Nat} {x : Shift} {e : Int} (h : shiftErr l k x = e) (he : e ≠ 0) : firstShift l k (x :: r) = e := by simp [firstShift, h, he]

set_option maxHeartbeats 2000000 in
set_option maxRecDepth 100000 in
theorem zone_any (w : World) (A : Option Addr) (n c : Nat) (z : Zone) (hx : In w A n c z.shifts) (ho : I64 z.offset) :
    Calls Tryz.prog 62 #[.agg #[.string z.name, .int .i64 z.offset, .slice A n c]] w fun e w' => e = .returned (.int .i64 (zoneErr z)) ∧ Below w.heap.size w w' := by
  obtain ⟨nm, off0, xs⟩ := z
  simp only at hx ho ⊢
  have h63 := hx.le
  have hlen := hide hx.len
  by_cases h1 : 64 < n
  · have he : Hid (2 = zoneErr ⟨nm, off0, xs⟩) := hide (by simp only [zoneErr]; rw [hlen.out, if_pos h1])
    go_enter Tryz.func62, Tryz.ntmps62
    go_wp2
    all_goals (go_ret; exact ⟨ret_int he.out, below_alloc⟩)
  cases h2 : offOk off0
  · have he : Hid (1 = zoneErr ⟨nm, off0, xs⟩) := hide (by simp only [zoneErr]; rw [hlen.out, if_neg h1, if_pos h2])
    go_enter Tryz.func62, Tryz.ntmps62
    go_wp2_with (go_at_call 89; refine (offset_any _ _).mono ?_; rintro e w' ⟨rfl, rfl⟩)
    all_goals (go_ret; exact ⟨ret_int he.out, below_alloc⟩)
  have HE0 : Hid (zoneErr ⟨nm, off0, xs⟩ = firstShift xs 0 xs) := hide (by simp only [zoneErr]; rw [hlen.out, if_neg h1, if_neg (by simp [h2])])
  go_enter Tryz.func62, Tryz.ntmps62
  go_wp2_with (go_at_call 89; refine (offset_any _ _).mono ?_; rintro e w' ⟨rfl, rfl⟩)
  go_loopw [16] (fun i wr => ∃ k : Nat, k ≤ n ∧ i = .int .i64 k ∧ firstShift xs 0 xs = firstShift xs k (xs.drop k) ∧ Below (w.alloc (.cells #[.string nm, .int .i64 off0, .slice A n c] 25)).heap.size (w.alloc (.cells #[.string nm, .int .i64 off0, .slice A n c] 25)) wr) (fun i _ => n - (intOf i).toNat)
  case atStart => exact ⟨0, Nat.zero_le _, rfl, rfl, Below.refl _ _⟩
  case round =>
    obtain ⟨k, hk, rfl, heq, hb0⟩ := hrel
    have HE := hide heq
    clear heq
    have hb : Below w.heap.size w wr := below_trans below_alloc hb0
    have g0 : wr.cell? ⟨w.heap.size, 2, none⟩ = some (.slice A n c) := bat hb0 (by simp) (by simp [go_sem])
    have hsz : w.heap.size < wr.heap.size := by have := hb0.size; simp at this; omega
    have HB0 := hide hb0
    clear hb0
    by_cases hlt : k < n
    · obtain ⟨b, off, x, rfl, hB, HX, f0, f1, f2, f3⟩ := (hx.below hb).shift hlt
      have f2' := f2
      have f3' := f3
      unfold I64 at f2 f3
      by_cases c1 : x.at_ < 1
      · have he : Hid (1 = zoneErr ⟨nm, off0, xs⟩) := hide (by rw [HE0.out, HE.out, HX.out]; exact (firstShift_err (by simp [shiftErr, c1]) (by omega)).symm)
        go_wp2_with (go_at_call 89; refine (offset_any _ _).mono ?_; rintro e w' ⟨rfl, rfl⟩)
        all_goals (try (exfalso; go_light; simp_all; done))
        all_goals (go_ret; exact ⟨ret_int he.out, below_trans hb below_alloc⟩)
      by_cases c2 : 575999999 < x.at_
      · have he : Hid (1 = zoneErr ⟨nm, off0, xs⟩) := hide (by rw [HE0.out, HE.out, HX.out]; exact (firstShift_err (by simp [shiftErr, c2]) (by omega)).symm)
        go_wp2_with (go_at_call 89; refine (offset_any _ _).mono ?_; rintro e w' ⟨rfl, rfl⟩)
        all_goals (try (exfalso; go_light; simp_all; done))
        all_goals (go_ret; exact ⟨ret_int he.out, below_trans hb below_alloc⟩)
      cases c3 : offOk x.offset
      · have he : Hid (1 = zoneErr ⟨nm, off0, xs⟩) := hide (by rw [HE0.out, HE.out, HX.out]; exact (firstShift_err (by simp [shiftErr, c3]) (by omega)).symm)
        go_wp2_with (go_at_call 89; refine (offset_any _ _).mono ?_; rintro e w' ⟨rfl, rfl⟩)
        all_goals (try (exfalso; go_light; simp_all; done))
        all_goals (go_ret; exact ⟨ret_int he.out, below_trans hb below_alloc⟩)
      have k0 : (0 : Int) ≤ (k : Int) := by omega
      have k1 : (k : Int) < (n : Int) := by omega
      have hbk := below_trans HB0.out (below_alloc (o := .cells #[.int .i64 x.at_, .int .i64 x.offset] 104))
      have HBK := hide hbk
      have hbb := below_trans hb (below_alloc (o := .cells #[.int .i64 x.at_, .int .i64 x.offset] 104))
      clear hbk
      by_cases hk0 : k = 0
      · have HR : Hid (firstShift xs 0 xs = firstShift xs (k + 1) (xs.drop (k + 1))) := hide (by rw [HE.out, HX.out]; exact firstShift_zero (by simp [shiftErr, c1, c2, c3, hk0]))
        have q0 : decide (0 < k) = false := by simp; omega
        have HK0 := hide hk0
        clear hk0
        go_wp2_with (go_at_call 89; refine (offset_any _ _).mono ?_; rintro e w' ⟨rfl, rfl⟩)
        all_goals (try (exfalso; go_light; simp_all; done))
        go_quiet (fail)
        go_wp2
        go_roundw
        case rel => exact ⟨k + 1, by omega, by go_num, HR.out, by first | exact HBK.out | exact below_drewN HBK.out _⟩
        case measure => simp [intOf]; omega
      · obtain ⟨b', off', y, e, hB', HY, y0, y1, y2, y3⟩ := (hx.below hbb).shift (show k - 1 < n by omega)
        injection e with e
        injection e with e_1 e_2
        subst e_1 e_2
        have HP := hide (drop_get HY.out).1
        have q0 : decide (0 < k) = true := by simp; omega
        have i1 : (0 : Int) ≤ (k : Int) - 1 := by omega
        have i2 : (k : Int) - 1 < (n : Int) := by omega
        have i3 : ((k : Int) - 1).toNat = k - 1 := by omega
        have i5 : (1 : Int) ≤ (k : Int) := by omega
        have i6 : (k : Int) ≤ (n : Int) := by omega
        have i4 : IntKind.i64.wrap ((k : Int) - 1) = (k : Int) - 1 := IntWalk.i64_in _ (by omega)
        have P0 : Hid (0 < k) := hide (by omega)
        clear hk0
        by_cases c4 : x.at_ ≤ y.at_
        · have he : Hid (14 = zoneErr ⟨nm, off0, xs⟩) := hide (by rw [HE0.out, HE.out, HX.out]; exact (firstShift_err (by simp [shiftErr, c1, c2, c3, P0.out, HP.out, c4]) (by omega)).symm)
          go_wp2_with (go_at_call 89; refine (offset_any _ _).mono ?_; rintro e w' ⟨rfl, rfl⟩)
          all_goals (try (exfalso; go_light; simp_all; done))
          go_quiet (fail)
          go_wp2
          go_ret
          exact ⟨ret_int he.out, by first | exact hbb | exact below_drewN hbb _⟩
        · have HR : Hid (firstShift xs 0 xs = firstShift xs (k + 1) (xs.drop (k + 1))) := hide (by rw [HE.out, HX.out]; exact firstShift_zero (by simp [shiftErr, c1, c2, c3, HP.out, c4]))
          go_wp2_with (go_at_call 89; refine (offset_any _ _).mono ?_; rintro e w' ⟨rfl, rfl⟩)
          all_goals (try (exfalso; go_light; simp_all; done))
          go_quiet (fail)
          go_wp2
          go_roundw
          case rel => exact ⟨k + 1, by omega, by go_num, HR.out, by first | exact HBK.out | exact below_drewN HBK.out _⟩
          case measure => simp [intOf]; omega
    · go_wp2
      go_ret
      exact ⟨ret_int (by rw [HE0.out, HE.out, drop_end hx.len (by omega), firstShift]), hb⟩

set_option maxHeartbeats 2000000 in
set_option maxRecDepth 100000 in
theorem zone_ref (w : World) (A : Option Addr) (n c : Nat) (z : Zone) (hx : In w A n c z.shifts) (ho : I64 z.offset) :
    Calls Tryz.prog 96 #[.agg #[.string z.name, .int .i64 z.offset, .slice A n c]] w fun e w' => e = .returned (.int .i64 (zoneErr z)) ∧ Below w.heap.size w w' := by
  obtain ⟨nm, off0, xs⟩ := z
  simp only at hx ho ⊢
  have h63 := hx.le
  have hlen := hide hx.len
  by_cases h1 : 64 < n
  · have he : Hid (2 = zoneErr ⟨nm, off0, xs⟩) := hide (by simp only [zoneErr]; rw [hlen.out, if_pos h1])
    go_enter Tryz.func96, Tryz.ntmps96
    go_wp2
    all_goals (go_ret; exact ⟨ret_int he.out, below_alloc⟩)
  cases h2 : offOk off0
  · have he : Hid (1 = zoneErr ⟨nm, off0, xs⟩) := hide (by simp only [zoneErr]; rw [hlen.out, if_neg h1, if_pos h2])
    go_enter Tryz.func96, Tryz.ntmps96
    go_wp2_with (go_at_call 127; refine (within_ref _ _).mono ?_; rintro e w' ⟨rfl, rfl⟩)
    all_goals (go_ret; exact ⟨ret_int he.out, below_alloc⟩)
  have HE0 : Hid (zoneErr ⟨nm, off0, xs⟩ = firstShift xs 0 xs) := hide (by simp only [zoneErr]; rw [hlen.out, if_neg h1, if_neg (by simp [h2])])
  go_enter Tryz.func96, Tryz.ntmps96
  go_wp2_with (go_at_call 127; refine (within_ref _ _).mono ?_; rintro e w' ⟨rfl, rfl⟩)
  go_loopw [3] (fun i wr => ∃ k : Nat, k ≤ n ∧ i = .int .i64 k ∧ firstShift xs 0 xs = firstShift xs k (xs.drop k) ∧ Below (w.alloc (.cells #[.string nm, .int .i64 off0, .slice A n c] 25)).heap.size (w.alloc (.cells #[.string nm, .int .i64 off0, .slice A n c] 25)) wr) (fun i _ => n - (intOf i).toNat)
  case atStart => exact ⟨0, Nat.zero_le _, rfl, rfl, Below.refl _ _⟩
  case round =>
    obtain ⟨k, hk, rfl, heq, hb0⟩ := hrel
    have HE := hide heq
    clear heq
    have hb : Below w.heap.size w wr := below_trans below_alloc hb0
    have g0 : wr.cell? ⟨w.heap.size, 2, none⟩ = some (.slice A n c) := bat hb0 (by simp) (by simp [go_sem])
    have hsz : w.heap.size < wr.heap.size := by have := hb0.size; simp at this; omega
    have HB0 := hide hb0
    clear hb0
    by_cases hlt : k < n
    · obtain ⟨b, off, x, rfl, hB, HX, f0, f1, f2, f3⟩ := (hx.below hb).shift hlt
      have f2' := f2
      have f3' := f3
      unfold I64 at f2 f3
      by_cases c1 : x.at_ < 1
      · have he : Hid (1 = zoneErr ⟨nm, off0, xs⟩) := hide (by rw [HE0.out, HE.out, HX.out]; exact (firstShift_err (by simp [shiftErr, c1]) (by omega)).symm)
        go_wp2_with (go_at_call 127; refine (within_ref _ _).mono ?_; rintro e w' ⟨rfl, rfl⟩)
        all_goals (try (exfalso; go_light; simp_all; done))
        all_goals (go_ret; exact ⟨ret_int he.out, below_trans hb below_alloc⟩)
      by_cases c2 : 575999999 < x.at_
      · have he : Hid (1 = zoneErr ⟨nm, off0, xs⟩) := hide (by rw [HE0.out, HE.out, HX.out]; exact (firstShift_err (by simp [shiftErr, c2]) (by omega)).symm)
        go_wp2_with (go_at_call 127; refine (within_ref _ _).mono ?_; rintro e w' ⟨rfl, rfl⟩)
        all_goals (try (exfalso; go_light; simp_all; done))
        all_goals (go_ret; exact ⟨ret_int he.out, below_trans hb below_alloc⟩)
      cases c3 : offOk x.offset
      · have he : Hid (1 = zoneErr ⟨nm, off0, xs⟩) := hide (by rw [HE0.out, HE.out, HX.out]; exact (firstShift_err (by simp [shiftErr, c3]) (by omega)).symm)
        go_wp2_with (go_at_call 127; refine (within_ref _ _).mono ?_; rintro e w' ⟨rfl, rfl⟩)
        all_goals (try (exfalso; go_light; simp_all; done))
        all_goals (go_ret; exact ⟨ret_int he.out, below_trans hb below_alloc⟩)
      have k0 : (0 : Int) ≤ (k : Int) := by omega
      have k1 : (k : Int) < (n : Int) := by omega
      have hbk := below_trans HB0.out (below_alloc (o := .cells #[.int .i64 x.at_, .int .i64 x.offset] 104))
      have HBK := hide hbk
      have hbb := below_trans hb (below_alloc (o := .cells #[.int .i64 x.at_, .int .i64 x.offset] 104))
      clear hbk
      by_cases hk0 : k = 0
      · have HR : Hid (firstShift xs 0 xs = firstShift xs (k + 1) (xs.drop (k + 1))) := hide (by rw [HE.out, HX.out]; exact firstShift_zero (by simp [shiftErr, c1, c2, c3, hk0]))
        have q0 : decide (0 < k) = false := by simp; omega
        have HK0 := hide hk0
        clear hk0
        go_wp2_with (go_at_call 127; refine (within_ref _ _).mono ?_; rintro e w' ⟨rfl, rfl⟩)
        all_goals (try (exfalso; go_light; simp_all; done))
        go_quiet (fail)
        go_wp2
        go_roundw
        case rel => exact ⟨k + 1, by omega, by go_num, HR.out, by first | exact HBK.out | exact below_drewN HBK.out _⟩
        case measure => simp [intOf]; omega
      · obtain ⟨b', off', y, e, hB', HY, y0, y1, y2, y3⟩ := (hx.below hbb).shift (show k - 1 < n by omega)
        injection e with e
        injection e with e_1 e_2
        subst e_1 e_2
        have HP := hide (drop_get HY.out).1
        have q0 : decide (0 < k) = true := by simp; omega
        have i1 : (0 : Int) ≤ (k : Int) - 1 := by omega
        have i2 : (k : Int) - 1 < (n : Int) := by omega
        have i3 : ((k : Int) - 1).toNat = k - 1 := by omega
        have i5 : (1 : Int) ≤ (k : Int) := by omega
        have i6 : (k : Int) ≤ (n : Int) := by omega
        have i4 : IntKind.i64.wrap ((k : Int) - 1) = (k : Int) - 1 := IntWalk.i64_in _ (by omega)
        have P0 : Hid (0 < k) := hide (by omega)
        clear hk0
        by_cases c4 : x.at_ ≤ y.at_
        · have he : Hid (14 = zoneErr ⟨nm, off0, xs⟩) := hide (by rw [HE0.out, HE.out, HX.out]; exact (firstShift_err (by simp [shiftErr, c1, c2, c3, P0.out, HP.out, c4]) (by omega)).symm)
          go_wp2_with (go_at_call 127; refine (within_ref _ _).mono ?_; rintro e w' ⟨rfl, rfl⟩)
          all_goals (try (exfalso; go_light; simp_all; done))
          go_quiet (fail)
          go_wp2
          go_ret
          exact ⟨ret_int he.out, by first | exact hbb | exact below_drewN hbb _⟩
        · have HR : Hid (firstShift xs 0 xs = firstShift xs (k + 1) (xs.drop (k + 1))) := hide (by rw [HE.out, HX.out]; exact firstShift_zero (by simp [shiftErr, c1, c2, c3, HP.out, c4]))
          go_wp2_with (go_at_call 127; refine (within_ref _ _).mono ?_; rintro e w' ⟨rfl, rfl⟩)
          all_goals (try (exfalso; go_light; simp_all; done))
          go_quiet (fail)
          go_wp2
          go_roundw
          case rel => exact ⟨k + 1, by omega, by go_num, HR.out, by first | exact HBK.out | exact below_drewN HBK.out _⟩
          case measure => simp [intOf]; omega
    · go_wp2
      go_ret
      exact ⟨ret_int (by rw [HE0.out, HE.out, drop_end hx.len (by omega), firstShift]), hb⟩
end Go.Proofs.YtlbhnfnecfllkaaGreat
