/-
  bag.formed and warehouseref6.fits.
-/
import Derived.Test.YtmnhahilbbnkkaaRow
namespace Go.Proofs.Ytmnhahilbbnkkaa
open Go.RowKit
set_option linter.unusedSimpArgs false
set_option linter.unusedVariables false

def valF (_ : Nat) (v : Val) : Int := if valid v then 0 else 8
theorem entErr_def (x : Ent) : entErr x = if 12 < x.row.length ∨ x.count < -65536 ∨ 65536 < x.count then 2 else firstErr valF 0 x.row := rfl

set_option maxRecDepth 100000 in
theorem formed_any (w : World) (A : Option Addr) (n c : Nat) (x : Ent) (hx : In w A n c x.row) (hc : I64 x.count) :
    Calls Try.prog 25 #[.agg #[.slice A n c, .int .i64 x.count]] w fun e w' => e = .returned (.int .i64 (entErr x)) ∧ Below w.heap.size w w' := by
  obtain ⟨row, m⟩ := x
  have h63 := hx.le
  have hlen := hide hx.len
  unfold I64 at hc
  obtain ⟨hm1, hm2⟩ := hc
  simp only at hx hlen hm1 hm2 ⊢
  go_enter Try.func25, Try.ntmps25
  by_cases hs : 12 < n ∨ m < -65536 ∨ 65536 < m
  · have he : Hid (2 = entErr ⟨row, m⟩) := hide (by rw [entErr_def, hlen.out, if_pos hs])
    by_cases h1 : 12 < n
    · go_wp2
      all_goals (go_ret; exact ⟨ret_int he.out, below_alloc⟩)
    · by_cases h2 : m < -65536
      · go_wp2
        all_goals (go_ret; exact ⟨ret_int he.out, below_alloc⟩)
      · have h3 : 65536 < m := by omega
        go_wp2
        all_goals (go_ret; exact ⟨ret_int he.out, below_alloc⟩)
  have HE0 : Hid (entErr ⟨row, m⟩ = firstErr valF 0 row) := hide (by rw [entErr_def, hlen.out, if_neg hs])
  have h1 : n ≤ 12 := by omega
  have h2 : -65536 ≤ m := by omega
  have h3 : m ≤ 65536 := by omega
  clear hs
  go_wp2
  go_loopw [22] (fun i wr => ∃ k : Nat, k ≤ n ∧ i = .int .i64 k ∧ firstErr valF 0 row = firstErr valF k (row.drop k) ∧ Below w.heap.size w wr) (fun i _ => n - (intOf i).toNat)
  case atStart => exact ⟨0, Nat.zero_le _, rfl, rfl, below_alloc⟩
  case round =>
    obtain ⟨k, hk, rfl, heq, hb⟩ := hrel
    have HE := hide heq
    clear heq
    by_cases hlt : k < n
    · obtain ⟨b, off, x, rfl, hB, HX, f0, f1, f2, f3⟩ := (hx.below hb).val hlt
      go_wp2_with fail
      refine (valid_any x f3 _).mono ?_
      rintro e w1 ⟨rfl, hb1⟩
      have hbb := below_trans (below_trans hb below_alloc) hb1
      clear hb1 f0 f1 f2
      cases hv : valid x
      · have he : Hid (8 = entErr ⟨row, m⟩) := hide (by rw [HE0.out, HE.out, HX.out]; exact (firstErr_err (by simp [valF, hv]) (by omega)).symm)
        go_wp2
        go_ret
        exact ⟨ret_int he.out, hbb⟩
      · go_wp2
        go_roundw
        case rel => exact ⟨k + 1, by omega, by go_num, by rw [HE.out, HX.out]; exact firstErr_zero (by simp [valF, hv]), hbb⟩
        case measure => simp [intOf]; omega
    · go_wp2
      go_ret
      exact ⟨ret_int (by rw [HE0.out, HE.out, drop_end hx.len (by omega), firstErr]), hb⟩

theorem small_ref (m : Int) (w : World) : Calls Try.prog 43 #[.int .i64 m] w fun e w' => e = .returned (.bool (decide (-65536 ≤ m) && decide (m ≤ 65536))) ∧ w = w' := by
  go_enter Try.func43, Try.ntmps43
  go_wp2
  all_goals (go_ret; refine ⟨ret_bool ?_, rfl⟩; go_light; first | (simp_all; done) | (simp_all; omega))

set_option maxRecDepth 100000 in
theorem fits_ref (w : World) (A : Option Addr) (n c : Nat) (x : Ent) (hx : In w A n c x.row) (hc : I64 x.count) :
    Calls Try.prog 32 #[.agg #[.slice A n c, .int .i64 x.count]] w fun e w' => e = .returned (.int .i64 (entErr x)) ∧ Below w.heap.size w w' := by
  obtain ⟨row, m⟩ := x
  have h63 := hx.le
  have hlen := hide hx.len
  unfold I64 at hc
  obtain ⟨hm1, hm2⟩ := hc
  simp only at hx hlen hm1 hm2 ⊢
  go_enter Try.func32, Try.ntmps32
  by_cases hs : 12 < n ∨ m < -65536 ∨ 65536 < m
  · have he : Hid (2 = entErr ⟨row, m⟩) := hide (by rw [entErr_def, hlen.out, if_pos hs])
    by_cases h1 : 12 < n
    · go_wp2
      all_goals (go_ret; exact ⟨ret_int he.out, below_alloc⟩)
    · by_cases h2 : m < -65536
      · have hq : decide ((-65536 : Int) ≤ m) = false := by simp; omega
        go_wp2_with (go_at_call 43; refine (small_ref _ _).mono ?_; rintro e w' ⟨rfl, rfl⟩)
        all_goals (try (exfalso; go_light; simp_all; done))
        all_goals (go_ret; exact ⟨ret_int he.out, below_alloc⟩)
      · have h3 : 65536 < m := by omega
        have hq : decide (m ≤ (65536 : Int)) = false := by simp; omega
        go_wp2_with (go_at_call 43; refine (small_ref _ _).mono ?_; rintro e w' ⟨rfl, rfl⟩)
        all_goals (try (exfalso; go_light; simp_all; done))
        all_goals (go_ret; exact ⟨ret_int he.out, below_alloc⟩)
  have HE0 : Hid (entErr ⟨row, m⟩ = firstErr valF 0 row) := hide (by rw [entErr_def, hlen.out, if_neg hs])
  have h1 : n ≤ 12 := by omega
  have h2 : -65536 ≤ m := by omega
  have h3 : m ≤ 65536 := by omega
  clear hs
  go_wp2_with (go_at_call 43; refine (small_ref _ _).mono ?_; rintro e w' ⟨rfl, rfl⟩)
  all_goals (try (exfalso; go_light; simp_all; done))
  go_loopw [3] (fun i wr => ∃ k : Nat, k ≤ n ∧ i = .int .i64 k ∧ firstErr valF 0 row = firstErr valF k (row.drop k) ∧ Below (w.alloc (.cells #[.slice A n c, .int .i64 m] 37)).heap.size (w.alloc (.cells #[.slice A n c, .int .i64 m] 37)) wr) (fun i _ => n - (intOf i).toNat)
  case atStart => exact ⟨0, Nat.zero_le _, rfl, rfl, Below.refl _ _⟩
  case round =>
    obtain ⟨k, hk, rfl, heq, hb0⟩ := hrel
    have HE := hide heq
    clear heq
    have hb : Below w.heap.size w wr := below_trans below_alloc hb0
    have g0 : wr.cell? ⟨w.heap.size, 0, none⟩ = some (.slice A n c) := bat hb0 (by simp) (by simp [go_sem])
    have HB0 := hide hb0
    clear hb0
    by_cases hlt : k < n
    · obtain ⟨b, off, x, rfl, hB, HX, f0, f1, f2, f3⟩ := (hx.below hb).val hlt
      go_wp2_with fail
      refine (valid_ref x f3 _).mono ?_
      rintro e w1 ⟨rfl, hb1⟩
      have hbb := below_trans hb hb1
      have HB1 := hide (below_trans HB0.out hb1)
      clear hb1 f0 f1 f2
      cases hv : valid x
      · have he : Hid (8 = entErr ⟨row, m⟩) := hide (by rw [HE0.out, HE.out, HX.out]; exact (firstErr_err (by simp [valF, hv]) (by omega)).symm)
        go_wp2
        go_ret
        exact ⟨ret_int he.out, hbb⟩
      · go_wp2
        go_roundw
        case rel => exact ⟨k + 1, by omega, by go_num, by rw [HE.out, HX.out]; exact firstErr_zero (by simp [valF, hv]), HB1.out⟩
        case measure => simp [intOf]; omega
    · go_wp2
      go_ret
      exact ⟨ret_int (by rw [HE0.out, HE.out, drop_end hx.len (by omega), firstErr]), hb⟩
end Go.Proofs.Ytmnhahilbbnkkaa
