/-
  Kinds of operands: scalar.kind's methods, scalar.common, slices.ContainsFunc over kinds; the reference's fits and common. partition.day, Day, check; warehouseref22.Day, days.
-/
import Derived.Test.YtodapiholjeehaaGreatDoorProg
import Derived.Test.YtodapiholjeehaaGreatDoorStk
import Derived.Test.YtodapiholjeehaaGreatDoorGaa
import Derived.Test.YtodapiholjeehaaGreatDoorGah
import Derived.Test.YtodapiholjeehaaGreatDoorGab
namespace Go.Proofs.YtodapiholjeehaaGreatDoor
open Go.RowKit
set_option linter.unusedSimpArgs false
set_option linter.unusedVariables false
def Kd.cells (x : Kd) : List Value := [.int .i64 x.kind, .bool x.null]
instance : Rep Kd where
  size := 2
  rd _ _ cs x := cs = x.cells ∧ I64 x.kind
  len h := by rw [h.1]; rfl
  keep _ h := h
  mono _ h := h
instance : Flat Kd where
  cs x := x.cells
  ok x := I64 x.kind
  rd_mk _ _ _ h := ⟨rfl, h⟩
  cs_len _ := rfl
  cs_one v u hu := by simp [Kd.cells] at hu; rcases hu with rfl | rfl <;> rfl
  pos := by decide
theorem In.kd {w : World} {A : Option Addr} {n c k : Nat} {xs : List Kd} (h : In w A n c xs) (hk : k < n) : ∃ b off x, A = some ⟨b, off, none⟩ ∧ b < w.heap.size ∧ Hid (xs.drop k = x :: xs.drop (k + 1)) ∧
    w.cell? ⟨b, off + k * 2, none⟩ = some (.int .i64 x.kind) ∧ w.cell? ⟨b, off + k * 2 + 1, none⟩ = some (.bool x.null) ∧ I64 x.kind := by
  obtain ⟨b, off, x, e, hb, hx, cs, ⟨rfl, hv⟩, hc⟩ := h.get hk
  exact ⟨b, off, x, e, hb, hx, hc 0 (by simp [Kd.cells]), hc 1 (by simp [Kd.cells]), hv⟩
theorem fits_any (k : Int) (b : Bool) (need : Int) (w : World) : Calls Tryz.prog 219 #[.agg #[.int .i64 k, .bool b], .int .i64 need] w fun e w' => e = .returned (.bool (fits ⟨k, b⟩ need)) ∧ Below w.heap.size w w' := by
  go_enter Tryz.func219, Tryz.ntmps219
  go_wp2
  all_goals (go_ret; refine ⟨ret_bool ?_, below_alloc⟩; go_light; simp_all [fits])
theorem fits_ref (k : Int) (b : Bool) (need : Int) (w : World) : Calls Tryz.prog 179 #[.agg #[.int .i64 k, .bool b], .int .i64 need] w fun e w' => e = .returned (.bool (fits ⟨k, b⟩ need)) ∧ Below w.heap.size w w' := by
  go_enter Tryz.func179, Tryz.ntmps179
  go_wp2
  all_goals (go_ret; refine ⟨ret_bool ?_, below_alloc⟩; go_light; simp_all [fits])
set_option maxHeartbeats 1000000 in
theorem common_any (k k' : Int) (b b' : Bool) (w : World) : Calls Tryz.prog 220 #[.agg #[.int .i64 k, .bool b], .agg #[.int .i64 k', .bool b']] w fun e w' => e = .returned (.tuple #[.int .i64 (common ⟨k, b⟩ ⟨k', b'⟩).1, .bool (common ⟨k, b⟩ ⟨k', b'⟩).2]) ∧ Below w.heap.size w w' := by
  by_cases h0 : k = 0
  · subst h0
    go_enter Tryz.func220, Tryz.ntmps220
    go_wp2
    go_ret2
    exact ⟨by simp [common], below_alloc2⟩
  · have q : (k == 0) = false := by simpa using h0
    have HC : Hid (common ⟨k, b⟩ ⟨k', b'⟩ = (k, fits ⟨k', b'⟩ k)) := hide (by simp [common, h0])
    clear h0
    go_enter Tryz.func220, Tryz.ntmps220
    go_wp2
    go_region_held3 (fun V => V.cell? ⟨w.heap.size, 0, none⟩ = some (.int .i64 k) ∧ V.cell? ⟨w.heap.size + 1, 0, none⟩ = some (.int .i64 k') ∧ V.cell? ⟨w.heap.size + 1, 1, none⟩ = some (.bool b') ∧ Below w.heap.size w V) (first | exact ⟨by go_keep, by go_keep, by go_keep, below_alloc2.drew⟩ | exact ⟨bat hb1 (by simp; omega) (by simp [go_sem]), bat hb1 (by simp) (by simp [go_sem]), bat hb1 (by simp) (by simp [go_sem]), below_trans below_alloc2.drew hb1⟩) (first | (go_at_call 219; refine (fits_any _ _ _ _).mono ?_; rintro e w1 ⟨rfl, hb1⟩))
    go_wp2
    go_ret2
    exact ⟨by rw [HC.out]; rfl, below_trans below_alloc2.drew hb1⟩
set_option maxHeartbeats 1000000 in
theorem common_ref (k k' : Int) (b b' : Bool) (w : World) : Calls Tryz.prog 178 #[.agg #[.int .i64 k, .bool b], .agg #[.int .i64 k', .bool b']] w fun e w' => e = .returned (.tuple #[.int .i64 (common ⟨k, b⟩ ⟨k', b'⟩).1, .bool (common ⟨k, b⟩ ⟨k', b'⟩).2]) ∧ Below w.heap.size w w' := by
  by_cases h0 : k = 0
  · subst h0
    go_enter Tryz.func178, Tryz.ntmps178
    go_wp2
    go_ret2
    exact ⟨by simp [common], below_alloc2⟩
  · have q : (k == 0) = false := by simpa using h0
    have HC : Hid (common ⟨k, b⟩ ⟨k', b'⟩ = (k, fits ⟨k', b'⟩ k)) := hide (by simp [common, h0])
    clear h0
    go_enter Tryz.func178, Tryz.ntmps178
    go_wp2
    go_region_held3 (fun V => V.cell? ⟨w.heap.size, 0, none⟩ = some (.int .i64 k) ∧ V.cell? ⟨w.heap.size + 1, 0, none⟩ = some (.int .i64 k') ∧ V.cell? ⟨w.heap.size + 1, 1, none⟩ = some (.bool b') ∧ Below w.heap.size w V) (first | exact ⟨by go_keep, by go_keep, by go_keep, below_alloc2.drew⟩ | exact ⟨bat hb1 (by simp; omega) (by simp [go_sem]), bat hb1 (by simp) (by simp [go_sem]), bat hb1 (by simp) (by simp [go_sem]), below_trans below_alloc2.drew hb1⟩) (first | (go_at_call 179; refine (fits_ref _ _ _ _).mono ?_; rintro e w1 ⟨rfl, hb1⟩))
    go_wp2
    go_ret2
    exact ⟨by rw [HC.out]; rfl, below_trans below_alloc2.drew hb1⟩
theorem clo_kd (k : Int) (b : Bool) (w : World) : Calls Tryz.prog 218 #[.agg #[.int .i64 k, .bool b]] w fun e w' => e = .returned (.bool b) ∧ Below w.heap.size w w' := by
  go_enter Tryz.func218, Tryz.ntmps218
  go_wp2
  go_ret
  exact ⟨rfl, below_alloc⟩
def nullIx : Nat → List Kd → Int
  | _, [] => -1
  | k, x :: l => if x.null then k else nullIx (k + 1) l
theorem nullIx_any : ∀ (l : List Kd) (k : Nat), decide (0 ≤ nullIx k l) = l.any Kd.null
  | [], _ => rfl
  | x :: l, k => by
    rw [nullIx, List.any_cons]
    cases h : x.null
    · simpa using nullIx_any l (k + 1)
    · simp
set_option maxRecDepth 100000 in
theorem indexFunc_kd (w : World) (A : Option Addr) (n c : Nat) (xs : List Kd) (hx : In w A n c xs) :
    Calls Tryz.prog 272 #[.slice A n c, .func (.func 218) #[] #[]] w
      fun e w' => e = .returned (.int .i64 (nullIx 0 xs)) ∧ Below w.heap.size w w' := by
  have h63 := hx.le
  go_enter Tryz.func272, Tryz.ntmps272
  go_wp2
  go_loopw [8] (fun i wr => ∃ k : Nat, k ≤ n ∧ i = .int .i64 k ∧ nullIx 0 xs = nullIx k (xs.drop k) ∧ Below w.heap.size w wr) (fun i _ => n - (intOf i).toNat)
  case atStart => exact ⟨0, Nat.zero_le _, rfl, rfl, Below.refl _ _⟩
  case round =>
    obtain ⟨k, hk, rfl, heq, hb⟩ := hrel
    have HE := hide heq
    clear heq
    by_cases hlt' : k < n
    · obtain ⟨b, off, x, rfl, hB, HX, e0, e1, e3⟩ := (hx.below hb).kd hlt'
      go_wp2_with fail
      refine (clo_kd _ _ _).mono ?_
      rintro e w1 ⟨rfl, hb1⟩
      have hbb := below_trans hb hb1
      clear hb1 e0 e1
      cases hz : x.null
      · go_wp2
        go_roundw
        case rel => exact ⟨k + 1, by omega, by go_num, by rw [HE.out, HX.out, nullIx, if_neg (by simp [hz])], hbb⟩
        case measure => simp [intOf]; omega
      · go_wp2
        go_ret
        exact ⟨ret_int (by rw [HE.out, HX.out, nullIx, if_pos hz]), hbb⟩
    · go_wp2
      go_ret
      exact ⟨ret_int (by rw [HE.out, drop_end hx.len (by omega), nullIx]), hb⟩
theorem containsFunc_kd (w : World) (A : Option Addr) (n c : Nat) (xs : List Kd) (hx : In w A n c xs) :
    Calls Tryz.prog 217 #[.slice A n c, .func (.func 218) #[] #[]] w
      fun e w' => e = .returned (.bool (xs.any Kd.null)) ∧ Below w.heap.size w w' := by
  have HN := hide (nullIx_any xs 0)
  go_enter Tryz.func217, Tryz.ntmps217
  go_wp2_with fail
  refine (indexFunc_kd _ _ _ _ xs hx).mono ?_
  rintro e w1 ⟨rfl, hb1⟩
  go_wp2
  go_ret
  exact ⟨ret_bool HN.out, hb1⟩
end Go.Proofs.YtodapiholjeehaaGreatDoor

namespace Go.Proofs.YtodapiholjeehaaGreatDoor
open Go.RowKit
set_option linter.unusedSimpArgs false
set_option linter.unusedVariables false
theorem rowErr_len {cols : List Col} {row : List Val} (h : rowErr cols row = 0) : row.length = cols.length := by
  by_cases h1 : row.length = cols.length
  · exact h1
  · rw [rowErr, if_pos h1] at h; omega
end Go.Proofs.YtodapiholjeehaaGreatDoor
