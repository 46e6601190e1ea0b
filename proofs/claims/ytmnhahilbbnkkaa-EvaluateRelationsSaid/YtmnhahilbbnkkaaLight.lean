/-
  warehouselaw19.light and plain.
-/
import Derived.Test.YtmnhahilbbnkkaaRel
import Derived.Test.YtmnhahilbbnkkaaOwn
import Derived.Test.YtmnhahilbbnkkaaBase
namespace Go.Proofs.Ytmnhahilbbnkkaa
open Go.RowKit
set_option linter.unusedSimpArgs false
set_option linter.unusedVariables false

def AnyBool (e : Ending) : Prop := ∃ b, e = .returned (.bool b)
set_option maxHeartbeats 2000000 in
set_option maxRecDepth 100000 in
theorem light_any (w : World) (A A' A'' : Option Addr) (n n' n'' c c' c'' : Nat) (r : Rel) (hx : In w A n c r.columns) (hy : In w A'' n'' c'' r.rows) :
    Calls Try.prog 4 #[.agg #[.string r.name, .slice A n c, .slice A' n' c', .slice A'' n'' c'']] w fun e w' => AnyBool e ∧ Below w.heap.size w w' := by
  obtain ⟨nm, cols, keys, rows⟩ := r
  simp only at hx hy ⊢
  have h63 := hy.le
  have h64 := hx.le
  go_enter Try.func4, Try.ntmps4
  by_cases q1 : 20 < n
  · go_wp2
    all_goals (go_ret; exact ⟨⟨_, rfl⟩, below_alloc⟩)
  by_cases q2 : 15 < n''
  · go_wp2
    all_goals (go_ret; exact ⟨⟨_, rfl⟩, below_alloc⟩)
  go_wp2
  all_goals (try (exfalso; go_light; simp_all; done))
  go_loopw [3] (fun i wr => ∃ k : Nat, k ≤ n'' ∧ i = .int .i64 k ∧ Below (w.alloc (.cells #[.string nm, .slice A n c, .slice A' n' c', .slice A'' n'' c''] 26)).heap.size (w.alloc (.cells #[.string nm, .slice A n c, .slice A' n' c', .slice A'' n'' c''] 26)) wr) (fun i _ => n'' - (intOf i).toNat)
  case atStart => exact ⟨0, Nat.zero_le _, rfl, Below.refl _ _⟩
  case round =>
    obtain ⟨k, hk, rfl, hb0⟩ := hrel
    have hb : Below w.heap.size w wr := below_trans below_alloc hb0
    have g0 : wr.cell? ⟨w.heap.size, 3, none⟩ = some (.slice A'' n'' c'') := bat hb0 (by simp) (by simp [go_sem])
    have HB0 := hide hb0
    clear hb0
    by_cases hlt : k < n''
    · obtain ⟨b, off, x, rfl, hB, HX, A2, n2, c2, f0, f1, f2, f3⟩ := (hy.below hb).ent hlt
      have h2 := f2.le
      unfold I64 at f3
      by_cases p1 : 20 < n2
      · go_wp2
        all_goals (go_ret; exact ⟨⟨_, rfl⟩, hb⟩)
      by_cases p2 : 100 < x.count
      · go_wp2
        all_goals (go_ret; exact ⟨⟨_, rfl⟩, hb⟩)
      go_wp2
      all_goals (try (exfalso; go_light; simp_all; done))
      go_roundw
      case rel => exact ⟨k + 1, by omega, by go_num, HB0.out⟩
      case measure => simp [intOf]; omega
    · go_wp2
      go_ret
      exact ⟨⟨_, rfl⟩, hb⟩

def plainR : Rel := ⟨⟨#[]⟩, [⟨⟨#[97]⟩, 2, false⟩], [], [⟨[⟨0, 0, ⟨#[]⟩⟩], 1⟩]⟩
def plainS : Rel := ⟨⟨#[]⟩, [⟨⟨#[97]⟩, 2, false⟩], [], []⟩
theorem size_a : (ByteArray.mk #[97]).size = 1 := rfl
theorem plainR_err : relErr plainR = 7 := by simp [relErr, colsErr, bagErr, plainR, firstErr, colErr, isName, nameFrom, byteAt, nameOk, index, indexFrom, rowErr, cellErr, valid, noStr_empty, bagErr1, entErr, isTable, size_a]
theorem plainS_err : relErr plainS = 0 := by simp [relErr, colsErr, bagErr, plainS, firstErr, colErr, isName, nameFrom, byteAt, nameOk, index, indexFrom, rowErr, cellErr, valid, noStr_empty, bagErr1, entErr, isTable, size_a]
def plainW (w : World) : World := (((w.alloc (.cells #[Value.string ⟨#[97]⟩, Value.int .i64 2, Value.bool false] 34)).alloc (.cells #[Value.int .i64 0, Value.int .i64 0, Value.string ⟨#[]⟩] 42)).alloc
  (.cells #[Value.slice (some ⟨w.heap.size + 1, 0, none⟩) 1 1, Value.int .i64 1] 37)).alloc (.cells #[Value.string ⟨#[]⟩, Value.slice (some ⟨w.heap.size, 0, none⟩) 1 1, Value.slice none 0 0, Value.slice (some ⟨w.heap.size + 1 + 1, 0, none⟩) 1 1] 26)
theorem i64_0 : I64 0 := by unfold I64; omega
theorem i64_1 : I64 1 := by unfold I64; omega
theorem i64_2 : I64 2 := by unfold I64; omega
theorem okV : Val.ok ⟨0, 0, ⟨#[]⟩⟩ := ⟨i64_0, i64_0, by show (0 : Nat) ≤ _; omega⟩
theorem okC : Col.ok ⟨⟨#[97]⟩, 2, false⟩ := ⟨by show (1 : Nat) ≤ _; omega, i64_2⟩
theorem plainW_post (w : World) : In (plainW w) (some ⟨w.heap.size, 0, none⟩) 1 1 plainR.columns ∧ In (plainW w) (some ⟨w.heap.size + 1 + 1, 0, none⟩) 1 1 plainR.rows ∧
    (plainW w).cell? ⟨w.heap.size + 1 + 1 + 1, 1, none⟩ = some (.slice (some ⟨w.heap.size, 0, none⟩) 1 1) ∧ Below w.heap.size w (plainW w) ∧ w.heap.size + 1 + 1 + 1 < (plainW w).heap.size := by
  obtain ⟨w1, e1⟩ : ∃ w1, w1 = w.alloc (.cells #[Value.string ⟨#[97]⟩, Value.int .i64 2, Value.bool false] 34) := ⟨_, rfl⟩
  obtain ⟨w2, e2⟩ : ∃ w2, w2 = w1.alloc (.cells #[Value.int .i64 0, Value.int .i64 0, Value.string ⟨#[]⟩] 42) := ⟨_, rfl⟩
  obtain ⟨w3, e3⟩ : ∃ w3, w3 = w2.alloc (.cells #[Value.slice (some ⟨w.heap.size + 1, 0, none⟩) 1 1, Value.int .i64 1] 37) := ⟨_, rfl⟩
  have z1 : w1.heap.size = w.heap.size + 1 := by rw [e1]; simp
  have z2 : w2.heap.size = w.heap.size + 1 + 1 := by rw [e2]; simp [z1]
  have z3 : w3.heap.size = w.heap.size + 1 + 1 + 1 := by rw [e3]; simp [z2]
  obtain ⟨w4, e4⟩ : ∃ w4, w4 = w3.alloc (.cells #[Value.string ⟨#[]⟩, Value.slice (some ⟨w.heap.size, 0, none⟩) 1 1, Value.slice none 0 0, Value.slice (some ⟨w.heap.size + 1 + 1, 0, none⟩) 1 1] 26) := ⟨_, rfl⟩
  have z4 : w4.heap.size = w.heap.size + 1 + 1 + 1 + 1 := by rw [e4]; simp [z3]
  have ee : plainW w = w4 := by rw [e4, e3, e2, e1]; rfl
  rw [ee]
  have h0 : w4.heap[w.heap.size]? = some (.cells #[Value.string ⟨#[97]⟩, Value.int .i64 2, Value.bool false] 34 (0, 0)) := by
    rw [e4, Below.heap_alloc _ _ _ (by omega), e3, Below.heap_alloc _ _ _ (by omega), e2, Below.heap_alloc _ _ _ (by omega), e1]; exact heap_alloc_new _ _
  have h1 : w4.heap[w.heap.size + 1]? = some (.cells #[Value.int .i64 0, Value.int .i64 0, Value.string ⟨#[]⟩] 42 (0, 0)) := by
    rw [e4, Below.heap_alloc _ _ _ (by omega), e3, Below.heap_alloc _ _ _ (by omega), e2, ← z1]; exact heap_alloc_new _ _
  have h2 : w4.heap[w.heap.size + 1 + 1]? = some (.cells #[Value.slice (some ⟨w.heap.size + 1, 0, none⟩) 1 1, Value.int .i64 1] 37 (0, 0)) := by
    rw [e4, Below.heap_alloc _ _ _ (by omega), e3, ← z2]; exact heap_alloc_new _ _
  have h3 : w4.heap[w.heap.size + 1 + 1 + 1]? = some (.cells #[Value.string ⟨#[]⟩, Value.slice (some ⟨w.heap.size, 0, none⟩) 1 1, Value.slice none 0 0, Value.slice (some ⟨w.heap.size + 1 + 1, 0, none⟩) 1 1] 26 (0, 0)) := by
    rw [e4, ← z3]; exact heap_alloc_new _ _
  have b0 : w.heap.size < w4.heap.size := by omega
  have b1 : w.heap.size + 1 < w4.heap.size := by omega
  have b2 : w.heap.size + 1 + 1 < w4.heap.size := by omega
  have hv : In w4 (some ⟨w.heap.size + 1, 0, none⟩) 1 1 [(⟨0, 0, ⟨#[]⟩⟩ : Val)] := ⟨rfl, by omega, by omega, (fun h => by cases h), fun _ => ⟨_, 0, rfl, b1, fun i hi => by
    obtain rfl : i = 0 := by simpa using hi
    refine ⟨Val.cells _, ⟨rfl, okV⟩, fun j hj => ?_⟩
    rw [cell_of_row _ _ _ _ _ (0, 0) h1]
    match j, hj with
    | 0, _ => rfl
    | 1, _ => rfl
    | 2, _ => rfl⟩⟩
  refine ⟨⟨rfl, by omega, by omega, (fun h => by cases h), fun _ => ⟨_, 0, rfl, b0, fun i hi => ?_⟩⟩, ⟨rfl, by omega, by omega, (fun h => by cases h), fun _ => ⟨_, 0, rfl, b2, fun i hi => ?_⟩⟩, (cell_of_row _ _ _ _ _ (0, 0) h3).trans rfl, ?_, by omega⟩
  · obtain rfl : i = 0 := by simpa [plainR] using hi
    refine ⟨Col.cells ⟨⟨#[97]⟩, 2, false⟩, ⟨rfl, okC⟩, fun j hj => ?_⟩
    rw [cell_of_row _ _ _ _ _ (0, 0) h0]
    match j, hj with
    | 0, _ => rfl
    | 1, _ => rfl
    | 2, _ => rfl
  · obtain rfl : i = 0 := by simpa [plainR] using hi
    refine ⟨[.slice (some ⟨w.heap.size + 1, 0, none⟩) 1 1, .int .i64 1], ⟨_, _, _, rfl, hv, i64_1⟩, fun j hj => ?_⟩
    rw [cell_of_row _ _ _ _ _ (0, 0) h2]
    match j, hj with
    | 0, _ => rfl
    | 1, _ => rfl
  · rw [e4]
    refine Below.alloc ?_ (by omega) _
    rw [e3]
    refine Below.alloc ?_ (by omega) _
    rw [e2]
    refine Below.alloc ?_ (by omega) _
    rw [e1]
    exact below_alloc

set_option maxHeartbeats 2000000 in
set_option maxRecDepth 100000 in
theorem plain_any (w : World) :
    Calls Try.prog 5 #[] w fun e w' => e = .returned (.bool true) ∧ Below w.heap.size w w' := by
  go_enter Try.func5, Try.ntmps5
  go_wp2_with fail
  refine (rel_any _ (some ⟨w.heap.size, 0, none⟩) none (some ⟨w.heap.size + 1 + 1, 0, none⟩) 1 0 1 1 0 1 plainR ?_ ?_).mono ?_
  · exact (plainW_post w).1
  · exact (plainW_post w).2.1
  rintro e w1 ⟨rfl, hb1⟩
  obtain ⟨p1, p2, p3, p4, p5⟩ := plainW_post w
  have hb1' : Below (plainW w).heap.size (plainW w) w1 := hb1
  have g1 := bat hb1' p5 p3
  have hin := hide (p1.below hb1')
  have hbb : Below w.heap.size w w1 := p4.trans (hb1'.mono p4.size)
  clear hb1 hb1' p1 p2 p3 p4 p5
  rw [plainR_err]
  go_wp2_with fail
  refine (rel_any w1 (some ⟨w.heap.size, 0, none⟩) none none 1 0 0 1 0 0 plainS ?_ ?_).mono ?_
  · exact hin.out
  · exact In.nil_
  rintro e w2 ⟨rfl, hb2⟩
  have hbb2 := below_trans hbb hb2
  clear hbb hb2
  rw [plainS_err]
  go_wp2
  go_ret
  exact ⟨rfl, hbb2⟩
end Go.Proofs.Ytmnhahilbbnkkaa
