/-
  warehouseref28.Judge. (Printed by gen_jdr.py.) warehouselaw28.light, ints. (Printed by gen_l28.py.)
-/
import Derived.Laws.EntriesVeiled
import Derived.Deep.DeepCutAuto
import Derived.Test.YtodapiholjeehaaGreatDoorGaq
import Derived.Test.YtodapiholjeehaaGreatDoorChkU
import Derived.Test.YtodapiholjeehaaGreatDoorChkA
import Derived.Test.YtodapiholjeehaaGreatDoorViolP
import Derived.Test.YtodapiholjeehaaGreatDoorGah
import Derived.Test.YtodapiholjeehaaGreatDoorGab
import Derived.Test.YtodapiholjeehaaGreatDoorGac
import Derived.Test.YtodapiholjeehaaGreatDoorGal
import Derived.Test.YtodapiholjeehaaGreatDoorGap
import Derived.Test.YtodapiholjeehaaGreatDoorNorm
import Derived.Test.YtodapiholjeehaaGreatDoorJdg
import Derived.Test.YtodapiholjeehaaGreatDoorGam
namespace Go.Proofs.YtodapiholjeehaaGreatDoor
open Go.RowKit Go.Maps
set_option linter.unusedSimpArgs false
set_option linter.unusedVariables false
def Box (w : World) (g : Nat) (l : List Value) : Prop := ∀ j v, l[j]? = some v → w.cell? ⟨g, j, none⟩ = some v
theorem Box.below {w w1 : World} {g B : Nat} {l : List Value} (h : Box w g l) (hg : g < B) (hb : Below B w w1) : Box w1 g l := fun j v hv => (hb.cell (p := ⟨g, j, none⟩) hg).trans (h j v hv)
theorem VerAt.set2 {w : World} {g : Nat} {v : Ver} (h : VerAt w g v) (p : Int) : VerAt (w.setCell ⟨g, 2, none⟩ (.int .i64 p)) g { v with rows := p } :=
  ⟨set_far h.c0 (.inr (by omega)), set_far h.c1 (.inr (by omega)), set_same h.c2, set_far h.c3 (.inr (by omega)), set_far h.c4 (.inr (by omega)), frozen_set h.fz _ _ _⟩
theorem VerAt.drew {w : World} {g : Nat} {v : Ver} (h : VerAt w g v) : VerAt w.drew g v := h.below (Below.refl _ _).drew
end Go.Proofs.YtodapiholjeehaaGreatDoor

namespace Go.Proofs.YtodapiholjeehaaGreatDoor
open Go.RowKit Go.Maps
set_option linter.unusedSimpArgs false
set_option linter.unusedVariables false
theorem elem_valsL : Elem Tryz.prog 59 85 3 32 := elem_mk _ Tryz.underlying59 val_info rfl (by decide)
theorem RetB.no {e : Ending} {P : Prop} (h : e = .returned (.bool false)) : RetB e P := ⟨false, h, fun q => by cases q⟩
theorem RetB.of {e : Ending} {P : Prop} {b : Bool} (hp : P) (h : e = .returned (.bool b)) : RetB e P := ⟨b, h, fun _ => hp⟩
set_option maxHeartbeats 4000000 in
set_option maxRecDepth 100000 in
theorem light28_any (w : World) (x : Chk) (A : Option Addr) (n c : Nat) (hn : In w A n c x.cols) (A' : Option Addr) (n' c' : Nat) (hn' : In w A' n' c' x.ocols) (A'' : Option Addr) (n'' c'' : Nat) (hq : In w A'' n'' c'' x.cond)
    (rn : ByteArray) (A1 : Option Addr) (n1 c1 : Nat) (cols : List Col) (hc : In w A1 n1 c1 cols) (Ak : Option Addr) (nk ck : Nat) (A3 : Option Addr) (n3 c3 : Nat) (rows : List Ent) (hr : In w A3 n3 c3 rows)
    (on : ByteArray) (A2 : Option Addr) (n2 c2 : Nat) (ocols : List Col) (ho : In w A2 n2 c2 ocols) (Al : Option Addr) (nl cl : Nat) (A4 : Option Addr) (n4 c4 : Nat) (orows : List Ent) (hor : In w A4 n4 c4 orows) (A5 : Option Addr) (n5 c5 : Nat) (zs : List Zone) (hz : In w A5 n5 c5 zs) :
    Calls Tryz.prog 31 #[.agg (chkCells x A n c A' n' c' A'' n'' c'').toArray, .agg #[.string rn, .slice A1 n1 c1, .slice Ak nk ck, .slice A3 n3 c3], .agg #[.string on, .slice A2 n2 c2, .slice Al nl cl, .slice A4 n4 c4], .slice A5 n5 c5] w
      fun e w' => RetB e (n ≤ 16 ∧ n' ≤ 16 ∧ n1 ≤ 16 ∧ n2 ≤ 16) ∧ Below w.heap.size w w' := by
  have l0 := hn.le
  have l1 := hn'.le
  have l2 := hq.le
  have l3 := hc.le
  have l4 := ho.le
  have l5 := hz.le
  by_cases q0 : 16 < n
  · have d0 : (16 : Int) < (n : Int) := by omega
    have HR := hide hr
    clear hr
    have HOR := hide hor
    clear hor
    have HZ := hide hz
    clear hz
    simp only [chkCells]
    go_enter Tryz.func31, Tryz.ntmps31
    go_wp2_with fail
    obtain ⟨W1, hW1⟩ : ∃ W, W = w.alloc (.cells #[.string x.name, .string x.table, .int .i64 x.kind, .slice A n c, .string x.other, .slice A' n' c', .int .i64 x.low, .int .i64 x.high, .slice A'' n'' c'', .int .i64 x.ln, .int .i64 x.ld, .int .i64 x.mn, .int .i64 x.md, .int .i64 x.policy] 27) := ⟨_, rfl⟩
    obtain ⟨hbW1, SZW1, g0, g1, g2, g3, g4, g5, g6, g7, g8, g9, g10, g11, g12, g13⟩ := boxed14 hW1 rfl
    rw [← hW1]
    clear hW1
    have HR := hide (HR.out.below hbW1)
    have HOR := hide (HOR.out.below hbW1)
    have HZ := hide (HZ.out.below hbW1)
    have LST1 := hide hbW1
    have SG1 := hide hbW1
    clear hbW1
    have LR := lt_of_cell g0
    obtain ⟨W2, hW2⟩ : ∃ W, W = W1.alloc (.cells #[.string rn, .slice A1 n1 c1, .slice Ak nk ck, .slice A3 n3 c3] 32) := ⟨_, rfl⟩
    obtain ⟨hbW2, SZW2, r0, r1, r2, r3⟩ := boxed4 (b := w.heap.size + 1) hW2 (by rw [SZW1.out])
    rw [← hW2]
    clear hW2
    have HR := hide (HR.out.below hbW2)
    have HOR := hide (HOR.out.below hbW2)
    have HZ := hide (HZ.out.below hbW2)
    have g0 := bat hbW2 LR g0
    have g1 := bat hbW2 LR g1
    have g2 := bat hbW2 LR g2
    have g3 := bat hbW2 LR g3
    have g4 := bat hbW2 LR g4
    have g5 := bat hbW2 LR g5
    have g6 := bat hbW2 LR g6
    have g7 := bat hbW2 LR g7
    have g8 := bat hbW2 LR g8
    have g9 := bat hbW2 LR g9
    have g10 := bat hbW2 LR g10
    have g11 := bat hbW2 LR g11
    have g12 := bat hbW2 LR g12
    have g13 := bat hbW2 LR g13
    have LR := lt_of_cell g0
    have LST2 := hide hbW2
    have SG2 := hide (below_trans SG1.out hbW2)
    clear hbW2
    have L2 := lt_of_cell r0
    obtain ⟨W3, hW3⟩ : ∃ W, W = W2.alloc (.cells #[.string on, .slice A2 n2 c2, .slice Al nl cl, .slice A4 n4 c4] 32) := ⟨_, rfl⟩
    obtain ⟨hbW3, SZW3, s0, s1, s2, s3⟩ := boxed4 (b := w.heap.size + 1 + 1) hW3 (by rw [SZW2.out, SZW1.out])
    rw [← hW3]
    clear hW3
    have HR := hide (HR.out.below hbW3)
    have HOR := hide (HOR.out.below hbW3)
    have HZ := hide (HZ.out.below hbW3)
    have g0 := bat hbW3 LR g0
    have g1 := bat hbW3 LR g1
    have g2 := bat hbW3 LR g2
    have g3 := bat hbW3 LR g3
    have g4 := bat hbW3 LR g4
    have g5 := bat hbW3 LR g5
    have g6 := bat hbW3 LR g6
    have g7 := bat hbW3 LR g7
    have g8 := bat hbW3 LR g8
    have g9 := bat hbW3 LR g9
    have g10 := bat hbW3 LR g10
    have g11 := bat hbW3 LR g11
    have g12 := bat hbW3 LR g12
    have g13 := bat hbW3 LR g13
    have LR := lt_of_cell g0
    have r0 := bat hbW3 L2 r0
    have r1 := bat hbW3 L2 r1
    have r2 := bat hbW3 L2 r2
    have r3 := bat hbW3 L2 r3
    have L2 := lt_of_cell r0
    have LST3 := hide hbW3
    have SG3 := hide (below_trans SG2.out hbW3)
    clear hbW3
    have L3 := lt_of_cell s0
    go_wp2
    all_goals (try (exfalso; go_light; simp_all; done))
    go_ret
    exact ⟨RetB.no rfl, SG3.out⟩
  have d0 : ¬ (16 : Int) < (n : Int) := by omega
  by_cases q1 : 16 < n'
  · have d1 : (16 : Int) < (n' : Int) := by omega
    have HR := hide hr
    clear hr
    have HOR := hide hor
    clear hor
    have HZ := hide hz
    clear hz
    simp only [chkCells]
    go_enter Tryz.func31, Tryz.ntmps31
    go_wp2_with fail
    obtain ⟨W1, hW1⟩ : ∃ W, W = w.alloc (.cells #[.string x.name, .string x.table, .int .i64 x.kind, .slice A n c, .string x.other, .slice A' n' c', .int .i64 x.low, .int .i64 x.high, .slice A'' n'' c'', .int .i64 x.ln, .int .i64 x.ld, .int .i64 x.mn, .int .i64 x.md, .int .i64 x.policy] 27) := ⟨_, rfl⟩
    obtain ⟨hbW1, SZW1, g0, g1, g2, g3, g4, g5, g6, g7, g8, g9, g10, g11, g12, g13⟩ := boxed14 hW1 rfl
    rw [← hW1]
    clear hW1
    have HR := hide (HR.out.below hbW1)
    have HOR := hide (HOR.out.below hbW1)
    have HZ := hide (HZ.out.below hbW1)
    have LST4 := hide hbW1
    have SG4 := hide hbW1
    clear hbW1
    have LR := lt_of_cell g0
    obtain ⟨W2, hW2⟩ : ∃ W, W = W1.alloc (.cells #[.string rn, .slice A1 n1 c1, .slice Ak nk ck, .slice A3 n3 c3] 32) := ⟨_, rfl⟩
    obtain ⟨hbW2, SZW2, r0, r1, r2, r3⟩ := boxed4 (b := w.heap.size + 1) hW2 (by rw [SZW1.out])
    rw [← hW2]
    clear hW2
    have HR := hide (HR.out.below hbW2)
    have HOR := hide (HOR.out.below hbW2)
    have HZ := hide (HZ.out.below hbW2)
    have g0 := bat hbW2 LR g0
    have g1 := bat hbW2 LR g1
    have g2 := bat hbW2 LR g2
    have g3 := bat hbW2 LR g3
    have g4 := bat hbW2 LR g4
    have g5 := bat hbW2 LR g5
    have g6 := bat hbW2 LR g6
    have g7 := bat hbW2 LR g7
    have g8 := bat hbW2 LR g8
    have g9 := bat hbW2 LR g9
    have g10 := bat hbW2 LR g10
    have g11 := bat hbW2 LR g11
    have g12 := bat hbW2 LR g12
    have g13 := bat hbW2 LR g13
    have LR := lt_of_cell g0
    have LST5 := hide hbW2
    have SG5 := hide (below_trans SG4.out hbW2)
    clear hbW2
    have L2 := lt_of_cell r0
    obtain ⟨W3, hW3⟩ : ∃ W, W = W2.alloc (.cells #[.string on, .slice A2 n2 c2, .slice Al nl cl, .slice A4 n4 c4] 32) := ⟨_, rfl⟩
    obtain ⟨hbW3, SZW3, s0, s1, s2, s3⟩ := boxed4 (b := w.heap.size + 1 + 1) hW3 (by rw [SZW2.out, SZW1.out])
    rw [← hW3]
    clear hW3
    have HR := hide (HR.out.below hbW3)
    have HOR := hide (HOR.out.below hbW3)
    have HZ := hide (HZ.out.below hbW3)
    have g0 := bat hbW3 LR g0
    have g1 := bat hbW3 LR g1
    have g2 := bat hbW3 LR g2
    have g3 := bat hbW3 LR g3
    have g4 := bat hbW3 LR g4
    have g5 := bat hbW3 LR g5
    have g6 := bat hbW3 LR g6
    have g7 := bat hbW3 LR g7
    have g8 := bat hbW3 LR g8
    have g9 := bat hbW3 LR g9
    have g10 := bat hbW3 LR g10
    have g11 := bat hbW3 LR g11
    have g12 := bat hbW3 LR g12
    have g13 := bat hbW3 LR g13
    have LR := lt_of_cell g0
    have r0 := bat hbW3 L2 r0
    have r1 := bat hbW3 L2 r1
    have r2 := bat hbW3 L2 r2
    have r3 := bat hbW3 L2 r3
    have L2 := lt_of_cell r0
    have LST6 := hide hbW3
    have SG6 := hide (below_trans SG5.out hbW3)
    clear hbW3
    have L3 := lt_of_cell s0
    go_wp2
    all_goals (try (exfalso; go_light; simp_all; done))
    go_ret
    exact ⟨RetB.no rfl, SG6.out⟩
  have d1 : ¬ (16 : Int) < (n' : Int) := by omega
  by_cases q2 : 40 < n''
  · have d2 : (40 : Int) < (n'' : Int) := by omega
    have HR := hide hr
    clear hr
    have HOR := hide hor
    clear hor
    have HZ := hide hz
    clear hz
    simp only [chkCells]
    go_enter Tryz.func31, Tryz.ntmps31
    go_wp2_with fail
    obtain ⟨W1, hW1⟩ : ∃ W, W = w.alloc (.cells #[.string x.name, .string x.table, .int .i64 x.kind, .slice A n c, .string x.other, .slice A' n' c', .int .i64 x.low, .int .i64 x.high, .slice A'' n'' c'', .int .i64 x.ln, .int .i64 x.ld, .int .i64 x.mn, .int .i64 x.md, .int .i64 x.policy] 27) := ⟨_, rfl⟩
    obtain ⟨hbW1, SZW1, g0, g1, g2, g3, g4, g5, g6, g7, g8, g9, g10, g11, g12, g13⟩ := boxed14 hW1 rfl
    rw [← hW1]
    clear hW1
    have HR := hide (HR.out.below hbW1)
    have HOR := hide (HOR.out.below hbW1)
    have HZ := hide (HZ.out.below hbW1)
    have LST7 := hide hbW1
    have SG7 := hide hbW1
    clear hbW1
    have LR := lt_of_cell g0
    obtain ⟨W2, hW2⟩ : ∃ W, W = W1.alloc (.cells #[.string rn, .slice A1 n1 c1, .slice Ak nk ck, .slice A3 n3 c3] 32) := ⟨_, rfl⟩
    obtain ⟨hbW2, SZW2, r0, r1, r2, r3⟩ := boxed4 (b := w.heap.size + 1) hW2 (by rw [SZW1.out])
    rw [← hW2]
    clear hW2
    have HR := hide (HR.out.below hbW2)
    have HOR := hide (HOR.out.below hbW2)
    have HZ := hide (HZ.out.below hbW2)
    have g0 := bat hbW2 LR g0
    have g1 := bat hbW2 LR g1
    have g2 := bat hbW2 LR g2
    have g3 := bat hbW2 LR g3
    have g4 := bat hbW2 LR g4
    have g5 := bat hbW2 LR g5
    have g6 := bat hbW2 LR g6
    have g7 := bat hbW2 LR g7
    have g8 := bat hbW2 LR g8
    have g9 := bat hbW2 LR g9
    have g10 := bat hbW2 LR g10
    have g11 := bat hbW2 LR g11
    have g12 := bat hbW2 LR g12
    have g13 := bat hbW2 LR g13
    have LR := lt_of_cell g0
    have LST8 := hide hbW2
    have SG8 := hide (below_trans SG7.out hbW2)
    clear hbW2
    have L2 := lt_of_cell r0
    obtain ⟨W3, hW3⟩ : ∃ W, W = W2.alloc (.cells #[.string on, .slice A2 n2 c2, .slice Al nl cl, .slice A4 n4 c4] 32) := ⟨_, rfl⟩
    obtain ⟨hbW3, SZW3, s0, s1, s2, s3⟩ := boxed4 (b := w.heap.size + 1 + 1) hW3 (by rw [SZW2.out, SZW1.out])
    rw [← hW3]
    clear hW3
    have HR := hide (HR.out.below hbW3)
    have HOR := hide (HOR.out.below hbW3)
    have HZ := hide (HZ.out.below hbW3)
    have g0 := bat hbW3 LR g0
    have g1 := bat hbW3 LR g1
    have g2 := bat hbW3 LR g2
    have g3 := bat hbW3 LR g3
    have g4 := bat hbW3 LR g4
    have g5 := bat hbW3 LR g5
    have g6 := bat hbW3 LR g6
    have g7 := bat hbW3 LR g7
    have g8 := bat hbW3 LR g8
    have g9 := bat hbW3 LR g9
    have g10 := bat hbW3 LR g10
    have g11 := bat hbW3 LR g11
    have g12 := bat hbW3 LR g12
    have g13 := bat hbW3 LR g13
    have LR := lt_of_cell g0
    have r0 := bat hbW3 L2 r0
    have r1 := bat hbW3 L2 r1
    have r2 := bat hbW3 L2 r2
    have r3 := bat hbW3 L2 r3
    have L2 := lt_of_cell r0
    have LST9 := hide hbW3
    have SG9 := hide (below_trans SG8.out hbW3)
    clear hbW3
    have L3 := lt_of_cell s0
    go_wp2
    all_goals (try (exfalso; go_light; simp_all; done))
    go_ret
    exact ⟨RetB.no rfl, SG9.out⟩
  have d2 : ¬ (40 : Int) < (n'' : Int) := by omega
  by_cases q3 : 4 < n5
  · have d3 : (4 : Int) < (n5 : Int) := by omega
    have HR := hide hr
    clear hr
    have HOR := hide hor
    clear hor
    have HZ := hide hz
    clear hz
    simp only [chkCells]
    go_enter Tryz.func31, Tryz.ntmps31
    go_wp2_with fail
    obtain ⟨W1, hW1⟩ : ∃ W, W = w.alloc (.cells #[.string x.name, .string x.table, .int .i64 x.kind, .slice A n c, .string x.other, .slice A' n' c', .int .i64 x.low, .int .i64 x.high, .slice A'' n'' c'', .int .i64 x.ln, .int .i64 x.ld, .int .i64 x.mn, .int .i64 x.md, .int .i64 x.policy] 27) := ⟨_, rfl⟩
    obtain ⟨hbW1, SZW1, g0, g1, g2, g3, g4, g5, g6, g7, g8, g9, g10, g11, g12, g13⟩ := boxed14 hW1 rfl
    rw [← hW1]
    clear hW1
    have HR := hide (HR.out.below hbW1)
    have HOR := hide (HOR.out.below hbW1)
    have HZ := hide (HZ.out.below hbW1)
    have LST10 := hide hbW1
    have SG10 := hide hbW1
    clear hbW1
    have LR := lt_of_cell g0
    obtain ⟨W2, hW2⟩ : ∃ W, W = W1.alloc (.cells #[.string rn, .slice A1 n1 c1, .slice Ak nk ck, .slice A3 n3 c3] 32) := ⟨_, rfl⟩
    obtain ⟨hbW2, SZW2, r0, r1, r2, r3⟩ := boxed4 (b := w.heap.size + 1) hW2 (by rw [SZW1.out])
    rw [← hW2]
    clear hW2
    have HR := hide (HR.out.below hbW2)
    have HOR := hide (HOR.out.below hbW2)
    have HZ := hide (HZ.out.below hbW2)
    have g0 := bat hbW2 LR g0
    have g1 := bat hbW2 LR g1
    have g2 := bat hbW2 LR g2
    have g3 := bat hbW2 LR g3
    have g4 := bat hbW2 LR g4
    have g5 := bat hbW2 LR g5
    have g6 := bat hbW2 LR g6
    have g7 := bat hbW2 LR g7
    have g8 := bat hbW2 LR g8
    have g9 := bat hbW2 LR g9
    have g10 := bat hbW2 LR g10
    have g11 := bat hbW2 LR g11
    have g12 := bat hbW2 LR g12
    have g13 := bat hbW2 LR g13
    have LR := lt_of_cell g0
    have LST11 := hide hbW2
    have SG11 := hide (below_trans SG10.out hbW2)
    clear hbW2
    have L2 := lt_of_cell r0
    obtain ⟨W3, hW3⟩ : ∃ W, W = W2.alloc (.cells #[.string on, .slice A2 n2 c2, .slice Al nl cl, .slice A4 n4 c4] 32) := ⟨_, rfl⟩
    obtain ⟨hbW3, SZW3, s0, s1, s2, s3⟩ := boxed4 (b := w.heap.size + 1 + 1) hW3 (by rw [SZW2.out, SZW1.out])
    rw [← hW3]
    clear hW3
    have HR := hide (HR.out.below hbW3)
    have HOR := hide (HOR.out.below hbW3)
    have HZ := hide (HZ.out.below hbW3)
    have g0 := bat hbW3 LR g0
    have g1 := bat hbW3 LR g1
    have g2 := bat hbW3 LR g2
    have g3 := bat hbW3 LR g3
    have g4 := bat hbW3 LR g4
    have g5 := bat hbW3 LR g5
    have g6 := bat hbW3 LR g6
    have g7 := bat hbW3 LR g7
    have g8 := bat hbW3 LR g8
    have g9 := bat hbW3 LR g9
    have g10 := bat hbW3 LR g10
    have g11 := bat hbW3 LR g11
    have g12 := bat hbW3 LR g12
    have g13 := bat hbW3 LR g13
    have LR := lt_of_cell g0
    have r0 := bat hbW3 L2 r0
    have r1 := bat hbW3 L2 r1
    have r2 := bat hbW3 L2 r2
    have r3 := bat hbW3 L2 r3
    have L2 := lt_of_cell r0
    have LST12 := hide hbW3
    have SG12 := hide (below_trans SG11.out hbW3)
    clear hbW3
    have L3 := lt_of_cell s0
    go_wp2
    all_goals (try (exfalso; go_light; simp_all; done))
    go_ret
    exact ⟨RetB.no rfl, SG12.out⟩
  have d3 : ¬ (4 : Int) < (n5 : Int) := by omega
  have HR := hide hr
  clear hr
  have HOR := hide hor
  clear hor
  have HZ := hide hz
  clear hz
  simp only [chkCells]
  go_enter Tryz.func31, Tryz.ntmps31
  go_wp2_with fail
  obtain ⟨W1, hW1⟩ : ∃ W, W = w.alloc (.cells #[.string x.name, .string x.table, .int .i64 x.kind, .slice A n c, .string x.other, .slice A' n' c', .int .i64 x.low, .int .i64 x.high, .slice A'' n'' c'', .int .i64 x.ln, .int .i64 x.ld, .int .i64 x.mn, .int .i64 x.md, .int .i64 x.policy] 27) := ⟨_, rfl⟩
  obtain ⟨hbW1, SZW1, g0, g1, g2, g3, g4, g5, g6, g7, g8, g9, g10, g11, g12, g13⟩ := boxed14 hW1 rfl
  rw [← hW1]
  clear hW1
  have HR := hide (HR.out.below hbW1)
  have HOR := hide (HOR.out.below hbW1)
  have HZ := hide (HZ.out.below hbW1)
  have LST13 := hide hbW1
  have SG13 := hide hbW1
  clear hbW1
  have LR := lt_of_cell g0
  obtain ⟨W2, hW2⟩ : ∃ W, W = W1.alloc (.cells #[.string rn, .slice A1 n1 c1, .slice Ak nk ck, .slice A3 n3 c3] 32) := ⟨_, rfl⟩
  obtain ⟨hbW2, SZW2, r0, r1, r2, r3⟩ := boxed4 (b := w.heap.size + 1) hW2 (by rw [SZW1.out])
  rw [← hW2]
  clear hW2
  have HR := hide (HR.out.below hbW2)
  have HOR := hide (HOR.out.below hbW2)
  have HZ := hide (HZ.out.below hbW2)
  have g0 := bat hbW2 LR g0
  have g1 := bat hbW2 LR g1
  have g2 := bat hbW2 LR g2
  have g3 := bat hbW2 LR g3
  have g4 := bat hbW2 LR g4
  have g5 := bat hbW2 LR g5
  have g6 := bat hbW2 LR g6
  have g7 := bat hbW2 LR g7
  have g8 := bat hbW2 LR g8
  have g9 := bat hbW2 LR g9
  have g10 := bat hbW2 LR g10
  have g11 := bat hbW2 LR g11
  have g12 := bat hbW2 LR g12
  have g13 := bat hbW2 LR g13
  have LR := lt_of_cell g0
  have LST14 := hide hbW2
  have SG14 := hide (below_trans SG13.out hbW2)
  clear hbW2
  have L2 := lt_of_cell r0
  obtain ⟨W3, hW3⟩ : ∃ W, W = W2.alloc (.cells #[.string on, .slice A2 n2 c2, .slice Al nl cl, .slice A4 n4 c4] 32) := ⟨_, rfl⟩
  obtain ⟨hbW3, SZW3, s0, s1, s2, s3⟩ := boxed4 (b := w.heap.size + 1 + 1) hW3 (by rw [SZW2.out, SZW1.out])
  rw [← hW3]
  clear hW3
  have HR := hide (HR.out.below hbW3)
  have HOR := hide (HOR.out.below hbW3)
  have HZ := hide (HZ.out.below hbW3)
  have g0 := bat hbW3 LR g0
  have g1 := bat hbW3 LR g1
  have g2 := bat hbW3 LR g2
  have g3 := bat hbW3 LR g3
  have g4 := bat hbW3 LR g4
  have g5 := bat hbW3 LR g5
  have g6 := bat hbW3 LR g6
  have g7 := bat hbW3 LR g7
  have g8 := bat hbW3 LR g8
  have g9 := bat hbW3 LR g9
  have g10 := bat hbW3 LR g10
  have g11 := bat hbW3 LR g11
  have g12 := bat hbW3 LR g12
  have g13 := bat hbW3 LR g13
  have LR := lt_of_cell g0
  have r0 := bat hbW3 L2 r0
  have r1 := bat hbW3 L2 r1
  have r2 := bat hbW3 L2 r2
  have r3 := bat hbW3 L2 r3
  have L2 := lt_of_cell r0
  have LST15 := hide hbW3
  have SG15 := hide (below_trans SG14.out hbW3)
  clear hbW3
  have L3 := lt_of_cell s0
  obtain ⟨W3, rfl⟩ : ∃ W, W = W3 := ⟨_, rfl⟩
  have HWB := hide SG15.out
  go_wp2
  go_loopg [9] n5 (fun left i wr => ∃ k : Nat, k + left = n5 ∧ i = .int .i64 k ∧ Below W3.heap.size W3 wr)
  case atStart => exact ⟨0, by omega, rfl, Below.refl _ _⟩
  case round =>
    obtain ⟨k, hk, rfl, hb⟩ := hrel
    have HR := hide (HR.out.below hb)
    have HOR := hide (HOR.out.below hb)
    have HZ := hide (HZ.out.below hb)
    have g0 := bat hb LR g0
    have g1 := bat hb LR g1
    have g2 := bat hb LR g2
    have g3 := bat hb LR g3
    have g4 := bat hb LR g4
    have g5 := bat hb LR g5
    have g6 := bat hb LR g6
    have g7 := bat hb LR g7
    have g8 := bat hb LR g8
    have g9 := bat hb LR g9
    have g10 := bat hb LR g10
    have g11 := bat hb LR g11
    have g12 := bat hb LR g12
    have g13 := bat hb LR g13
    have LR := lt_of_cell g0
    have r0 := bat hb L2 r0
    have r1 := bat hb L2 r1
    have r2 := bat hb L2 r2
    have r3 := bat hb L2 r3
    have L2 := lt_of_cell r0
    have s0 := bat hb L3 s0
    have s1 := bat hb L3 s1
    have s2 := bat hb L3 s2
    have s3 := bat hb L3 s3
    have L3 := lt_of_cell s0
    have LST16 := hide hb
    have SG16 := hide hb
    clear hb
    have HLW := hide SG16.out
    have HBW := hide (below_trans SG15.out SG16.out)
    by_cases hlt : k < n5
    · obtain ⟨b, off, z, rfl, hBb, HX, Az, nz, cz, e0, e1, e2, e3, _, _⟩ := HZ.out.zone hlt
      have k0 : (0 : Int) ≤ (k : Int) := by omega
      have k1 : (k : Int) < (n5 : Int) := by omega
      have lz := e3.le
      by_cases qz : 70 < nz
      · have dz : (70 : Int) < (nz : Int) := by omega
        go_wp2
        all_goals (try (exfalso; go_light; simp_all; done))
        go_ret
        exact ⟨RetB.no rfl, HBW.out⟩
      · have dz : ¬ (70 : Int) < (nz : Int) := by omega
        go_wp2
        all_goals (try (exfalso; go_light; simp_all; done))
        go_roundg (gk - 1)
        case measure => omega
        case rel => exact ⟨k + 1, by omega, by go_num, HLW.out⟩
    · by_cases qa : n1 ≤ 16
      rotate_left
      · have da : ¬ (n1 : Int) ≤ 16 := by omega
        go_wp2
        all_goals (try (exfalso; go_light; simp_all; done))
        go_ret
        exact ⟨RetB.no rfl, HBW.out⟩
      have da : (n1 : Int) ≤ 16 := by omega
      by_cases qb : n2 ≤ 16
      rotate_left
      · have db : ¬ (n2 : Int) ≤ 16 := by omega
        go_wp2
        all_goals (try (exfalso; go_light; simp_all; done))
        go_ret
        exact ⟨RetB.no rfl, HBW.out⟩
      have db : (n2 : Int) ≤ 16 := by omega
      have HLI := hide (show n ≤ 16 ∧ n' ≤ 16 ∧ n1 ≤ 16 ∧ n2 ≤ 16 by omega)
      go_wp2_with fail
      refine (within_any _ A3 n3 c3 rows HR.out 20).mono ?_
      rintro e w17 ⟨⟨ra, rfl, _⟩, hb17⟩
      have HR := hide (HR.out.below hb17)
      have HOR := hide (HOR.out.below hb17)
      have HZ := hide (HZ.out.below hb17)
      have g0 := bat hb17 LR g0
      have g1 := bat hb17 LR g1
      have g2 := bat hb17 LR g2
      have g3 := bat hb17 LR g3
      have g4 := bat hb17 LR g4
      have g5 := bat hb17 LR g5
      have g6 := bat hb17 LR g6
      have g7 := bat hb17 LR g7
      have g8 := bat hb17 LR g8
      have g9 := bat hb17 LR g9
      have g10 := bat hb17 LR g10
      have g11 := bat hb17 LR g11
      have g12 := bat hb17 LR g12
      have g13 := bat hb17 LR g13
      have LR := lt_of_cell g0
      have r0 := bat hb17 L2 r0
      have r1 := bat hb17 L2 r1
      have r2 := bat hb17 L2 r2
      have r3 := bat hb17 L2 r3
      have L2 := lt_of_cell r0
      have s0 := bat hb17 L3 s0
      have s1 := bat hb17 L3 s1
      have s2 := bat hb17 L3 s2
      have s3 := bat hb17 L3 s3
      have L3 := lt_of_cell s0
      have LST18 := hide hb17
      have SG18 := hide (below_trans SG16.out hb17)
      clear hb17
      cases ra
      · have HBX := hide (below_trans SG15.out SG18.out)
        go_wp2
        all_goals (try (exfalso; go_light; simp_all; done))
        go_ret
        exact ⟨RetB.of HLI.out rfl, HBX.out⟩
      go_wp2_with fail
      refine (within_any _ A4 n4 c4 orows HOR.out 20).mono ?_
      rintro e w19 ⟨⟨rb, rfl, _⟩, hb19⟩
      have HR := hide (HR.out.below hb19)
      have HOR := hide (HOR.out.below hb19)
      have HZ := hide (HZ.out.below hb19)
      have g0 := bat hb19 LR g0
      have g1 := bat hb19 LR g1
      have g2 := bat hb19 LR g2
      have g3 := bat hb19 LR g3
      have g4 := bat hb19 LR g4
      have g5 := bat hb19 LR g5
      have g6 := bat hb19 LR g6
      have g7 := bat hb19 LR g7
      have g8 := bat hb19 LR g8
      have g9 := bat hb19 LR g9
      have g10 := bat hb19 LR g10
      have g11 := bat hb19 LR g11
      have g12 := bat hb19 LR g12
      have g13 := bat hb19 LR g13
      have LR := lt_of_cell g0
      have r0 := bat hb19 L2 r0
      have r1 := bat hb19 L2 r1
      have r2 := bat hb19 L2 r2
      have r3 := bat hb19 L2 r3
      have L2 := lt_of_cell r0
      have s0 := bat hb19 L3 s0
      have s1 := bat hb19 L3 s1
      have s2 := bat hb19 L3 s2
      have s3 := bat hb19 L3 s3
      have L3 := lt_of_cell s0
      have LST20 := hide hb19
      have SG20 := hide (below_trans SG18.out hb19)
      clear hb19
      have HBX := hide (below_trans SG15.out SG20.out)
      go_wp2
      all_goals (try (exfalso; go_light; simp_all; done))
      go_ret
      exact ⟨RetB.of HLI.out rfl, HBX.out⟩
set_option maxHeartbeats 2000000 in
set_option maxRecDepth 100000 in
theorem ints28_any (w : World) (A : Option Addr) (n c : Nat) (l : List Int) (hx : In w A n c l) (hn : n ≤ 1000) :
    Calls Tryz.prog 69 #[.slice A n c] w
      fun e w' => (∃ A' c', e = .returned (.slice A' n c') ∧ In w' A' n c' (l.map fun k => (⟨2, k, ⟨#[]⟩⟩ : Val))) ∧ Below w.heap.size w w' := by
  have HLEN := hide hx.len
  have h63 := hx.le
  go_enter Tryz.func69, Tryz.ntmps69
  have HX := hide hx
  clear hx
  go_wp2
  go_loopg [3, 8] n (fun left v i wr => ∃ k : Nat, k + left = n ∧ i = .int .i64 k ∧ OL (α := Val) 85 w.heap.size (fun _ => False) [] wr v ((l.take k).map fun q => ⟨2, q, ⟨#[]⟩⟩) ∧ Below w.heap.size w wr)
  case atStart => exact ⟨0, by omega, rfl, OL.nil (Nat.le_refl _), Below.refl _ _⟩
  case round =>
    obtain ⟨k, hk, rfl, hol, hb⟩ := hrel
    have HOL := hide hol
    clear hol
    have HX := hide (HX.out.below hb)
    have LST21 := hide hb
    have SG21 := hide hb
    clear hb
    have HLW := hide SG21.out
    by_cases hlt : k < n
    · obtain ⟨b, off, m, rfl, hBb, HX1, e0, e1⟩ := HX.out.int hlt
      have k0 : (0 : Int) ≤ (k : Int) := by omega
      have k1 : (k : Int) < (n : Int) := by omega
      have HN : Hid ((l.take (k + 1)).map (fun q => (⟨2, q, ⟨#[]⟩⟩ : Val)) = (l.take k).map (fun q => (⟨2, q, ⟨#[]⟩⟩ : Val)) ++ [⟨2, m, ⟨#[]⟩⟩]) := hide (by rw [take_snoc HX1.out, List.map_append]; rfl)
      have hk63 : ((l.take k).map fun q => (⟨2, q, ⟨#[]⟩⟩ : Val)).length + 1 ≤ maxLen := by rw [List.length_map, List.length_take]; simp only [maxLen]; omega
      have hk64 : (((l.take k).map fun q => (⟨2, q, ⟨#[]⟩⟩ : Val)).length + 1) * 32 ≤ 140737488355328 := by rw [List.length_map, List.length_take]; omega
      have HKL : Hid (((l.take k).map fun q => (⟨2, q, ⟨#[]⟩⟩ : Val)).length = k) := hide (by rw [List.length_map, List.length_take, HLEN.out]; omega)
      obtain ⟨Ao, co, rfl⟩ := HOL.out.form
      rw [HKL.out] at HOL ⊢
      obtain ⟨ms, hms⟩ : ∃ s, (l.take k).map (fun q => (⟨2, q, ⟨#[]⟩⟩ : Val)) = s := ⟨_, rfl⟩
      rw [hms] at hk63 hk64 HN HOL
      clear hms
      have hvo : Val.ok ⟨2, m, ⟨#[]⟩⟩ := ⟨⟨by show (-9223372036854775808 : Int) ≤ 2; decide, by show (2 : Int) ≤ 9223372036854775807; decide⟩, e1, by show (⟨#[]⟩ : ByteArray).size ≤ 9223372036854775807; decide⟩
      go_wp2_with (at_builtin; refine wpList_push_OL _ rfl _ _ _ rfl elem_valsL (by simp) wr _ rfl HOL.out rfl rfl ⟨2, m, ⟨#[]⟩⟩ ⟨rfl, hvo⟩ hk63 hk64 ?_; intro v9 w9 ho9 hb9 hg9 hat9; have HO9 := hide ho9; have HB9 := hide hb9; clear ho9 hb9 hg9 hat9)
      go_roundg (gk - 1)
      case measure => omega
      case rel => exact ⟨k + 1, by omega, by go_num, by rw [HN.out]; exact HO9.out, HLW.out.trans HB9.out⟩
    · have HT : Hid (l.take k = l) := hide (List.take_of_length_le (by rw [HLEN.out]; omega))
      rw [HT.out] at HOL
      obtain ⟨A', c', hv, hin⟩ := HOL.out.inn
      rw [List.length_map, HLEN.out] at hv hin
      subst hv
      have HIN := hide hin
      have HBW := hide SG21.out
      clear hin
      go_wp2
      go_ret
      exact ⟨⟨_, _, rfl, HIN.out⟩, HBW.out⟩
end Go.Proofs.YtodapiholjeehaaGreatDoor
