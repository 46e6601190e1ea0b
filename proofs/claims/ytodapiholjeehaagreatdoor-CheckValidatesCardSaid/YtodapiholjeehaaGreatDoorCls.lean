/-
  The closures of check.violated; check.holds.
-/
import Derived.Test.YtodapiholjeehaaGreatDoorGao
import Derived.Test.YtodapiholjeehaaGreatDoorGan
namespace Go.Proofs.YtodapiholjeehaaGreatDoor
open Go.RowKit Go.Maps
set_option linter.unusedSimpArgs false
set_option linter.unusedVariables false
structure OwnAt (W : World) (go gr gc : Nat) (A : Option Addr) (n c : Nat) (cols : List Col) (A3 : Option Addr) (n3 c3 : Nat) (names : List ByteArray) : Prop where
  own : W.cell? ⟨go, 0, none⟩ = some (.func (.func 124) #[] #[.pointer (some ⟨gr, 0, none⟩), .pointer (some ⟨gc, 0, none⟩)])
  rel : W.cell? ⟨gr, 1, none⟩ = some (.slice A n c)
  chk : W.cell? ⟨gc, 3, none⟩ = some (.slice A3 n3 c3)
  cols : In W A n c cols
  names : In W A3 n3 c3 names
theorem OwnAt.below {W W' : World} {go gr gc : Nat} {A : Option Addr} {n c : Nat} {cols : List Col} {A3 : Option Addr} {n3 c3 : Nat} {names : List ByteArray} (h : OwnAt W go gr gc A n c cols A3 n3 c3 names) (hb : Below W.heap.size W W') : OwnAt W' go gr gc A n c cols A3 n3 c3 names :=
  ⟨bat hb (lt_of_cell h.own) h.own, bat hb (lt_of_cell h.rel) h.rel, bat hb (lt_of_cell h.chk) h.chk, h.cols.below hb, h.names.below hb⟩
section
variable (W : World) (go gr gc : Nat) (A : Option Addr) (n c : Nat) (cols : List Col) (A3 : Option Addr) (n3 c3 : Nat) (names : List ByteArray) (h : OwnAt W go gr gc A n c cols A3 n3 c3 names) (hb0 : n ≤ 4096) (hb1 : n3 ≤ 4096)
  (Ar : Option Addr) (nr cr : Nat) (row : List Val) (hr : In W Ar nr cr row)
set_option maxRecDepth 100000 in
include h hb0 hb1 hr in
theorem own_clo :
    Calls Tryz.prog 124 #[.slice Ar nr cr, .pointer (some ⟨gr, 0, none⟩), .pointer (some ⟨gc, 0, none⟩)] W
      fun e w' => (∃ A' m c', e = .returned (.slice A' m c') ∧ In w' A' m c' (pickN cols names row)) ∧ Below W.heap.size W w' := by
  have e1 := h.rel
  have e2 := h.chk
  have HC := hide h.cols
  have HN := hide h.names
  clear h
  go_enter Tryz.func124, Tryz.ntmps124
  go_wp2_with fail
  refine (picked_any _ A n c cols (by exact HC.out) A3 n3 c3 names (by exact HN.out) Ar nr cr row (by exact hr) (by omega) hb1).mono ?_
  rintro e w1 ⟨⟨A', m, c', rfl, ho, hl, hm⟩, hb⟩
  have HI := hide (ol_in ho hl)
  have HB := hide hb
  clear ho hl hm hb
  go_wp2
  go_ret
  exact ⟨⟨A', m, c', rfl, HI.out⟩, HB.out⟩
set_option maxHeartbeats 2000000 in
set_option maxRecDepth 100000 in
include h hb0 hb1 hr in
theorem unique_clo (gm b k : Nat) (hm : W.cell? ⟨gm, 0, none⟩ = some (.map (some b))) (f : ByteArray → Int) (hS : StrM Tryz.prog 9 W b k (.int .i64 0) (fun s => .int .i64 (f s))) :
    Calls Tryz.prog 126 #[.slice Ar nr cr, .pointer (some ⟨gm, 0, none⟩), .pointer (some ⟨go, 0, none⟩)] W
      fun e w' => e = .returned (.bool (decide (1 < f (textS (pickN cols names row))))) ∧ Below W.heap.size W w' := by
  have e0 := h.own
  have l0 := lt_of_cell e0
  have lm := lt_of_cell hm
  have HO := hide h
  have HS := hide hS
  have HR := hide hr
  have HM := hide hm
  have HE := hide e0
  have L0 := hide l0
  have LM := hide lm
  obtain ⟨T, hT⟩ : ∃ T, textS (pickN cols names row) = T := ⟨_, rfl⟩
  have HTS := hide (textS_size (pickN cols names row))
  rw [hT] at HTS
  have HT := hide hT
  rw [hT]
  clear hT h hS hr
  obtain ⟨PV, hPV⟩ : ∃ p, pickN cols names row = p := ⟨_, rfl⟩
  have HOC := hide fun V hv hr => own_clo V go gr gc A n c cols A3 n3 c3 names hv hb0 hb1 Ar nr cr row hr
  rw [hPV] at HT HOC
  clear hPV
  go_enter Tryz.func126, Tryz.ntmps126
  go_wp2
  have mk0 : True := trivial
  go_region_held3 (fun V => V.cell? ⟨gm, 0, none⟩ = some (.map (some b)) ∧ V.cell? ⟨go, 0, none⟩ = some (.func (.func 124) #[] #[.pointer (some ⟨gr, 0, none⟩), .pointer (some ⟨gc, 0, none⟩)]))
    (first | exact ⟨bat HB2.out LM.out HM.out, bat HB2.out L0.out HE.out⟩ | exact ⟨bat HB1.out LM.out HM.out, bat HB1.out L0.out HE.out⟩ | exact ⟨hm, e0⟩)
    (first
      | (clear mk0; go_at_call 124; refine (HOC.out _ (by exact HO.out.below (Below.refl _ _).drew) (by exact HR.out.below (Below.refl _ _).drew)).mono ?_; rintro e w1 ⟨⟨A', m, c', rfl, hi⟩, hb⟩; have HI := hide hi; have HB1 := hide (below_undrew hb); clear hi hb; have mk1 : True := trivial)
      | (clear mk1; go_at_call 127; refine (text_any _ A' m c' PV (by exact HI.out)).mono ?_; rintro e w2 ⟨rfl, hb2⟩; rw [HT.out]; have HB2 := hide (below_trans HB1.out hb2); have LK := (HS.out.below HB2.out).look (V := w2) Tryz.underlying171 Tryz.underlying9 (fun V => Tryz.zeroValue3 V) HTS.out rfl; clear hb2; have mk2 : True := trivial))
  go_wp2
  go_ret
  exact ⟨rfl, HB2.out⟩
set_option maxHeartbeats 2000000 in
set_option maxRecDepth 100000 in
include h hb0 hb1 hr in
set_option maxHeartbeats 2000000 in
set_option maxRecDepth 100000 in
include h hb0 hb1 hr in
set_option maxHeartbeats 2000000 in
set_option maxRecDepth 100000 in
include h hb0 hb1 hr in
end
structure ChkAt (W : World) (g : Nat) (x : Chk) (A : Option Addr) (n c : Nat) (A' : Option Addr) (n' c' : Nat) (A'' : Option Addr) (n'' c'' : Nat) : Prop where
  c0 : W.cell? ⟨g, 0, none⟩ = some (.string x.name)
  c1 : W.cell? ⟨g, 1, none⟩ = some (.string x.table)
  c2 : W.cell? ⟨g, 2, none⟩ = some (.int .i64 x.kind)
  c3 : W.cell? ⟨g, 3, none⟩ = some (.slice A n c)
  c4 : W.cell? ⟨g, 4, none⟩ = some (.string x.other)
  c5 : W.cell? ⟨g, 5, none⟩ = some (.slice A' n' c')
  c6 : W.cell? ⟨g, 6, none⟩ = some (.int .i64 x.low)
  c7 : W.cell? ⟨g, 7, none⟩ = some (.int .i64 x.high)
  c8 : W.cell? ⟨g, 8, none⟩ = some (.slice A'' n'' c'')
  c9 : W.cell? ⟨g, 9, none⟩ = some (.int .i64 x.ln)
  c10 : W.cell? ⟨g, 10, none⟩ = some (.int .i64 x.ld)
  c11 : W.cell? ⟨g, 11, none⟩ = some (.int .i64 x.mn)
  c12 : W.cell? ⟨g, 12, none⟩ = some (.int .i64 x.md)
  c13 : W.cell? ⟨g, 13, none⟩ = some (.int .i64 x.policy)
theorem ChkAt.below {W W' : World} {g : Nat} {x : Chk} {A : Option Addr} {n c : Nat} {A' : Option Addr} {n' c' : Nat} {A'' : Option Addr} {n'' c'' : Nat} (h : ChkAt W g x A n c A' n' c' A'' n'' c'') (hb : Below W.heap.size W W') : ChkAt W' g x A n c A' n' c' A'' n'' c'' :=
  ⟨bat hb (lt_of_cell h.c0) h.c0, bat hb (lt_of_cell h.c1) h.c1, bat hb (lt_of_cell h.c2) h.c2, bat hb (lt_of_cell h.c3) h.c3, bat hb (lt_of_cell h.c4) h.c4, bat hb (lt_of_cell h.c5) h.c5, bat hb (lt_of_cell h.c6) h.c6, bat hb (lt_of_cell h.c7) h.c7, bat hb (lt_of_cell h.c8) h.c8, bat hb (lt_of_cell h.c9) h.c9, bat hb (lt_of_cell h.c10) h.c10, bat hb (lt_of_cell h.c11) h.c11, bat hb (lt_of_cell h.c12) h.c12, bat hb (lt_of_cell h.c13) h.c13⟩
theorem none_clo (W : World) (v : Value) : Calls Tryz.prog 133 #[v] W fun e w' => e = .returned (.bool false) ∧ Below W.heap.size W w' := by
  go_enter Tryz.func133, Tryz.ntmps133
  go_wp2
  go_ret
  exact ⟨rfl, Below.refl _ _⟩
end Go.Proofs.YtodapiholjeehaaGreatDoor
