/-
  check.checkCond. check.checkRows. Plain law: soundness of a node and of a whole expression; equality of values. No program is in sight. Plain law: the loop that evaluates an expression, step by step. No program is in sight. scalar.special and scalar.apply: with their operands they return opV. (Printed by gen_app.py.) scalar.Eval: it returns evalS. (Printed by gen_eval.py.)
-/
import Derived.Test.YtodapiholjeehaaGreatDoorGag
import Derived.Test.YtodapiholjeehaaGreatDoorTypG
import Derived.Test.YtodapiholjeehaaGreatDoorGab
import Derived.Test.YtodapiholjeehaaGreatDoorGah
import Derived.Test.YtodapiholjeehaaGreatDoorGaa
import Derived.Test.YtodapiholjeehaaGreatDoorMap
namespace Go.Proofs.YtodapiholjeehaaGreatDoor
open Go.RowKit
set_option linter.unusedSimpArgs false
set_option linter.unusedVariables false
def chkCells (x : Chk) (A : Option Addr) (n c : Nat) (A' : Option Addr) (n' c' : Nat) (A'' : Option Addr) (n'' c'' : Nat) : List Value := [.string x.name, .string x.table, .int .i64 x.kind, .slice A n c, .string x.other, .slice A' n' c', .int .i64 x.low, .int .i64 x.high, .slice A'' n'' c'', .int .i64 x.ln, .int .i64 x.ld, .int .i64 x.mn, .int .i64 x.md, .int .i64 x.policy]
set_option maxHeartbeats 2000000 in
set_option maxRecDepth 100000 in
theorem checkCond_any (w : World) (x : Chk) (A : Option Addr) (n c : Nat) (A' : Option Addr) (n' c' : Nat) (A'' : Option Addr) (n'' c'' : Nat) (hq : In w A'' n'' c'' x.cond) (hw : Words w) (A1 : Option Addr) (n1 c1 : Nat) (cols : List Col) (hc : In w A1 n1 c1 cols) (A2 : Option Addr) (n2 c2 : Nat) (zs : List Zone) (hz : In w A2 n2 c2 zs) :
    Calls Tryz.prog 73 #[.agg (chkCells x A n c A' n' c' A'' n'' c'').toArray, .slice A1 n1 c1, .slice A2 n2 c2] w fun e w' => e = .returned (.int .i64 (chkCond x cols zs)) ∧ Below w.heap.size w w' := by
  have HD := hide (show chkCond x cols zs = if (typeS x.cond cols zs).1 ≠ 0 then (typeS x.cond cols zs).1 else if (typeS x.cond cols zs).2.kind ≠ 1 ∧ (typeS x.cond cols zs).2.kind ≠ 0 then 7 else 0 from rfl)
  have HT := hide fun W hq hw hc hz => type_any W A'' n'' c'' x.cond hq hw A1 n1 c1 cols hc A2 n2 c2 zs hz
  obtain ⟨R, hR⟩ : ∃ R, chkCond x cols zs = R := ⟨_, rfl⟩
  obtain ⟨T, hT⟩ : ∃ T, typeS x.cond cols zs = T := ⟨_, rfl⟩
  rw [hR, hT] at HD
  rw [hT] at HT
  rw [hR]
  clear hR hT
  obtain ⟨te, tk, tn⟩ := T
  simp only at HD HT
  simp only [chkCells]
  go_enter Tryz.func73, Tryz.ntmps73
  go_wp2_with fail
  refine (HT.out _ (by exact hq.below below_alloc) (by exact hw.below below_alloc) (by exact hc.below below_alloc) (by exact hz.below below_alloc)).mono ?_
  rintro e w1 ⟨rfl, hb1⟩
  have HB1 := hide (below_trans below_alloc hb1)
  clear hb1 hq hw hc hz HT
  by_cases h0 : te = 0
  · subst h0
    by_cases h1 : tk = 1
    · subst h1
      obtain rfl : R = 0 := by rw [HD.out]; simp
      go_wp2
      all_goals (try (exfalso; go_light; simp_all; done))
      go_ret
      exact ⟨rfl, HB1.out⟩
    · by_cases h2 : tk = 0
      · subst h2
        obtain rfl : R = 0 := by rw [HD.out]; simp
        go_wp2
        all_goals (try (exfalso; go_light; simp_all; done))
        go_ret
        exact ⟨rfl, HB1.out⟩
      · have q1 : (tk != 1) = true := by simpa using h1
        have q2 : (tk != 0) = true := by simpa using h2
        obtain rfl : R = 7 := by rw [HD.out]; simp [h1, h2]
        go_wp2
        all_goals (try (exfalso; go_light; simp_all; done))
        go_ret
        exact ⟨rfl, HB1.out⟩
  · have q0 : (te != 0) = true := by simpa using h0
    obtain rfl : R = te := by rw [HD.out]; simp [h0]
    go_wp2
    all_goals (try (exfalso; go_light; simp_all; done))
    go_ret
    exact ⟨rfl, HB1.out⟩
end Go.Proofs.YtodapiholjeehaaGreatDoor

namespace Go.Proofs.YtodapiholjeehaaGreatDoor
open Go.RowKit
set_option linter.unusedSimpArgs false
set_option linter.unusedVariables false
def tabErr (cols : List Col) (rows : List Ent) : Int := if bagErr rows ≠ 0 then bagErr rows else if isTable rows = false then 8 else firstErr (fun _ x => rowErr cols x.row) 0 rows
set_option maxHeartbeats 4000000 in
set_option maxRecDepth 100000 in
theorem checkRows_chk (w : World) (nm : ByteArray) (A : Option Addr) (n c : Nat) (cols : List Col) (hc : In w A n c cols) (A' : Option Addr) (n' c' : Nat) (A2 : Option Addr) (n2 c2 : Nat) (rows : List Ent) (hr : In w A2 n2 c2 rows) :
    Calls Tryz.prog 123 #[.agg #[.string nm, .slice A n c, .slice A' n' c', .slice A2 n2 c2]] w fun e w' => e = .returned (.int .i64 (tabErr cols rows)) ∧ Below w.heap.size w w' := by
  have HD := hide (show tabErr cols rows = if bagErr rows ≠ 0 then bagErr rows else if isTable rows = false then 8 else firstErr (fun _ x => rowErr cols x.row) 0 rows from rfl)
  obtain ⟨R, hR⟩ : ∃ R, tabErr cols rows = R := ⟨_, rfl⟩
  rw [hR] at HD
  rw [hR]
  clear hR
  have h63 := hr.le
  go_enter Tryz.func123, Tryz.ntmps123
  have HC := hide hc
  clear hc
  have HR := hide hr
  clear hr
  go_wp2_with fail
  obtain ⟨W1, hW1⟩ : ∃ W, W = w.alloc (.cells #[.string nm, .slice A n c, .slice A' n' c', .slice A2 n2 c2] 32) := ⟨_, rfl⟩
  obtain ⟨hbW1, SZW1, g0, g1, g2, g3⟩ := boxed4 hW1 rfl
  rw [← hW1]
  clear hW1
  have HC := hide (HC.out.below hbW1)
  have HR := hide (HR.out.below hbW1)
  have LST1 := hide hbW1
  have SG1 := hide hbW1
  clear hbW1
  have LR := lt_of_cell g0
  obtain ⟨B, hB⟩ : ∃ B, bagErr rows = B := ⟨_, rfl⟩
  have HBE := hide hB
  obtain ⟨T, hT⟩ : ∃ T, isTable rows = T := ⟨_, rfl⟩
  have HTE := hide hT
  rw [hB, hT] at HD
  clear hB hT
  refine (bag_any _ A2 n2 c2 rows HR.out).mono ?_
  rintro e w2 ⟨rfl, hb2⟩
  have HC := hide (HC.out.below hb2)
  have HR := hide (HR.out.below hb2)
  have g0 := bat hb2 LR g0
  have g1 := bat hb2 LR g1
  have g2 := bat hb2 LR g2
  have g3 := bat hb2 LR g3
  have LR := lt_of_cell g0
  have LST3 := hide hb2
  have SG3 := hide (below_trans SG1.out hb2)
  clear hb2
  rw [HBE.out]
  by_cases h0 : B = 0
  · subst h0
    go_wp2_with fail
    refine (isTable_any _ A2 n2 c2 rows HR.out).mono ?_
    rintro e w4 ⟨rfl, hb4⟩
    have HC := hide (HC.out.below hb4)
    have HR := hide (HR.out.below hb4)
    have g0 := bat hb4 LR g0
    have g1 := bat hb4 LR g1
    have g2 := bat hb4 LR g2
    have g3 := bat hb4 LR g3
    have LR := lt_of_cell g0
    have LST5 := hide hb4
    have SG5 := hide (below_trans SG3.out hb4)
    clear hb4
    rw [HTE.out]
    cases T
    · obtain rfl : R = 8 := by rw [HD.out]; simp
      go_wp2
      all_goals (try (exfalso; go_light; simp_all; done))
      go_ret
      exact ⟨rfl, SG5.out⟩
    · have HD2 : Hid (R = firstErr (fun _ x => rowErr cols x.row) 0 rows) := hide (by rw [HD.out]; simp)
      obtain ⟨W3, rfl⟩ : ∃ W, W = w4 := ⟨_, rfl⟩
      go_wp2
      go_loopw [20] (fun i wr => ∃ k : Nat, k ≤ n2 ∧ i = .int .i64 k ∧ firstErr (fun _ x => rowErr cols x.row) 0 rows = firstErr (fun _ x => rowErr cols x.row) k (rows.drop k) ∧ Below W3.heap.size W3 wr) (fun i _ => n2 - (RowKit.intOf i).toNat)
      case atStart => exact ⟨0, Nat.zero_le _, rfl, rfl, Below.refl _ _⟩
      case round =>
        obtain ⟨k, hk, rfl, heq, hb⟩ := hrel
        have HE := hide heq
        clear heq
        have HC := hide (HC.out.below hb)
        have HR := hide (HR.out.below hb)
        have g0 := bat hb LR g0
        have g1 := bat hb LR g1
        have g2 := bat hb LR g2
        have g3 := bat hb LR g3
        have LR := lt_of_cell g0
        have LST6 := hide hb
        have SG6 := hide hb
        clear hb
        by_cases hlt : k < n2
        · obtain ⟨b, off, x, rfl, hBb, HX, Ax, An, Ac, e0, e1, e2, e3⟩ := HR.out.ent hlt
          have G1 := hide g1
          have hg1 : (wr.alloc (.cells #[.slice Ax An Ac, .int .i64 x.count] 61)).cell? ⟨w.heap.size, 1, none⟩ = some (.slice A n c) := bat below_alloc LR g1
          have hb9 : Below wr.heap.size wr (wr.alloc (.cells #[.slice Ax An Ac, .int .i64 x.count] 61)) := below_alloc
          have HI := hide (e2.below hb9)
          have HCI := hide (HC.out.below hb9)
          clear e2
          go_wp2_with fail
          refine (checkRow_any _ A Ax n An c Ac cols x.row (by exact HCI.out) (by exact HI.out)).mono ?_
          rintro e w9 ⟨rfl, hb10⟩
          have HB9 := hide (below_trans SG6.out (below_trans hb9 hb10))
          have HBW := hide (below_trans (below_trans SG5.out SG6.out) (below_trans hb9 hb10))
          clear hb9 hb10 hg1
          by_cases hz : rowErr cols x.row = 0
          · rw [hz]
            have HN : Hid (firstErr (fun _ x => rowErr cols x.row) 0 rows = firstErr (fun _ x => rowErr cols x.row) (k + 1) (rows.drop (k + 1))) := hide (by rw [HE.out, HX.out]; exact firstErr_zero hz)
            go_wp2
            go_roundw
            case rel => exact ⟨k + 1, by omega, by go_num, HN.out, HB9.out⟩
            case measure => simp [RowKit.intOf]; omega
          · have hz' : (rowErr cols x.row != 0) = true := by simpa using hz
            obtain rfl : R = rowErr cols x.row := by rw [HD2.out, HE.out, HX.out]; exact firstErr_err rfl hz
            go_wp2
            all_goals (try (exfalso; go_light; simp_all; done))
            go_ret
            exact ⟨rfl, HBW.out⟩
        · obtain rfl : R = 0 := by rw [HD2.out, HE.out, drop_end HR.out.len (by omega), firstErr]
          go_wp2
          all_goals (try (exfalso; go_light; simp_all; done))
          go_ret
          exact ⟨rfl, (below_trans SG5.out SG6.out)⟩
  · have q0 : (B != 0) = true := by simpa using h0
    obtain rfl : R = B := by rw [HD.out]; simp [h0]
    go_wp2
    all_goals (try (exfalso; go_light; simp_all; done))
    go_ret
    exact ⟨rfl, SG3.out⟩
end Go.Proofs.YtodapiholjeehaaGreatDoor

namespace Go.Proofs.YtodapiholjeehaaGreatDoor
set_option linter.unusedVariables false
set_option linter.unusedSimpArgs false
theorem firstErr_zero_all {α : Type} {f : Nat → α → Int} : ∀ {l : List α} {k : Nat}, firstErr f k l = 0 → ∀ i x, l[i]? = some x → f (k + i) x = 0
  | [], _, _, i, x, h => by simp at h
  | y :: l, k, h, i, x, hx => by
    rw [firstErr] at h
    split at h
    · contradiction
    · rename_i h0
      cases i with
      | zero => simp at hx; subst hx; simpa using h0
      | succ i =>
        have := firstErr_zero_all h i x (by simpa using hx)
        rw [show k + (i + 1) = k + 1 + i by omega]; exact this
theorem row_cell {cols : List Col} {row : List Val} (h : rowErr cols row = 0) {i : Nat} {v : Val} (hv : row[i]? = some v) : cellErr (cols.getD i default) v = 0 := by
  rw [rowErr] at h
  split at h
  · omega
  · have := firstErr_zero_all h i v hv
    simpa using this
theorem col_at {cols : List Col} {name : ByteArray} (h : ¬ index cols name < 0) : ∃ (i : Nat) (c : Col), index cols name = (i : Int) ∧ cols[i]? = some c ∧ i < cols.length := by
  rcases indexFrom_range name cols 0 with hr | ⟨h1, h2⟩
  · exact absurd (by rw [index, hr]; omega) h
  · have hi : (index cols name).toNat < cols.length := by rw [index]; omega
    exact ⟨(index cols name).toNat, cols[(index cols name).toNat], by rw [index] at *; omega, List.getElem?_eq_getElem hi, hi⟩
theorem getD_of {α : Type} {l : List α} {i : Nat} {x d : α} (h : l[i]? = some x) : l.getD i d = x := by rw [List.getD, h]; rfl
theorem list1 {α : Type} {l : List α} (h : l.length = 1) : ∃ x, l = [x] := by
  match l, h with
  | [x], _ => exact ⟨x, rfl⟩
end Go.Proofs.YtodapiholjeehaaGreatDoor

namespace Go.Proofs.YtodapiholjeehaaGreatDoor
set_option linter.unusedVariables false
set_option linter.unusedSimpArgs false
structure Run (cols : List Col) (row : List Val) (zs : List Zone) (es : List Node) (k d : Nat) (hs : List Int) (ks : List Kd) (vs : List Val) : Prop where
  ex : exprLoop hs (es.drop k) = 0
  hl : hs.length = d
  vl : vs.length = d
  fit : Fit2 ks vs
  ty : (typeLoop cols zs ks (es.drop k)).1 = 0
  va : valLoop cols row zs [] es = valLoop cols row zs vs (es.drop k)
theorem Run.last {cols : List Col} {row : List Val} {zs : List Zone} {es : List Node} {k d : Nat} {hs : List Int} {ks : List Kd} {vs : List Val} (h : Run cols row zs es k d hs ks vs) (hx : es.drop k = []) :
    d = 1 ∧ ∃ v, vs = [v] ∧ valLoop cols row zs [] es = v := by
  obtain ⟨he, hl, vl, hf, ht, hv⟩ := h
  rw [hx] at he hv
  have := exprLoop_end he rfl
  obtain rfl : d = 1 := by omega
  obtain ⟨v, rfl⟩ := list1 vl
  exact ⟨rfl, v, rfl, by rw [hv]; rfl⟩
end Go.Proofs.YtodapiholjeehaaGreatDoor

namespace Go.Proofs.YtodapiholjeehaaGreatDoor
open Go.RowKit
set_option linter.unusedSimpArgs false
set_option linter.unusedVariables false
section
variable {P : Program}
theorem results_cells2 {fn : Func} {p q : Tmp} {ty : TypeId} (h : fn.results = #[.cell p ty, .tmp q]) (tmps : Array Value) (w : World) (g : Nat) (cs : List Value) (d : TypeDesc) (u : Value)
    (hp : tmps.getD p undef = .pointer (some ⟨g, 0, none⟩)) (hq : tmps.getD q undef = u) (hc : ∀ j v, cs[j]? = some v → w.cell? ⟨g, j, none⟩ = some v)
    (hu : P.underlying ty = some d) (hd : (match d with | .struct _ | .array _ _ => true | _ => false) = true) (hi : (P.info? ty).map (·.size) = some cs.length) :
    (results fn tmps).run P w = .ok (.tuple #[.agg cs.toArray, u]) w := by
  have h1 := results_cells (P := P) (fn := { fn with results := #[.cell p ty] }) (p := p) (ty := ty) rfl tmps w g cs d hp hc hu hd hi
  have hl : (loadVar ty ⟨g, 0, none⟩).run P w = .ok (.agg cs.toArray) w := by
    have hp' : tmps[p]?.getD undef = .pointer (some ⟨g, 0, none⟩) := by simpa using hp
    simp only [results] at h1
    simpa [hp', asAddr, Sem.run_bind, Result.andThen] using h1
  have hp' : tmps[p]?.getD undef = .pointer (some ⟨g, 0, none⟩) := by simpa using hp
  have hq' : tmps[q]?.getD undef = u := by simpa using hq
  simp [results, h, hp', hq', asAddr, hl]
end
theorem Zr.drewN {w : World} {g : Nat} (h : Zr w g) (n : Nat) : Zr (w.drewN n) g := ⟨h.c0, h.c1, h.c2, h.f0, h.f1, h.f2, h.lt⟩
end Go.Proofs.YtodapiholjeehaaGreatDoor

namespace Go.Proofs.YtodapiholjeehaaGreatDoor
open Go.RowKit
set_option linter.unusedSimpArgs false
set_option linter.unusedVariables false
structure VSt (T : TypeId) (w wr : World) (st : List Val) (d : Nat) (A : Option Addr) (c : Nat) : Prop where
  stk : Stk w.heap.size wr T A c st
  len : st.length = d
  below : Below w.heap.size w wr
theorem VSt.keep {T : TypeId} {w wr w' : World} {st : List Val} {d : Nat} {A : Option Addr} {c : Nat} (h : VSt T w wr st d A c) (hb : Below wr.heap.size wr w') : VSt T w w' st d A c :=
  ⟨h.stk.keep hb, h.len, below_trans h.below hb⟩
theorem Zr.grown {w w' : World} {g b : Nat} (h : Zr w g) (hb : w.grownBy w' (some b)) (hne : g ≠ b) : Zr w' g := by
  have hbl := hb.block g h.lt (fun e => hne (Option.some.inj e))
  have c : ∀ o, w'.cell? ⟨g, o, none⟩ = w.cell? ⟨g, o, none⟩ := fun o => World.cell?_of_block hbl
  have f : ∀ o, w'.frozen? ⟨g, o, none⟩ = w.frozen? ⟨g, o, none⟩ := fun o => World.frozen?_of_block hbl
  exact ⟨(c 0).trans h.c0, (c 1).trans h.c1, (c 2).trans h.c2, (f 0).trans h.f0, (f 1).trans h.f1, (f 2).trans h.f2, by have := h.lt; have := hb.size; omega⟩
theorem Zr.drew {w : World} {g : Nat} (h : Zr w g) : Zr w.drew g := ⟨h.c0, h.c1, h.c2, h.f0, h.f1, h.f2, h.lt⟩
theorem SMap.drew {w : World} {b : Nat} {es : List (ByteArray × Value)} (h : SMap w b es) : SMap w.drew b es := h
end Go.Proofs.YtodapiholjeehaaGreatDoor
