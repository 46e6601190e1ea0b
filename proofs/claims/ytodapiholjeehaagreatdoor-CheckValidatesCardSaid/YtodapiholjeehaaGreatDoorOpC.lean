/-
  How a check, an inspection and a relation read as arguments.
-/
import Derived.Test.YtodapiholjeehaaGreatDoorTop
import Derived.Test.YtodapiholjeehaaGreatDoorGag
namespace Go.Proofs.YtodapiholjeehaaGreatDoor
open Go.ChangeShapes Go.WideShapes Go.ChangeAt Go.RowKit Go.WideElems
set_option linter.unusedVariables false
set_option linter.unusedSimpArgs false
section
variable {P : Program} {t : TypeId}
theorem opens_chk {f0 f1 f2 f3 f4 f5 f6 f7 f8 f9 f10 f11 : Field} (h : P.underlying t = some (.struct #[f0, f1, f2, f3, f4, f5, f6, f7, f8, f9, f10, f11])) (hc : P.cellsOf t = 14) (h0 : FieldAt P f0 0 ByteArray) (h1 : FieldAt P f1 1 ByteArray) (h2 : FieldAt P f2 2 Int) (h3 : FieldAt P f3 3 (List ByteArray)) (h4 : FieldAt P f4 4 ByteArray) (h5 : FieldAt P f5 5 (List ByteArray)) (h6 : FieldAt P f6 6 Int) (h7 : FieldAt P f7 7 Int) (h8 : FieldAt P f8 8 (List Node)) (h9 : FieldAt P f9 9 Shift) (h10 : FieldAt P f10 11 Shift) (h11 : FieldAt P f11 13 Int) : Opens P t Chk := fun H enc w spare held fuel cs y hy => by
  obtain ⟨xs, n, _, _, hl, hlen, hf⟩ := DataW.trod_struct h hy
  match xs, hlen with
  | [y0, y1, y2, y3, y4, y5, y6, y7, y8, y9, y10, y11], _ =>
    rw [hc] at hl
    have e0 := hf 0 f0 rfl
    rw [h0.1, h0.2.1] at e0
    have e1 := hf 1 f1 rfl
    rw [h1.1, h1.2.1] at e1
    have e2 := hf 2 f2 rfl
    rw [h2.1, h2.2.1] at e2
    have e3 := hf 3 f3 rfl
    rw [h3.1, h3.2.1] at e3
    have e4 := hf 4 f4 rfl
    rw [h4.1, h4.2.1] at e4
    have e5 := hf 5 f5 rfl
    rw [h5.1, h5.2.1] at e5
    have e6 := hf 6 f6 rfl
    rw [h6.1, h6.2.1] at e6
    have e7 := hf 7 f7 rfl
    rw [h7.1, h7.2.1] at e7
    have e8 := hf 8 f8 rfl
    rw [h8.1, h8.2.1] at e8
    have e9 := hf 9 f9 rfl
    rw [h9.1, h9.2.1] at e9
    have e10 := hf 10 f10 rfl
    rw [h10.1, h10.2.1] at e10
    have e11 := hf 11 f11 rfl
    rw [h11.1, h11.2.1] at e11
    match cs, hl with
    | [c0, c1, c2, c3, c4, c5, c6, c7, c8, c9, c10, c11, c12, c13], _ =>
      obtain ⟨a0, r0⟩ := h0.2.2 H enc w spare held n _ y0 (by simpa using e0)
      obtain ⟨a1, r1⟩ := h1.2.2 H enc w spare held n _ y1 (by simpa using e1)
      obtain ⟨a2, r2⟩ := h2.2.2 H enc w spare held n _ y2 (by simpa using e2)
      obtain ⟨a3, r3⟩ := h3.2.2 H enc w spare held n _ y3 (by simpa using e3)
      obtain ⟨a4, r4⟩ := h4.2.2 H enc w spare held n _ y4 (by simpa using e4)
      obtain ⟨a5, r5⟩ := h5.2.2 H enc w spare held n _ y5 (by simpa using e5)
      obtain ⟨a6, r6⟩ := h6.2.2 H enc w spare held n _ y6 (by simpa using e6)
      obtain ⟨a7, r7⟩ := h7.2.2 H enc w spare held n _ y7 (by simpa using e7)
      obtain ⟨a8, r8⟩ := h8.2.2 H enc w spare held n _ y8 (by simpa using e8)
      obtain ⟨a9, r9⟩ := h9.2.2 H enc w spare held n _ y9 (by simpa using e9)
      obtain ⟨a10, r10⟩ := h10.2.2 H enc w spare held n _ y10 (by simpa using e10)
      obtain ⟨a11, r11⟩ := h11.2.2 H enc w spare held n _ y11 (by simpa using e11)
      obtain ⟨q0, s0⟩ := r0
      obtain ⟨q1, s1⟩ := r1
      obtain ⟨q2, s2⟩ := r2
      obtain ⟨A3, n3, k3, q3, s3⟩ := r3
      obtain ⟨q4, s4⟩ := r4
      obtain ⟨A5, n5, k5, q5, s5⟩ := r5
      obtain ⟨q6, s6⟩ := r6
      obtain ⟨q7, s7⟩ := r7
      obtain ⟨A8, n8, k8, q8, s8⟩ := r8
      obtain ⟨q9, s9⟩ := r9
      obtain ⟨q10, s10⟩ := r10
      obtain ⟨q11, s11⟩ := r11
      have q0 : [c0] = [.string a0] := q0
      injection q0 with q0 _
      subst q0
      have q1 : [c1] = [.string a1] := q1
      injection q1 with q1 _
      subst q1
      have q2 : [c2] = [.int .i64 a2] := q2
      injection q2 with q2 _
      subst q2
      have q3 : [c3] = [.slice A3 n3 k3] := q3
      injection q3 with q3 _
      subst q3
      have q4 : [c4] = [.string a4] := q4
      injection q4 with q4 _
      subst q4
      have q5 : [c5] = [.slice A5 n5 k5] := q5
      injection q5 with q5 _
      subst q5
      have q6 : [c6] = [.int .i64 a6] := q6
      injection q6 with q6 _
      subst q6
      have q7 : [c7] = [.int .i64 a7] := q7
      injection q7 with q7 _
      subst q7
      have q8 : [c8] = [.slice A8 n8 k8] := q8
      injection q8 with q8 _
      subst q8
      have q9 : [c9, c10] = [.int .i64 a9.at_, .int .i64 a9.offset] := q9
      injection q9 with q9 p9
      injection p9 with p9 _
      subst q9 p9
      have q10 : [c11, c12] = [.int .i64 a10.at_, .int .i64 a10.offset] := q10
      injection q10 with q10 p10
      injection p10 with p10 _
      subst q10 p10
      have q11 : [c13] = [.int .i64 a11] := q11
      injection q11 with q11 _
      subst q11
      exact ⟨⟨a0, a1, a2, a3, a4, a5, a6, a7, a8, a9.at_, a9.offset, a10.at_, a10.offset, a11⟩, A3, n3, k3, A5, n5, k5, A8, n8, k8, rfl, s3, s5, s8, s0, s1, s2, s4, s6, s7, s9.1, s9.2, s10.1, s10.2, s11⟩
end
theorem opens_strs : Opens Tryz.prog 22 (List ByteArray) := opens_slice Tryz.underlying22 (by kernel_rfl) (by decide) (opens_string Tryz.underlying9)
theorem opens_ratioS : Opens Tryz.prog 25 Shift := opens_shift Tryz.underlying25 (by kernel_rfl) ⟨rfl, by kernel_rfl, opens_int Tryz.underlying3⟩ ⟨rfl, by kernel_rfl, opens_int Tryz.underlying3⟩
set_option maxRecDepth 100000 in
theorem opens_check : Opens Tryz.prog 27 Chk :=
  opens_chk Tryz.underlying27 (by kernel_rfl) ⟨rfl, by kernel_rfl, opens_string Tryz.underlying9⟩ ⟨rfl, by kernel_rfl, opens_string Tryz.underlying9⟩ ⟨rfl, by kernel_rfl, opens_int Tryz.underlying3⟩ ⟨rfl, by kernel_rfl, opens_strs⟩ ⟨rfl, by kernel_rfl, opens_string Tryz.underlying9⟩ ⟨rfl, by kernel_rfl, opens_strs⟩ ⟨rfl, by kernel_rfl, opens_int Tryz.underlying3⟩ ⟨rfl, by kernel_rfl, opens_int Tryz.underlying3⟩ ⟨rfl, by kernel_rfl, opens_nodes⟩ ⟨rfl, by kernel_rfl, opens_ratioS⟩ ⟨rfl, by kernel_rfl, opens_ratioS⟩ ⟨rfl, by kernel_rfl, opens_int Tryz.underlying3⟩
theorem opens_ents : Opens Tryz.prog 30 (List Ent) :=
  opens_slice Tryz.underlying30 (by kernel_rfl) (by decide) (opens_ent Tryz.underlying61 (by kernel_rfl) ⟨rfl, by kernel_rfl, opens_vals⟩ ⟨rfl, by kernel_rfl, opens_int Tryz.underlying3⟩)
theorem opens_keys : Opens Tryz.prog 29 (List (List ByteArray)) :=
  opens_slice Tryz.underlying29 (by kernel_rfl) (by decide) opens_strs
theorem opens_relation : Opens Tryz.prog 32 Rel :=
  opens_rel Tryz.underlying32 (by kernel_rfl) ⟨rfl, by kernel_rfl, opens_string Tryz.underlying9⟩ ⟨rfl, by kernel_rfl, opens_cols⟩ ⟨rfl, by kernel_rfl, opens_keys⟩ ⟨rfl, by kernel_rfl, opens_ents⟩
theorem rd_of_arg {α : Type} [Rep α] {t : TypeId} (hop : Opens Tryz.prog t α) {H : Type} {enc : TypeId × Value → H} {W : World} {ys : Array Value} {d : DataW H} {ps : List MemPlace} (h : DataW.Trod enc Tryz.prog W 0 (fun _ => true) true t (.agg ys) d ps) : ∃ x : α, Rep.rd W (fun k => k < W.heap.size) ys.toList x := by
  obtain ⟨fu, hf⟩ := h
  exact hop H enc W _ _ _ _ _ hf
theorem arr_of_list {ys : Array Value} {l : List Value} (h : ys.toList = l) : ys = l.toArray := by
  cases ys; simp_all
end Go.Proofs.YtodapiholjeehaaGreatDoor
