/-
  For every input the law PartitionChanged returns true, and its arguments read as they did.
-/
import Derived.Test.YtlbhnfnecfllkaaGreatPlain
import Derived.Test.YtlbhnfnecfllkaaGreatLwC2
namespace Go.Proofs.YtlbhnfnecfllkaaGreat
open Go.ChangeShapes Go.WideShapes Go.ChangeAt Go.RowKit
set_option linter.unusedVariables false
set_option linter.unusedSimpArgs false

set_option maxRecDepth 100000 in
theorem mnch_lifted (os : Os) (started : os.Started) (H : Type) (enc : TypeId × Value → H) :
    ReturnsInHanded {} Tryz.checked os 6 .any (Rows.partitionChangedSpec.pre6 enc Tryz.prog Tryz.f6 Rows.partitionChangedRow.domain false) (Rows.partitionChangedSpec.post enc Tryz.prog Tryz.f6 false true false false) := by
  refine returnsInHanded_of_change (C := Tryz.checked) own started (by kernel_rfl) Tryz.func6
    (ChangeSpec.witness6 (enc := enc) (C := Tryz.checked) false ⟨#[], #[.slice none 0 0, .string ⟨#[]⟩, .agg #[.string ⟨#[]⟩, .int .i64 0, .slice none 0 0], .slice none 0 0, .slice none 0 0, .int .i64 0, .int .i64 0, .slice none 0 0], []⟩ 8 (by kernel_rfl) (by kernel_rfl) (by kernel_rfl) (by kernel_rfl)) ?_
  intro W base args ds gs before hval0 hW hcnd _
  have hval : ∀ (j : Nat) t v, Tryz.f6.params[j]? = some t → args[j]? = some v → Value.okWide Tryz.prog W .any base t v := hval0
  have hW' := hW
  obtain ⟨p, q, hA0, hV, rfl, hfz, hnd⟩ := hW
  have hA : DataW.TrodAll enc Tryz.prog W 0 (fun _ => true) true Tryz.f6.params.toList args.toList ds p := hA0
  rw [Tryz.params6] at hA hval
  obtain ⟨v0, vs0, d0, ds0, p0, q0, hargs, rfl, rfl, h0, r0⟩ := trodAll_cons hA
  obtain ⟨v1, vs1, d1, ds1, p1, q1, rfl, rfl, rfl, h1, r1⟩ := trodAll_cons r0
  obtain ⟨v2, vs2, d2, ds2, p2, q2, rfl, rfl, rfl, h2, r2⟩ := trodAll_cons r1
  obtain ⟨v3, vs3, d3, ds3, p3, q3, rfl, rfl, rfl, h3, r3⟩ := trodAll_cons r2
  obtain ⟨v4, vs4, d4, ds4, p4, q4, rfl, rfl, rfl, h4, r4⟩ := trodAll_cons r3
  obtain ⟨v5, vs5, d5, ds5, p5, q5, rfl, rfl, rfl, h5, r5⟩ := trodAll_cons r4
  obtain ⟨v6, vs6, d6, ds6, p6, q6, rfl, rfl, rfl, h6, r6⟩ := trodAll_cons r5
  obtain ⟨v7, vs7, d7, ds7, p7, q7, rfl, rfl, rfl, h7, r7⟩ := trodAll_cons r6
  obtain ⟨rfl, rfl, rfl⟩ := trodAll_nil r7
  obtain rfl : args = #[v0, v1, v2, v3, v4, v5, v6, v7] := by cases args; simp_all
  obtain ⟨rfl, rfl⟩ := trodVars_none hV
  obtain ⟨A0, n0, c0, rfl⟩ := okWide_slice Tryz.underlying22 (hval 0 22 v0 rfl rfl)
  obtain ⟨m1, hm1, _, _, wm1⟩ := Go.ChangeMaps.open_string Tryz.underlying9 (hval 1 9 v1 rfl rfl) h1
  subst hm1
  obtain ⟨ys2, rfl, hsz2⟩ := okWide_struct Tryz.underlying25 (hval 2 25 v2 rfl rfl)
  obtain ⟨A3, n3, c3, rfl⟩ := okWide_slice Tryz.underlying26 (hval 3 26 v3 rfl rfl)
  obtain ⟨A4, n4, c4, rfl⟩ := okWide_slice Tryz.underlying26 (hval 4 26 v4 rfl rfl)
  obtain ⟨m5, hm5, _, _, wm5⟩ := open_int Tryz.underlying3 (hval 5 3 v5 rfl rfl) h5
  subst hm5
  obtain ⟨m6, hm6, _, _, wm6⟩ := open_int Tryz.underlying3 (hval 6 3 v6 rfl rfl) h6
  subst hm6
  obtain ⟨A7, n7, c7, rfl⟩ := okWide_slice Tryz.underlying27 (hval 7 27 v7 rfl rfl)
  obtain ⟨x0, s0⟩ := in_of_arg (α := Col) opens_cols h0
  have h2' := h2
  obtain ⟨fu2, hf2⟩ := h2'
  obtain ⟨x2, A2, n2, c2, hcs2, s2, _, o2⟩ := opens_zoneD H enc W _ _ _ _ _ hf2
  have hcs2' : ys2.toList = [.string x2.name, .int .i64 x2.offset, .slice A2 n2 c2] := hcs2
  clear hcs2 hf2
  obtain rfl : ys2 = #[.string x2.name, .int .i64 x2.offset, .slice A2 n2 c2] := by
    obtain ⟨l⟩ := ys2
    have e : l = _ := hcs2'
    rw [e]
  obtain ⟨x3, s3⟩ := in_of_arg (α := Ent) opens_ents h3
  obtain ⟨x4, s4⟩ := in_of_arg (α := Ent) opens_ents h4
  obtain ⟨x7, s7⟩ := in_of_arg (α := Int) opens_ints h7
  have hlt : ∀ x ∈ p0 ++ (p1 ++ (p2 ++ (p3 ++ (p4 ++ (p5 ++ (p6 ++ (p7 ++ []))))))), x.block < W.heap.size := fun x hx => hW'.lt x (by simpa using hx)
  clear hA0 hval0
  refine (lawCh_any W A0 n0 c0 x0 s0 m1 A2 n2 c2 x2 s2 o2 A3 n3 c3 x3 s3 A4 n4 c4 x4 s4 m5 m6 A7 n7 c7 x7 s7).mono fun e W' ⟨he, hb⟩ => ?_
  subst he
  have stay : ∀ (sp : Nat → Bool) (t : TypeId) (v : Value) (dd : DataW H) (ps : List MemPlace), laidOutB Tryz.prog = true → Tryz.prog.readableRec t = true → t < Tryz.prog.types.size → (∀ x ∈ ps, x ∈ p0 ++ (p1 ++ (p2 ++ (p3 ++ (p4 ++ (p5 ++ (p6 ++ (p7 ++ [])))))))) → (∀ x ∈ p0 ++ (p1 ++ (p2 ++ (p3 ++ (p4 ++ (p5 ++ (p6 ++ (p7 ++ []))))))), sp x.block = true) → DataW.Trod enc Tryz.prog W 0 (fun _ => true) true t v dd ps → DataW.Trod enc Tryz.prog W' 0 sp true t v dd ps :=
    fun sp t v dd ps q1 q2 q3 q4 q5 h => WideElems.Trod_stays q1 q2 q3 h (fun x hx => hb.same (hlt x (q4 x hx))) (fun x hx => q5 x (q4 x hx))
  exact ⟨_, rfl, post_of_under (pa := p0 ++ (p1 ++ (p2 ++ (p3 ++ (p4 ++ (p5 ++ (p6 ++ (p7 ++ [])))))))) (pv := []) hW' (fun _ _ _ => trodAll_cons_mk (shut_bool Tryz.underlying4 _) trodAll_mk0)
    (fun sp hsp => (trodAll_cons_mk (stay sp _ _ _ _ (by kernel_rfl) (by kernel_rfl) (of_decide_eq_true (by kernel_rfl)) (fun x hx => by simp [hx]) (fun x hx => hsp x (by simpa using hx)) h0) (trodAll_cons_mk (stay sp _ _ _ _ (by kernel_rfl) (by kernel_rfl) (of_decide_eq_true (by kernel_rfl)) (fun x hx => by simp [hx]) (fun x hx => hsp x (by simpa using hx)) h1) (trodAll_cons_mk (stay sp _ _ _ _ (by kernel_rfl) (by kernel_rfl) (of_decide_eq_true (by kernel_rfl)) (fun x hx => by simp [hx]) (fun x hx => hsp x (by simpa using hx)) h2) (trodAll_cons_mk (stay sp _ _ _ _ (by kernel_rfl) (by kernel_rfl) (of_decide_eq_true (by kernel_rfl)) (fun x hx => by simp [hx]) (fun x hx => hsp x (by simpa using hx)) h3) (trodAll_cons_mk (stay sp _ _ _ _ (by kernel_rfl) (by kernel_rfl) (of_decide_eq_true (by kernel_rfl)) (fun x hx => by simp [hx]) (fun x hx => hsp x (by simpa using hx)) h4) (trodAll_cons_mk (stay sp _ _ _ _ (by kernel_rfl) (by kernel_rfl) (of_decide_eq_true (by kernel_rfl)) (fun x hx => by simp [hx]) (fun x hx => hsp x (by simpa using hx)) h5) (trodAll_cons_mk (stay sp _ _ _ _ (by kernel_rfl) (by kernel_rfl) (of_decide_eq_true (by kernel_rfl)) (fun x hx => by simp [hx]) (fun x hx => hsp x (by simpa using hx)) h6) (trodAll_cons_mk (stay sp _ _ _ _ (by kernel_rfl) (by kernel_rfl) (of_decide_eq_true (by kernel_rfl)) (fun x hx => by simp [hx]) (fun x hx => hsp x (by simpa using hx)) h7) trodAll_mk0)))))))))
    (fun _ _ => rfl) (by simp) hb (ok_one (by kernel_rfl) rfl (okWide_bool_mk Tryz.underlying4 _))⟩
theorem mnch_over : Rows.partitionChangedRow.holds Tryz.pinned (OpenSpec.ofChange Rows.partitionChangedSpec) :=
  OpenClaim.holds_of_wide 6 Tryz.f6 rfl rfl rfl rfl rfl rfl rfl ⟨rfl, rfl, rfl, rfl, rfl⟩ rfl rfl rfl rfl rfl (by kernel_rfl) Tryz.func6 (by kernel_rfl)
    (of_decide_eq_true (by kernel_rfl)) (by unfold Func.isWrapper; first | (rw [if_pos (by decide +kernel)]; kernel_rfl) | (rw [if_neg (by decide +kernel)]; exact ⟨rfl, rfl⟩))
    (fun os started H enc _ => mnch_lifted os started H enc)
theorem partitionChangedProved : Rows.PartitionChangedSaid := mnch_over
#print axioms partitionChangedProved
end Go.Proofs.YtlbhnfnecfllkaaGreat
