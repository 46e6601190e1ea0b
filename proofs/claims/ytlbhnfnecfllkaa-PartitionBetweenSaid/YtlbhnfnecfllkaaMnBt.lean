/-
  For every input the law PartitionBetween returns true, and its arguments read as they did.
-/
import Derived.Test.YtlbhnfnecfllkaaPlain
import Derived.Test.YtlbhnfnecfllkaaLwB
namespace Go.Proofs.Ytlbhnfnecfllkaa
open Go.ChangeShapes Go.WideShapes Go.ChangeAt Go.RowKit
set_option linter.unusedVariables false
set_option linter.unusedSimpArgs false

set_option maxRecDepth 100000 in
theorem mnbt_lifted (os : Os) (started : os.Started) (H : Type) (enc : TypeId × Value → H) :
    ReturnsInHanded {} Try.checked os 3 .any (Rows.partitionBetweenSpec.pre6 enc Try.prog Try.f3 Rows.partitionBetweenRow.domain false) (Rows.partitionBetweenSpec.post enc Try.prog Try.f3 false true false false) := by
  refine returnsInHanded_of_change (C := Try.checked) own started (by kernel_rfl) Try.func3
    (ChangeSpec.witness6 (enc := enc) (C := Try.checked) false ⟨#[], #[.agg #[.string ⟨#[]⟩, .int .i64 0, .slice none 0 0], .int .i64 0, .int .i64 0, .int .i64 0, .int .i64 0, .int .i64 0, .int .i64 0], []⟩ 8 (by kernel_rfl) (by kernel_rfl) (by kernel_rfl) (by kernel_rfl)) ?_
  intro W base args ds gs before hval0 hW hcnd _
  have hval : ∀ (j : Nat) t v, Try.f3.params[j]? = some t → args[j]? = some v → Value.okWide Try.prog W .any base t v := hval0
  have hW' := hW
  obtain ⟨p, q, hA0, hV, rfl, hfz, hnd⟩ := hW
  have hA : DataW.TrodAll enc Try.prog W 0 (fun _ => true) true Try.f3.params.toList args.toList ds p := hA0
  rw [Try.params3] at hA hval
  obtain ⟨v0, vs0, d0, ds0, p0, q0, hargs, rfl, rfl, h0, r0⟩ := trodAll_cons hA
  obtain ⟨v1, vs1, d1, ds1, p1, q1, rfl, rfl, rfl, h1, r1⟩ := trodAll_cons r0
  obtain ⟨v2, vs2, d2, ds2, p2, q2, rfl, rfl, rfl, h2, r2⟩ := trodAll_cons r1
  obtain ⟨v3, vs3, d3, ds3, p3, q3, rfl, rfl, rfl, h3, r3⟩ := trodAll_cons r2
  obtain ⟨v4, vs4, d4, ds4, p4, q4, rfl, rfl, rfl, h4, r4⟩ := trodAll_cons r3
  obtain ⟨v5, vs5, d5, ds5, p5, q5, rfl, rfl, rfl, h5, r5⟩ := trodAll_cons r4
  obtain ⟨v6, vs6, d6, ds6, p6, q6, rfl, rfl, rfl, h6, r6⟩ := trodAll_cons r5
  obtain ⟨rfl, rfl, rfl⟩ := trodAll_nil r6
  obtain rfl : args = #[v0, v1, v2, v3, v4, v5, v6] := by cases args; simp_all
  obtain ⟨rfl, rfl⟩ := trodVars_none hV
  obtain ⟨ys0, rfl, hsz0⟩ := okWide_struct Try.underlying24 (hval 0 24 v0 rfl rfl)
  obtain ⟨m1, hm1, _, _, wm1⟩ := open_int Try.underlying3 (hval 1 3 v1 rfl rfl) h1
  subst hm1
  obtain ⟨m2, hm2, _, _, wm2⟩ := open_int Try.underlying3 (hval 2 3 v2 rfl rfl) h2
  subst hm2
  obtain ⟨m3, hm3, _, _, wm3⟩ := open_int Try.underlying3 (hval 3 3 v3 rfl rfl) h3
  subst hm3
  obtain ⟨m4, hm4, _, _, wm4⟩ := open_int Try.underlying3 (hval 4 3 v4 rfl rfl) h4
  subst hm4
  obtain ⟨m5, hm5, _, _, wm5⟩ := open_int Try.underlying3 (hval 5 3 v5 rfl rfl) h5
  subst hm5
  obtain ⟨m6, hm6, _, _, wm6⟩ := open_int Try.underlying3 (hval 6 3 v6 rfl rfl) h6
  subst hm6
  have h0' := h0
  obtain ⟨fu0, hf0⟩ := h0'
  obtain ⟨x0, A0, n0, c0, hcs0, s0, _, o0⟩ := opens_zoneD H enc W _ _ _ _ _ hf0
  have hcs0' : ys0.toList = [.string x0.name, .int .i64 x0.offset, .slice A0 n0 c0] := hcs0
  clear hcs0 hf0
  obtain rfl : ys0 = #[.string x0.name, .int .i64 x0.offset, .slice A0 n0 c0] := by
    obtain ⟨l⟩ := ys0
    have e : l = _ := hcs0'
    rw [e]
  have hlt : ∀ x ∈ p0 ++ (p1 ++ (p2 ++ (p3 ++ (p4 ++ (p5 ++ (p6 ++ [])))))), x.block < W.heap.size := fun x hx => hW'.lt x (by simpa using hx)
  clear hA0 hval0
  refine (lawB_any W A0 n0 c0 x0 s0 o0 m1 m2 m3 m4 m5 m6).mono fun e W' ⟨he, hb⟩ => ?_
  subst he
  have stay : ∀ (sp : Nat → Bool) (t : TypeId) (v : Value) (dd : DataW H) (ps : List MemPlace), laidOutB Try.prog = true → Try.prog.readableRec t = true → t < Try.prog.types.size → (∀ x ∈ ps, x ∈ p0 ++ (p1 ++ (p2 ++ (p3 ++ (p4 ++ (p5 ++ (p6 ++ []))))))) → (∀ x ∈ p0 ++ (p1 ++ (p2 ++ (p3 ++ (p4 ++ (p5 ++ (p6 ++ [])))))), sp x.block = true) → DataW.Trod enc Try.prog W 0 (fun _ => true) true t v dd ps → DataW.Trod enc Try.prog W' 0 sp true t v dd ps :=
    fun sp t v dd ps q1 q2 q3 q4 q5 h => WideElems.Trod_stays q1 q2 q3 h (fun x hx => hb.same (hlt x (q4 x hx))) (fun x hx => q5 x (q4 x hx))
  exact ⟨_, rfl, post_of_under (pa := p0 ++ (p1 ++ (p2 ++ (p3 ++ (p4 ++ (p5 ++ (p6 ++ []))))))) (pv := []) hW' (fun _ _ _ => trodAll_cons_mk (shut_bool Try.underlying4 _) trodAll_mk0)
    (fun sp hsp => (trodAll_cons_mk (stay sp _ _ _ _ (by kernel_rfl) (by kernel_rfl) (of_decide_eq_true (by kernel_rfl)) (fun x hx => by simp [hx]) (fun x hx => hsp x (by simpa using hx)) h0) (trodAll_cons_mk (stay sp _ _ _ _ (by kernel_rfl) (by kernel_rfl) (of_decide_eq_true (by kernel_rfl)) (fun x hx => by simp [hx]) (fun x hx => hsp x (by simpa using hx)) h1) (trodAll_cons_mk (stay sp _ _ _ _ (by kernel_rfl) (by kernel_rfl) (of_decide_eq_true (by kernel_rfl)) (fun x hx => by simp [hx]) (fun x hx => hsp x (by simpa using hx)) h2) (trodAll_cons_mk (stay sp _ _ _ _ (by kernel_rfl) (by kernel_rfl) (of_decide_eq_true (by kernel_rfl)) (fun x hx => by simp [hx]) (fun x hx => hsp x (by simpa using hx)) h3) (trodAll_cons_mk (stay sp _ _ _ _ (by kernel_rfl) (by kernel_rfl) (of_decide_eq_true (by kernel_rfl)) (fun x hx => by simp [hx]) (fun x hx => hsp x (by simpa using hx)) h4) (trodAll_cons_mk (stay sp _ _ _ _ (by kernel_rfl) (by kernel_rfl) (of_decide_eq_true (by kernel_rfl)) (fun x hx => by simp [hx]) (fun x hx => hsp x (by simpa using hx)) h5) (trodAll_cons_mk (stay sp _ _ _ _ (by kernel_rfl) (by kernel_rfl) (of_decide_eq_true (by kernel_rfl)) (fun x hx => by simp [hx]) (fun x hx => hsp x (by simpa using hx)) h6) trodAll_mk0))))))))
    (fun _ _ => rfl) (by simp) hb (ok_one (by kernel_rfl) rfl (okWide_bool_mk Try.underlying4 _))⟩
theorem mnbt_over : Rows.partitionBetweenRow.holds Try.pinned (OpenSpec.ofChange Rows.partitionBetweenSpec) :=
  OpenClaim.holds_of_wide 3 Try.f3 rfl rfl rfl rfl rfl rfl rfl ⟨rfl, rfl, rfl, rfl, rfl⟩ rfl rfl rfl rfl rfl (by kernel_rfl) Try.func3 (by kernel_rfl)
    (of_decide_eq_true (by kernel_rfl)) (by unfold Func.isWrapper; first | (rw [if_pos (by decide +kernel)]; kernel_rfl) | (rw [if_neg (by decide +kernel)]; exact ⟨rfl, rfl⟩))
    (fun os started H enc _ => mnbt_lifted os started H enc)
theorem partitionBetweenProved : Rows.PartitionBetweenSaid := mnbt_over
#print axioms partitionBetweenProved
end Go.Proofs.Ytlbhnfnecfllkaa
