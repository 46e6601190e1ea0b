/-
  For every input the law PartitionJoin returns true, and its arguments read as they did.
-/
import Derived.Test.YtlbhnfnecfllkaaGreatPlain
import Derived.Test.YtlbhnfnecfllkaaGreatLwJ
namespace Go.Proofs.YtlbhnfnecfllkaaGreat
open Go.ChangeShapes Go.WideShapes Go.ChangeAt Go.RowKit
set_option linter.unusedVariables false
set_option linter.unusedSimpArgs false

set_option maxRecDepth 100000 in
theorem mnjn_lifted (os : Os) (started : os.Started) (H : Type) (enc : TypeId × Value → H) :
    ReturnsInHanded {} Tryz.checked os 7 .any (Rows.partitionJoinSpec.pre6 enc Tryz.prog Tryz.f7 Rows.partitionJoinRow.domain false) (Rows.partitionJoinSpec.post enc Tryz.prog Tryz.f7 false true false false) := by
  refine returnsInHanded_of_change (C := Tryz.checked) own started (by kernel_rfl) Tryz.func7
    (ChangeSpec.witness6 (enc := enc) (C := Tryz.checked) false ⟨#[], #[.slice none 0 0, .int .i64 0, .int .i64 0, .slice none 0 0], []⟩ 8 (by kernel_rfl) (by kernel_rfl) (by kernel_rfl) (by kernel_rfl)) ?_
  intro W base args ds gs before hval0 hW hcnd _
  have hval : ∀ (j : Nat) t v, Tryz.f7.params[j]? = some t → args[j]? = some v → Value.okWide Tryz.prog W .any base t v := hval0
  have hW' := hW
  obtain ⟨p, q, hA0, hV, rfl, hfz, hnd⟩ := hW
  have hA : DataW.TrodAll enc Tryz.prog W 0 (fun _ => true) true Tryz.f7.params.toList args.toList ds p := hA0
  rw [Tryz.params7] at hA hval
  obtain ⟨v0, vs0, d0, ds0, p0, q0, hargs, rfl, rfl, h0, r0⟩ := trodAll_cons hA
  obtain ⟨v1, vs1, d1, ds1, p1, q1, rfl, rfl, rfl, h1, r1⟩ := trodAll_cons r0
  obtain ⟨v2, vs2, d2, ds2, p2, q2, rfl, rfl, rfl, h2, r2⟩ := trodAll_cons r1
  obtain ⟨v3, vs3, d3, ds3, p3, q3, rfl, rfl, rfl, h3, r3⟩ := trodAll_cons r2
  obtain ⟨rfl, rfl, rfl⟩ := trodAll_nil r3
  obtain rfl : args = #[v0, v1, v2, v3] := by cases args; simp_all
  obtain ⟨rfl, rfl⟩ := trodVars_none hV
  obtain ⟨A0, n0, c0, rfl⟩ := okWide_slice Tryz.underlying31 (hval 0 31 v0 rfl rfl)
  obtain ⟨m1, hm1, _, _, wm1⟩ := open_int Tryz.underlying3 (hval 1 3 v1 rfl rfl) h1
  subst hm1
  obtain ⟨m2, hm2, _, _, wm2⟩ := open_int Tryz.underlying3 (hval 2 3 v2 rfl rfl) h2
  subst hm2
  obtain ⟨A3, n3, c3, rfl⟩ := okWide_slice Tryz.underlying27 (hval 3 27 v3 rfl rfl)
  obtain ⟨x0, s0⟩ := in_of_arg (α := Partn) opens_parts h0
  obtain ⟨x3, s3⟩ := in_of_arg (α := Int) opens_ints h3
  have hlt : ∀ x ∈ p0 ++ (p1 ++ (p2 ++ (p3 ++ []))), x.block < W.heap.size := fun x hx => hW'.lt x (by simpa using hx)
  clear hA0 hval0
  refine (lawJ_any W A0 n0 c0 x0 s0 m1 m2 A3 n3 c3 x3 s3).mono fun e W' ⟨he, hb⟩ => ?_
  subst he
  have stay : ∀ (sp : Nat → Bool) (t : TypeId) (v : Value) (dd : DataW H) (ps : List MemPlace), laidOutB Tryz.prog = true → Tryz.prog.readableRec t = true → t < Tryz.prog.types.size → (∀ x ∈ ps, x ∈ p0 ++ (p1 ++ (p2 ++ (p3 ++ [])))) → (∀ x ∈ p0 ++ (p1 ++ (p2 ++ (p3 ++ []))), sp x.block = true) → DataW.Trod enc Tryz.prog W 0 (fun _ => true) true t v dd ps → DataW.Trod enc Tryz.prog W' 0 sp true t v dd ps :=
    fun sp t v dd ps q1 q2 q3 q4 q5 h => WideElems.Trod_stays q1 q2 q3 h (fun x hx => hb.same (hlt x (q4 x hx))) (fun x hx => q5 x (q4 x hx))
  exact ⟨_, rfl, post_of_under (pa := p0 ++ (p1 ++ (p2 ++ (p3 ++ [])))) (pv := []) hW' (fun _ _ _ => trodAll_cons_mk (shut_bool Tryz.underlying4 _) trodAll_mk0)
    (fun sp hsp => (trodAll_cons_mk (stay sp _ _ _ _ (by kernel_rfl) (by kernel_rfl) (of_decide_eq_true (by kernel_rfl)) (fun x hx => by simp [hx]) (fun x hx => hsp x (by simpa using hx)) h0) (trodAll_cons_mk (stay sp _ _ _ _ (by kernel_rfl) (by kernel_rfl) (of_decide_eq_true (by kernel_rfl)) (fun x hx => by simp [hx]) (fun x hx => hsp x (by simpa using hx)) h1) (trodAll_cons_mk (stay sp _ _ _ _ (by kernel_rfl) (by kernel_rfl) (of_decide_eq_true (by kernel_rfl)) (fun x hx => by simp [hx]) (fun x hx => hsp x (by simpa using hx)) h2) (trodAll_cons_mk (stay sp _ _ _ _ (by kernel_rfl) (by kernel_rfl) (of_decide_eq_true (by kernel_rfl)) (fun x hx => by simp [hx]) (fun x hx => hsp x (by simpa using hx)) h3) trodAll_mk0)))))
    (fun _ _ => rfl) (by simp) hb (ok_one (by kernel_rfl) rfl (okWide_bool_mk Tryz.underlying4 _))⟩
theorem mnjn_over : Rows.partitionJoinRow.holds Tryz.pinned (OpenSpec.ofChange Rows.partitionJoinSpec) :=
  OpenClaim.holds_of_wide 7 Tryz.f7 rfl rfl rfl rfl rfl rfl rfl ⟨rfl, rfl, rfl, rfl, rfl⟩ rfl rfl rfl rfl rfl (by kernel_rfl) Tryz.func7 (by kernel_rfl)
    (of_decide_eq_true (by kernel_rfl)) (by unfold Func.isWrapper; first | (rw [if_pos (by decide +kernel)]; kernel_rfl) | (rw [if_neg (by decide +kernel)]; exact ⟨rfl, rfl⟩))
    (fun os started H enc _ => mnjn_lifted os started H enc)
theorem partitionJoinProved : Rows.PartitionJoinSaid := mnjn_over
#print axioms partitionJoinProved
end Go.Proofs.YtlbhnfnecfllkaaGreat
