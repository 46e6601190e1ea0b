/-
  For every input the law ScalarOrder returns true, and its arguments read as they did; the listed variable (the reserved words) is tied to the program's text.
-/
import Derived.Test.YtmnhahilbbnkkaaDoorCards
import Derived.Test.YtmnhahilbbnkkaaDoorTop
import Derived.Test.YtmnhahilbbnkkaaDoorGaj
namespace Go.Proofs.YtmnhahilbbnkkaaDoor
open Go.ChangeShapes Go.WideShapes Go.ChangeAt Go.RowKit Go.WideElems
set_option linter.unusedVariables false
set_option linter.unusedSimpArgs false

set_option maxRecDepth 100000 in
theorem mno_lifted (os : Os) (started : os.Started) (H : Type) (enc : TypeId × Value → H) :
    ReturnsInHanded {} Tryd.checked os 4 .any (fun w args => (Rows.scalarOrderSpec.pre enc Tryd.prog Tryd.f4 [] false w args ∧ laidMetH Tryd.prog laidW w) ∧ sizedMet enc Tryd.prog Tryd.f4 (OpenSpec.ofChange Rows.scalarOrderSpec) false w args)
      (Rows.scalarOrderSpec.post enc Tryd.prog Tryd.f4 false true false false) := by
  refine returnsInHanded_of_change_and (C := Tryd.checked) (X := fun w _ => laidMetH Tryd.prog laidW w) (fun _ _ _ hh h => h.of_heap hh) own started (by kernel_rfl) Tryd.func4
    (ChangeSpec.witness_shaped (enc := enc) (C := Tryd.checked) (os := os) (X := fun w _ => laidMetH Tryd.prog laidW w) false (World.doorLaid Tryd.prog 14 os) #[.int .i64 0, .int .i64 0, .int .i64 0] 8 rfl (World.shaped_of_RefB (by kernel_rfl) (by kernel_rfl)) (by kernel_rfl) (by kernel_rfl) (by kernel_rfl) (door_met os _)) ?_
  intro W base args ds gs before hval0 hW _ _ hL _
  have hval : ∀ (j : Nat) t v, Tryd.f4.params[j]? = some t → args[j]? = some v → Value.okWide Tryd.prog W .any base t v := hval0
  have hW' := hW
  obtain ⟨p, q, hA0, hV, rfl, hfz, hnd⟩ := hW
  have hA : DataW.TrodAll enc Tryd.prog W 0 (fun _ => true) true Tryd.f4.params.toList args.toList ds p := hA0
  rw [Tryd.params4] at hA hval
  obtain ⟨v0, vs0, d0, ds0, p0, q0, hargs, rfl, rfl, h0, r0⟩ := trodAll_cons hA
  obtain ⟨v1, vs1, d1, ds1, p1, q1, rfl, rfl, rfl, h1, r1⟩ := trodAll_cons r0
  obtain ⟨v2, vs2, d2, ds2, p2, q2, rfl, rfl, rfl, h2, r2⟩ := trodAll_cons r1
  obtain ⟨rfl, rfl, rfl⟩ := trodAll_nil r2
  obtain rfl : args = #[v0, v1, v2] := by cases args; simp_all
  obtain ⟨rfl, rfl⟩ := trodVars_none hV
  obtain ⟨m0, hm0, _, _, wm0⟩ := open_int Tryd.underlying3 (hval 0 3 v0 rfl rfl) h0
  subst hm0
  obtain ⟨m1, hm1, _, _, wm1⟩ := open_int Tryd.underlying3 (hval 1 3 v1 rfl rfl) h1
  subst hm1
  obtain ⟨m2, hm2, _, _, wm2⟩ := open_int Tryd.underlying3 (hval 2 3 v2 rfl rfl) h2
  subst hm2
  have hwd := words_of_laid hL
  have hlt : ∀ x ∈ p0 ++ (p1 ++ (p2 ++ [])), x.block < W.heap.size := fun x hx => hW'.lt x (by simpa using hx)
  clear hA0 hval0
  refine (lawOrder_any W hwd m0 m1 m2).mono fun e W' ⟨he, hb⟩ => ?_
  subst he
  have stay : ∀ (sp : Nat → Bool) (t : TypeId) (v : Value) (dd : DataW H) (ps : List MemPlace), laidOutB Tryd.prog = true → Tryd.prog.readableRec t = true → t < Tryd.prog.types.size → (∀ x ∈ ps, x ∈ p0 ++ (p1 ++ (p2 ++ []))) → (∀ x ∈ p0 ++ (p1 ++ (p2 ++ [])), sp x.block = true) → DataW.Trod enc Tryd.prog W 0 (fun _ => true) true t v dd ps → DataW.Trod enc Tryd.prog W' 0 sp true t v dd ps :=
    fun sp t v dd ps q1 q2 q3 q4 q5 h => WideElems.Trod_stays q1 q2 q3 h (fun x hx => hb.same (hlt x (q4 x hx))) (fun x hx => q5 x (q4 x hx))
  exact ⟨_, rfl, post_of_under (pa := p0 ++ (p1 ++ (p2 ++ []))) (pv := []) hW' (fun _ _ _ => trodAll_cons_mk (shut_bool Tryd.underlying4 _) trodAll_mk0)
    (fun sp hsp => (trodAll_cons_mk (stay sp _ _ _ _ (by kernel_rfl) (by kernel_rfl) (of_decide_eq_true (by kernel_rfl)) (fun x hx => by simp [hx]) (fun x hx => hsp x (by simpa using hx)) h0) (trodAll_cons_mk (stay sp _ _ _ _ (by kernel_rfl) (by kernel_rfl) (of_decide_eq_true (by kernel_rfl)) (fun x hx => by simp [hx]) (fun x hx => hsp x (by simpa using hx)) h1) (trodAll_cons_mk (stay sp _ _ _ _ (by kernel_rfl) (by kernel_rfl) (of_decide_eq_true (by kernel_rfl)) (fun x hx => by simp [hx]) (fun x hx => hsp x (by simpa using hx)) h2) trodAll_mk0))))
    (fun _ _ => rfl) (by simp) hb (ok_one (by kernel_rfl) rfl (okWide_bool_mk Tryd.underlying4 _))⟩
theorem mno_holds : Rows.scalarOrderRow.holds Tryd.pinned (OpenSpec.ofChange Rows.scalarOrderSpec) :=
  OpenClaim.holds_of_wide 4 Tryd.f4 rfl rfl rfl rfl rfl rfl rfl ⟨rfl, rfl, rfl, rfl, rfl⟩ rfl rfl rfl rfl rfl (by kernel_rfl) Tryd.func4 (by kernel_rfl)
    (of_decide_eq_true (by kernel_rfl)) (by unfold Func.isWrapper; first | (rw [if_pos (by decide +kernel)]; kernel_rfl) | (rw [if_neg (by decide +kernel)]; exact ⟨rfl, rfl⟩))
    (fun os started H enc _ => mno_lifted os started H enc)
theorem scalarOrderProved : Rows.ScalarOrderCardSaid :=
  Claim7.holds_tied_plain_at .later [] [.widerDeep] true Rows.scalarOrderCard.stood.harness false
    mno_holds (fun _ h => by cases h) (by kernel_rfl) (fun _ h => by cases h) scalarOrder_row_tie rfl ⟨rfl, rfl⟩ (by kernel_rfl) rfl
    (fun f fn hf hfn => by
      obtain rfl : f = 4 := Option.some.inj ((show Tryd.prog.funcNamed "warehouse/warehouselaw9.ScalarOrder" = some 4 by kernel_rfl).symm.trans hf) |>.symm
      obtain rfl : fn = Tryd.f4 := (Option.some.inj (Tryd.func4.symm.trans hfn)).symm
      exact ⟨by kernel_rfl, fun j t ht => by
        rw [Tryd.params4] at ht
        have hm : t ∈ [3, 3, 3] := by simpa using Array.mem_of_getElem? ht
        have hall : ([3, 3, 3].all fun u => !Tryd.prog.wantsStandIn u) = true := by kernel_rfl
        exact (show Tryd.prog.wantsStandIn t = false by simpa using List.all_eq_true.1 hall t hm)⟩)
    (by kernel_rfl)
#print axioms scalarOrderProved
end Go.Proofs.YtmnhahilbbnkkaaDoor
