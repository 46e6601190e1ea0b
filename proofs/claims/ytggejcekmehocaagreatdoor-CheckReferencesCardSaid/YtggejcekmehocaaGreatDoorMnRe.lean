/-
  For every input the law CheckReferences returns true, and its arguments read as they did; the listed variable (the reserved words) is tied to the program's text.
-/
import Derived.Test.YtggejcekmehocaaGreatDoorCards
import Derived.Test.YtggejcekmehocaaGreatDoorTop
import Derived.Test.YtggejcekmehocaaGreatDoorGan
import Derived.Test.YtggejcekmehocaaGreatDoorJoi
import Derived.Test.YtggejcekmehocaaGreatDoorFcP
import Derived.Test.YtggejcekmehocaaGreatDoorFcRe
import Derived.Test.YtggejcekmehocaaGreatDoorLwRe
namespace Go.Proofs.YtggejcekmehocaaGreatDoor
open Go.ChangeShapes Go.WideShapes Go.ChangeAt Go.RowKit Go.WideElems
set_option linter.unusedVariables false
set_option linter.unusedSimpArgs false
set_option maxRecDepth 100000 in
theorem mnre_lifted (os : Os) (started : os.Started) (H : Type) (enc : TypeId × Value → H) :
    ReturnsInHanded {} Tryz.checked os 9 .any (fun w args => (Rows.checkReferencesSpec.pre enc Tryz.prog Tryz.f9 [] false w args ∧ laidMetH Tryz.prog laidW w) ∧ sizedMet enc Tryz.prog Tryz.f9 (OpenSpec.ofChange Rows.checkReferencesSpec) false w args)
      (Rows.checkReferencesSpec.post enc Tryz.prog Tryz.f9 false true false false) := by
  refine returnsInHanded_of_change_and (C := Tryz.checked) (X := fun w _ => laidMetH Tryz.prog laidW w) (fun _ _ _ hh h => h.of_heap hh) own started (by kernel_rfl) Tryz.func9
    (ChangeSpec.witness_shaped (enc := enc) (C := Tryz.checked) (os := os) (X := fun w _ => laidMetH Tryz.prog laidW w) false (World.doorLaid Tryz.prog 14 os) #[.slice none 0 0, .slice none 0 0] 8 rfl (World.shaped_of_RefB (by kernel_rfl) (by kernel_rfl)) (by kernel_rfl) (by kernel_rfl) (by kernel_rfl) (door_met os _)) ?_
  intro W base args ds gs before hval0 hW _ _ hL _
  have hval : ∀ (j : Nat) t v, Tryz.f9.params[j]? = some t → args[j]? = some v → Value.okWide Tryz.prog W .any base t v := hval0
  have hW' := hW
  obtain ⟨p, q, hA0, hV, rfl, hfz, hnd⟩ := hW
  have hA : DataW.TrodAll enc Tryz.prog W 0 (fun _ => true) true Tryz.f9.params.toList args.toList ds p := hA0
  rw [Tryz.params9] at hA hval
  obtain ⟨v0, vs0, d0, ds0, p0, q0, hargs, rfl, rfl, h0, r0⟩ := trodAll_cons hA
  obtain ⟨v1, vs1, d1, ds1, p1, q1, rfl, rfl, rfl, h1, r1⟩ := trodAll_cons r0
  obtain ⟨rfl, rfl, rfl⟩ := trodAll_nil r1
  obtain rfl : args = #[v0, v1] := by cases args; simp_all
  obtain ⟨rfl, rfl⟩ := trodVars_none hV
  obtain ⟨A0, n0, c0, rfl⟩ := okWide_slice Tryz.underlying33 (hval 0 33 v0 rfl rfl)
  obtain ⟨A1, n1, c1, rfl⟩ := okWide_slice Tryz.underlying33 (hval 1 33 v1 rfl rfl)
  obtain ⟨x0, s0⟩ := in_of_arg (α := Int) opens_ints h0
  obtain ⟨x1, s1⟩ := in_of_arg (α := Int) opens_ints h1
  have hwd := words_of_laid hL
  have hlt : ∀ x ∈ p0 ++ (p1 ++ []), x.block < W.heap.size := fun x hx => hW'.lt x (by simpa using hx)
  clear hA0 hval0
  refine (lawRe28_any W A0 n0 c0 x0 s0 A1 n1 c1 x1 s1 hwd).mono fun e W' ⟨he, hb⟩ => ?_
  subst he
  have stay : ∀ (sp : Nat → Bool) (t : TypeId) (v : Value) (dd : DataW H) (ps : List MemPlace), laidOutB Tryz.prog = true → Tryz.prog.readableRec t = true → t < Tryz.prog.types.size → (∀ x ∈ ps, x ∈ p0 ++ (p1 ++ [])) → (∀ x ∈ p0 ++ (p1 ++ []), sp x.block = true) → DataW.Trod enc Tryz.prog W 0 (fun _ => true) true t v dd ps → DataW.Trod enc Tryz.prog W' 0 sp true t v dd ps :=
    fun sp t v dd ps q1 q2 q3 q4 q5 h => WideElems.Trod_stays q1 q2 q3 h (fun x hx => hb.same (hlt x (q4 x hx))) (fun x hx => q5 x (q4 x hx))
  exact ⟨_, rfl, post_of_under (pa := p0 ++ (p1 ++ [])) (pv := []) hW' (fun _ _ _ => trodAll_cons_mk (shut_bool Tryz.underlying4 _) trodAll_mk0)
    (fun sp hsp => (trodAll_cons_mk (stay sp _ _ _ _ fp_laid (by kernel_rfl) (of_decide_eq_true (by kernel_rfl)) (fun x hx => by simp [hx]) (fun x hx => hsp x (by simpa using hx)) h0) (trodAll_cons_mk (stay sp _ _ _ _ fp_laid (by kernel_rfl) (of_decide_eq_true (by kernel_rfl)) (fun x hx => by simp [hx]) (fun x hx => hsp x (by simpa using hx)) h1) trodAll_mk0)))
    (fun _ _ => rfl) (by simp) hb (ok_one (by kernel_rfl) rfl (okWide_bool_mk Tryz.underlying4 _))⟩
theorem mnre_joined : joinedFacts Tryz.prog 9 Tryz.f9 Rows.checkReferencesSpec Rows.checkReferencesRow = true :=
  joined_of _ _ _ _ _ fcre_1 fp_laid fp_maps fcre_4 fcre_5 fcre_6 fp_stops fcre_8 fp_knobs fcre_10 fcre_11 fcre_12 fcre_13 fcre_14 fcre_15 fcre_16 fcre_17 fcre_18 fcre_19 fcre_20 fcre_21 fcre_22 fcre_23 fcre_24 fp_heard fp_enter fcre_27 fcre_28 fcre_29a fcre_29 fcre_30 fcre_31 fcre_32
theorem mnre_wrap : Tryz.f9.isWrapper Tryz.prog Rows.checkReferencesRow.wrapper Rows.checkReferencesRow.mainSum := by
  unfold Func.isWrapper; first | (rw [if_pos (by decide +kernel)]; kernel_rfl) | (rw [if_neg (by decide +kernel)]; exact ⟨rfl, rfl⟩)
theorem mnre_holds : Rows.checkReferencesRow.holds Tryz.pinned (OpenSpec.ofChange Rows.checkReferencesSpec) :=
  OpenClaim.holds_of_wide 9 Tryz.f9 rfl rfl rfl rfl rfl rfl rfl ⟨rfl, rfl, rfl, rfl, rfl⟩ rfl rfl rfl rfl rfl fcre_func Tryz.func9 mnre_joined
    fcre_inst mnre_wrap
    (fun os started H enc _ => mnre_lifted os started H enc)
theorem mnre_wants : ∀ f fn, Tryz.prog.funcNamed "warehouse/warehouselaw28.CheckReferences" = some f → Tryz.prog.funcs[f]? = some fn → false = Tryz.prog.looks [] ∧ ∀ (j : Nat) t, fn.params[j]? = some t → Tryz.prog.wantsStandIn t = false := by
  intro f fn hf hfn
  obtain rfl : f = 9 := Option.some.inj (fcre_func.symm.trans hf) |>.symm
  obtain rfl : fn = Tryz.f9 := (Option.some.inj (Tryz.func9.symm.trans hfn)).symm
  refine ⟨fp_looks, fun j t ht => ?_⟩
  simpa using List.all_eq_true.1 fcre_wants t (Array.mem_toList_iff.2 (Array.mem_of_getElem? ht))
theorem checkReferencesProved : Rows.CheckReferencesCardSaid :=
  Claim7.holds_tied_plain_at .later [] [.widerDeep] true Rows.checkReferencesCard.stood.harness false
    mnre_holds (fun _ h => by cases h) fcre_wft (fun _ h => by cases h) checkReferences_row_tie rfl ⟨rfl, rfl⟩ fcre_main rfl
    mnre_wants fcre_goes
#print axioms checkReferencesProved
end Go.Proofs.YtggejcekmehocaaGreatDoor
