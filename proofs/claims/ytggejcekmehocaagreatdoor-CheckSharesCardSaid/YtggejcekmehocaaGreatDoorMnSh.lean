/-
  For every input the law CheckShares returns true, and its arguments read as they did; the listed variable (the reserved words) is tied to the program's text.
-/
import Derived.Test.YtggejcekmehocaaGreatDoorCards
import Derived.Test.YtggejcekmehocaaGreatDoorTop
import Derived.Test.YtggejcekmehocaaGreatDoorGan
import Derived.Test.YtggejcekmehocaaGreatDoorJoi
import Derived.Test.YtggejcekmehocaaGreatDoorFcP
import Derived.Test.YtggejcekmehocaaGreatDoorFcSh
import Derived.Test.YtggejcekmehocaaGreatDoorLwSh
namespace Go.Proofs.YtggejcekmehocaaGreatDoor
open Go.ChangeShapes Go.WideShapes Go.ChangeAt Go.RowKit Go.WideElems
set_option linter.unusedVariables false
set_option linter.unusedSimpArgs false
set_option maxRecDepth 100000 in
theorem mnsh_lifted (os : Os) (started : os.Started) (H : Type) (enc : TypeId × Value → H) :
    ReturnsInHanded {} Tryz.checked os 10 .any (fun w args => (Rows.checkSharesSpec.pre enc Tryz.prog Tryz.f10 [] false w args ∧ laidMetH Tryz.prog laidW w) ∧ sizedMet enc Tryz.prog Tryz.f10 (OpenSpec.ofChange Rows.checkSharesSpec) false w args)
      (Rows.checkSharesSpec.post enc Tryz.prog Tryz.f10 false true false false) := by
  refine returnsInHanded_of_change_and (C := Tryz.checked) (X := fun w _ => laidMetH Tryz.prog laidW w) (fun _ _ _ hh h => h.of_heap hh) own started (by kernel_rfl) Tryz.func10
    (ChangeSpec.witness_shaped (enc := enc) (C := Tryz.checked) (os := os) (X := fun w _ => laidMetH Tryz.prog laidW w) false (World.doorLaid Tryz.prog 14 os) #[.slice none 0 0, .int .i64 0, .int .i64 0, .int .i64 0] 8 rfl (World.shaped_of_RefB (by kernel_rfl) (by kernel_rfl)) (by kernel_rfl) (by kernel_rfl) (by kernel_rfl) (door_met os _)) ?_
  intro W base args ds gs before hval0 hW _ _ hL _
  have hval : ∀ (j : Nat) t v, Tryz.f10.params[j]? = some t → args[j]? = some v → Value.okWide Tryz.prog W .any base t v := hval0
  have hW' := hW
  obtain ⟨p, q, hA0, hV, rfl, hfz, hnd⟩ := hW
  have hA : DataW.TrodAll enc Tryz.prog W 0 (fun _ => true) true Tryz.f10.params.toList args.toList ds p := hA0
  rw [Tryz.params10] at hA hval
  obtain ⟨v0, vs0, d0, ds0, p0, q0, hargs, rfl, rfl, h0, r0⟩ := trodAll_cons hA
  obtain ⟨v1, vs1, d1, ds1, p1, q1, rfl, rfl, rfl, h1, r1⟩ := trodAll_cons r0
  obtain ⟨v2, vs2, d2, ds2, p2, q2, rfl, rfl, rfl, h2, r2⟩ := trodAll_cons r1
  obtain ⟨v3, vs3, d3, ds3, p3, q3, rfl, rfl, rfl, h3, r3⟩ := trodAll_cons r2
  obtain ⟨rfl, rfl, rfl⟩ := trodAll_nil r3
  obtain rfl : args = #[v0, v1, v2, v3] := by cases args; simp_all
  obtain ⟨rfl, rfl⟩ := trodVars_none hV
  obtain ⟨A0, n0, c0, rfl⟩ := okWide_slice Tryz.underlying33 (hval 0 33 v0 rfl rfl)
  obtain ⟨m1, hm1, _, _, wm1⟩ := open_int Tryz.underlying3 (hval 1 3 v1 rfl rfl) h1
  subst hm1
  obtain ⟨m2, hm2, _, _, wm2⟩ := open_int Tryz.underlying3 (hval 2 3 v2 rfl rfl) h2
  subst hm2
  obtain ⟨m3, hm3, _, _, wm3⟩ := open_int Tryz.underlying3 (hval 3 3 v3 rfl rfl) h3
  subst hm3
  obtain ⟨x0, s0⟩ := in_of_arg (α := Int) opens_ints h0
  have hwd := words_of_laid hL
  have hlt : ∀ x ∈ p0 ++ (p1 ++ (p2 ++ (p3 ++ []))), x.block < W.heap.size := fun x hx => hW'.lt x (by simpa using hx)
  clear hA0 hval0
  refine (lawSh28_any W A0 n0 c0 x0 s0 m1 m2 m3 hwd).mono fun e W' ⟨he, hb⟩ => ?_
  subst he
  have stay : ∀ (sp : Nat → Bool) (t : TypeId) (v : Value) (dd : DataW H) (ps : List MemPlace), laidOutB Tryz.prog = true → Tryz.prog.readableRec t = true → t < Tryz.prog.types.size → (∀ x ∈ ps, x ∈ p0 ++ (p1 ++ (p2 ++ (p3 ++ [])))) → (∀ x ∈ p0 ++ (p1 ++ (p2 ++ (p3 ++ []))), sp x.block = true) → DataW.Trod enc Tryz.prog W 0 (fun _ => true) true t v dd ps → DataW.Trod enc Tryz.prog W' 0 sp true t v dd ps :=
    fun sp t v dd ps q1 q2 q3 q4 q5 h => WideElems.Trod_stays q1 q2 q3 h (fun x hx => hb.same (hlt x (q4 x hx))) (fun x hx => q5 x (q4 x hx))
  exact ⟨_, rfl, post_of_under (pa := p0 ++ (p1 ++ (p2 ++ (p3 ++ [])))) (pv := []) hW' (fun _ _ _ => trodAll_cons_mk (shut_bool Tryz.underlying4 _) trodAll_mk0)
    (fun sp hsp => (trodAll_cons_mk (stay sp _ _ _ _ fp_laid (by kernel_rfl) (of_decide_eq_true (by kernel_rfl)) (fun x hx => by simp [hx]) (fun x hx => hsp x (by simpa using hx)) h0) (trodAll_cons_mk (stay sp _ _ _ _ fp_laid (by kernel_rfl) (of_decide_eq_true (by kernel_rfl)) (fun x hx => by simp [hx]) (fun x hx => hsp x (by simpa using hx)) h1) (trodAll_cons_mk (stay sp _ _ _ _ fp_laid (by kernel_rfl) (of_decide_eq_true (by kernel_rfl)) (fun x hx => by simp [hx]) (fun x hx => hsp x (by simpa using hx)) h2) (trodAll_cons_mk (stay sp _ _ _ _ fp_laid (by kernel_rfl) (of_decide_eq_true (by kernel_rfl)) (fun x hx => by simp [hx]) (fun x hx => hsp x (by simpa using hx)) h3) trodAll_mk0)))))
    (fun _ _ => rfl) (by simp) hb (ok_one (by kernel_rfl) rfl (okWide_bool_mk Tryz.underlying4 _))⟩
theorem mnsh_joined : joinedFacts Tryz.prog 10 Tryz.f10 Rows.checkSharesSpec Rows.checkSharesRow = true :=
  joined_of _ _ _ _ _ fcsh_1 fp_laid fp_maps fcsh_4 fcsh_5 fcsh_6 fp_stops fcsh_8 fp_knobs fcsh_10 fcsh_11 fcsh_12 fcsh_13 fcsh_14 fcsh_15 fcsh_16 fcsh_17 fcsh_18 fcsh_19 fcsh_20 fcsh_21 fcsh_22 fcsh_23 fcsh_24 fp_heard fp_enter fcsh_27 fcsh_28 fcsh_29a fcsh_29 fcsh_30 fcsh_31 fcsh_32
theorem mnsh_wrap : Tryz.f10.isWrapper Tryz.prog Rows.checkSharesRow.wrapper Rows.checkSharesRow.mainSum := by
  unfold Func.isWrapper; first | (rw [if_pos (by decide +kernel)]; kernel_rfl) | (rw [if_neg (by decide +kernel)]; exact ⟨rfl, rfl⟩)
theorem mnsh_holds : Rows.checkSharesRow.holds Tryz.pinned (OpenSpec.ofChange Rows.checkSharesSpec) :=
  OpenClaim.holds_of_wide 10 Tryz.f10 rfl rfl rfl rfl rfl rfl rfl ⟨rfl, rfl, rfl, rfl, rfl⟩ rfl rfl rfl rfl rfl fcsh_func Tryz.func10 mnsh_joined
    fcsh_inst mnsh_wrap
    (fun os started H enc _ => mnsh_lifted os started H enc)
theorem mnsh_wants : ∀ f fn, Tryz.prog.funcNamed "warehouse/warehouselaw28.CheckShares" = some f → Tryz.prog.funcs[f]? = some fn → false = Tryz.prog.looks [] ∧ ∀ (j : Nat) t, fn.params[j]? = some t → Tryz.prog.wantsStandIn t = false := by
  intro f fn hf hfn
  obtain rfl : f = 10 := Option.some.inj (fcsh_func.symm.trans hf) |>.symm
  obtain rfl : fn = Tryz.f10 := (Option.some.inj (Tryz.func10.symm.trans hfn)).symm
  refine ⟨fp_looks, fun j t ht => ?_⟩
  simpa using List.all_eq_true.1 fcsh_wants t (Array.mem_toList_iff.2 (Array.mem_of_getElem? ht))
theorem checkSharesProved : Rows.CheckSharesCardSaid :=
  Claim7.holds_tied_plain_at .later [] [.widerDeep] true Rows.checkSharesCard.stood.harness false
    mnsh_holds (fun _ h => by cases h) fcsh_wft (fun _ h => by cases h) checkShares_row_tie rfl ⟨rfl, rfl⟩ fcsh_main rfl
    mnsh_wants fcsh_goes
#print axioms checkSharesProved
end Go.Proofs.YtggejcekmehocaaGreatDoor
