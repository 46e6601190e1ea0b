/-
  For every input the law CheckValidates returns true, and its arguments read as they did; the listed variable (the reserved words) is tied to the program's text.
-/
import Derived.Test.YtodapiholjeehaaGreatDoorCards
import Derived.Test.YtodapiholjeehaaGreatDoorTop
import Derived.Test.YtodapiholjeehaaGreatDoorOpC
import Derived.Test.YtodapiholjeehaaGreatDoorJoi
import Derived.Test.YtodapiholjeehaaGreatDoorFcP
import Derived.Test.YtodapiholjeehaaGreatDoorFcVa
import Derived.Test.YtodapiholjeehaaGreatDoorLw28
namespace Go.Proofs.YtodapiholjeehaaGreatDoor
open Go.ChangeShapes Go.WideShapes Go.ChangeAt Go.RowKit Go.WideElems
set_option linter.unusedVariables false
set_option linter.unusedSimpArgs false
set_option maxRecDepth 100000 in
theorem mnva_lifted (os : Os) (started : os.Started) (H : Type) (enc : TypeId × Value → H) :
    ReturnsInHanded {} Tryz.checked os 8 .any (fun w args => (Rows.checkValidatesSpec.pre enc Tryz.prog Tryz.f8 [] false w args ∧ laidMetH Tryz.prog laidW w) ∧ sizedMet enc Tryz.prog Tryz.f8 (OpenSpec.ofChange Rows.checkValidatesSpec) false w args)
      (Rows.checkValidatesSpec.post enc Tryz.prog Tryz.f8 false true false false) := by
  refine returnsInHanded_of_change_and (C := Tryz.checked) (X := fun w _ => laidMetH Tryz.prog laidW w) (fun _ _ _ hh h => h.of_heap hh) own started (by kernel_rfl) Tryz.func8
    (ChangeSpec.witness_shaped (enc := enc) (C := Tryz.checked) (os := os) (X := fun w _ => laidMetH Tryz.prog laidW w) false (World.doorLaid Tryz.prog 14 os) #[.agg #[.string ⟨#[]⟩, .string ⟨#[]⟩, .int .i64 0, .slice none 0 0, .string ⟨#[]⟩, .slice none 0 0, .int .i64 0, .int .i64 0, .slice none 0 0, .int .i64 0, .int .i64 0, .int .i64 0, .int .i64 0, .int .i64 0], .agg #[.string ⟨#[]⟩, .slice none 0 0, .slice none 0 0, .slice none 0 0], .agg #[.string ⟨#[]⟩, .slice none 0 0, .slice none 0 0, .slice none 0 0], .slice none 0 0] 8 rfl (World.shaped_of_RefB (by kernel_rfl) (by kernel_rfl)) (by kernel_rfl) (by kernel_rfl) (by kernel_rfl) (door_met os _)) ?_
  intro W base args ds gs before hval0 hW _ _ hL _
  have hval : ∀ (j : Nat) t v, Tryz.f8.params[j]? = some t → args[j]? = some v → Value.okWide Tryz.prog W .any base t v := hval0
  have hW' := hW
  obtain ⟨p, q, hA0, hV, rfl, hfz, hnd⟩ := hW
  have hA : DataW.TrodAll enc Tryz.prog W 0 (fun _ => true) true Tryz.f8.params.toList args.toList ds p := hA0
  rw [Tryz.params8] at hA hval
  obtain ⟨v0, vs0, d0, ds0, p0, q0, hargs, rfl, rfl, h0, r0⟩ := trodAll_cons hA
  obtain ⟨v1, vs1, d1, ds1, p1, q1, rfl, rfl, rfl, h1, r1⟩ := trodAll_cons r0
  obtain ⟨v2, vs2, d2, ds2, p2, q2, rfl, rfl, rfl, h2, r2⟩ := trodAll_cons r1
  obtain ⟨v3, vs3, d3, ds3, p3, q3, rfl, rfl, rfl, h3, r3⟩ := trodAll_cons r2
  obtain ⟨rfl, rfl, rfl⟩ := trodAll_nil r3
  obtain rfl : args = #[v0, v1, v2, v3] := by cases args; simp_all
  obtain ⟨rfl, rfl⟩ := trodVars_none hV
  obtain ⟨ys0, rfl, hsz0⟩ := okWide_struct Tryz.underlying27 (hval 0 27 v0 rfl rfl)
  obtain ⟨ys1, rfl, hsz1⟩ := okWide_struct Tryz.underlying32 (hval 1 32 v1 rfl rfl)
  obtain ⟨ys2, rfl, hsz2⟩ := okWide_struct Tryz.underlying32 (hval 2 32 v2 rfl rfl)
  obtain ⟨A3, n3, c3, rfl⟩ := okWide_slice Tryz.underlying65 (hval 3 65 v3 rfl rfl)
  obtain ⟨x0, A0, n0, c0, A0', n0', c0', A0'', n0'', c0'', hcs0, s0a, s0b, s0c, _⟩ := rd_of_arg opens_check h0
  obtain rfl := arr_of_list hcs0
  obtain ⟨x1, A1, n1, c1, A1', n1', c1', A1'', n1'', c1'', hcs1, s1a, s1b, s1c, _⟩ := rd_of_arg opens_relation h1
  obtain rfl := arr_of_list hcs1
  obtain ⟨x2, A2, n2, c2, A2', n2', c2', A2'', n2'', c2'', hcs2, s2a, s2b, s2c, _⟩ := rd_of_arg opens_relation h2
  obtain rfl := arr_of_list hcs2
  obtain ⟨x3, s3⟩ := in_of_arg (α := Zone) opens_zones h3
  have hwd := words_of_laid hL
  have hlt : ∀ x ∈ p0 ++ (p1 ++ (p2 ++ (p3 ++ []))), x.block < W.heap.size := fun x hx => hW'.lt x (by simpa using hx)
  clear hA0 hval0
  refine (lawVa28_any W x0 A0 n0 c0 s0a A0' n0' c0' s0b A0'' n0'' c0'' s0c hwd x1.name A1 n1 c1 x1.columns s1a A1' n1' c1' A1'' n1'' c1'' x1.rows s1c x2.name A2 n2 c2 x2.columns s2a A2' n2' c2' A2'' n2'' c2'' x2.rows s2c A3 n3 c3 x3 s3).mono fun e W' ⟨he, hb⟩ => ?_
  subst he
  have stay : ∀ (sp : Nat → Bool) (t : TypeId) (v : Value) (dd : DataW H) (ps : List MemPlace), laidOutB Tryz.prog = true → Tryz.prog.readableRec t = true → t < Tryz.prog.types.size → (∀ x ∈ ps, x ∈ p0 ++ (p1 ++ (p2 ++ (p3 ++ [])))) → (∀ x ∈ p0 ++ (p1 ++ (p2 ++ (p3 ++ []))), sp x.block = true) → DataW.Trod enc Tryz.prog W 0 (fun _ => true) true t v dd ps → DataW.Trod enc Tryz.prog W' 0 sp true t v dd ps :=
    fun sp t v dd ps q1 q2 q3 q4 q5 h => WideElems.Trod_stays q1 q2 q3 h (fun x hx => hb.same (hlt x (q4 x hx))) (fun x hx => q5 x (q4 x hx))
  exact ⟨_, rfl, post_of_under (pa := p0 ++ (p1 ++ (p2 ++ (p3 ++ [])))) (pv := []) hW' (fun _ _ _ => trodAll_cons_mk (shut_bool Tryz.underlying4 _) trodAll_mk0)
    (fun sp hsp => (trodAll_cons_mk (stay sp _ _ _ _ fp_laid (by kernel_rfl) (of_decide_eq_true (by kernel_rfl)) (fun x hx => by simp [hx]) (fun x hx => hsp x (by simpa using hx)) h0) (trodAll_cons_mk (stay sp _ _ _ _ fp_laid (by kernel_rfl) (of_decide_eq_true (by kernel_rfl)) (fun x hx => by simp [hx]) (fun x hx => hsp x (by simpa using hx)) h1) (trodAll_cons_mk (stay sp _ _ _ _ fp_laid (by kernel_rfl) (of_decide_eq_true (by kernel_rfl)) (fun x hx => by simp [hx]) (fun x hx => hsp x (by simpa using hx)) h2) (trodAll_cons_mk (stay sp _ _ _ _ fp_laid (by kernel_rfl) (of_decide_eq_true (by kernel_rfl)) (fun x hx => by simp [hx]) (fun x hx => hsp x (by simpa using hx)) h3) trodAll_mk0)))))
    (fun _ _ => rfl) (by simp) hb (ok_one (by kernel_rfl) rfl (okWide_bool_mk Tryz.underlying4 _))⟩
theorem mnva_joined : joinedFacts Tryz.prog 8 Tryz.f8 Rows.checkValidatesSpec Rows.checkValidatesRow = true :=
  joined_of _ _ _ _ _ fcva_1 fp_laid fp_maps fcva_4 fcva_5 fcva_6 fp_stops fcva_8 fp_knobs fcva_10 fcva_11 fcva_12 fcva_13 fcva_14 fcva_15 fcva_16 fcva_17 fcva_18 fcva_19 fcva_20 fcva_21 fcva_22 fcva_23 fcva_24 fp_heard fp_enter fcva_27 fcva_28 fcva_29a fcva_29 fcva_30 fcva_31 fcva_32
theorem mnva_wrap : Tryz.f8.isWrapper Tryz.prog Rows.checkValidatesRow.wrapper Rows.checkValidatesRow.mainSum := by
  unfold Func.isWrapper; first | (rw [if_pos (by decide +kernel)]; kernel_rfl) | (rw [if_neg (by decide +kernel)]; exact ⟨rfl, rfl⟩)
theorem mnva_holds : Rows.checkValidatesRow.holds Tryz.pinned (OpenSpec.ofChange Rows.checkValidatesSpec) :=
  OpenClaim.holds_of_wide 8 Tryz.f8 rfl rfl rfl rfl rfl rfl rfl ⟨rfl, rfl, rfl, rfl, rfl⟩ rfl rfl rfl rfl rfl fcva_func Tryz.func8 mnva_joined
    fcva_inst mnva_wrap
    (fun os started H enc _ => mnva_lifted os started H enc)
theorem mnva_wants : ∀ f fn, Tryz.prog.funcNamed "warehouse/warehouselaw28.CheckValidates" = some f → Tryz.prog.funcs[f]? = some fn → false = Tryz.prog.looks [] ∧ ∀ (j : Nat) t, fn.params[j]? = some t → Tryz.prog.wantsStandIn t = false := by
  intro f fn hf hfn
  obtain rfl : f = 8 := Option.some.inj (fcva_func.symm.trans hf) |>.symm
  obtain rfl : fn = Tryz.f8 := (Option.some.inj (Tryz.func8.symm.trans hfn)).symm
  refine ⟨fp_looks, fun j t ht => ?_⟩
  simpa using List.all_eq_true.1 fcva_wants t (Array.mem_toList_iff.2 (Array.mem_of_getElem? ht))
theorem checkValidatesProved : Rows.CheckValidatesCardSaid :=
  Claim7.holds_tied_plain_at .later [] [.widerDeep] true Rows.checkValidatesCard.stood.harness false
    mnva_holds (fun _ h => by cases h) fcva_wft (fun _ h => by cases h) checkValidates_row_tie rfl ⟨rfl, rfl⟩ fcva_main rfl
    mnva_wants fcva_goes
#print axioms checkValidatesProved
end Go.Proofs.YtodapiholjeehaaGreatDoor
