/-
  For every input the law EvaluateRelations returns true, and its arguments read as they did.
-/
import Derived.Test.YtmnhahilbbnkkaaRows
import Derived.Test.YtmnhahilbbnkkaaLaw
import Derived.WalkKit
import Derived.ProofKit
import Derived.OpenShut
import Derived.Below
import Derived.ChangeSame
import Derived.Carry
namespace Go.Proofs.Ytmnhahilbbnkkaa
open Go.ChangeShapes Go.WideShapes Go.ChangeAt Go.RowKit
set_option linter.unusedVariables false
set_option linter.unusedSimpArgs false

section
variable {H : Type} {enc : TypeId × Value → H} {P : Program}
/-- The row's last step where the call has changed nothing below its own blocks. -/
theorem post_of_under {f : Func} {s : ChangeSpec} {apart fresh handsOn again : Bool} {W W' : World} {args : Array Value} {v : Value} {ds gs : List (DataW H)} {before pa pv : List MemPlace}
    (hW : DataW.Whole enc P f.params.toList s.vars apart W args.toList ds gs before)
    (hres : ∀ (b : Nat) (sp : Nat → Bool) (hd : Bool), DataW.TrodAll enc P W' b sp hd f.resultTypes.toList (v.resultList f.resultTypes.size) (s.fn H (ds ++ gs)).results [])
    (hargs : ∀ sp : Nat → Bool, (∀ p ∈ before, sp p.block = true) → DataW.TrodAll enc P W' 0 sp true f.params.toList args.toList (s.fn H (ds ++ gs)).args pa)
    (hvars : ∀ sp : Nat → Bool, (∀ p ∈ before, sp p.block = true) → DataW.TrodVars enc P W' sp s.vars (s.fn H (ds ++ gs)).vars pv)
    (hps : before = pa ++ pv) (hb : Below W.heap.size W W')
    (hok : ∀ (j : Nat) (t : TypeId) (r : Value), f.resultTypes[j]? = some t → (v.resultList f.resultTypes.size)[j]? = some r → Value.okWide P W' .any 0 t r) :
    s.post enc P f apart fresh handsOn again W args v W' := by
  have hlt : ∀ p ∈ before, p.block < W.heap.size := fun p hp => hW.lt p hp
  have hold : ∀ p ∈ before, (fun b => decide (b < W.heap.size)) p.block = true := fun p hp => by simpa using hlt p hp
  refine ⟨ds, gs, before, [], pa, pv, hW, hres _ _ _, hargs _ hold, hvars _ hold, World.keptBut_mono (fun p hp => ⟨hp, ?_⟩) (hb.frame (· ∈ before)), fun _ => ?_⟩
  · rw [hps, List.mem_append] at hp
    exact Or.inr hp
  · obtain ⟨_, _, _, _, _, hz, hn⟩ := hW
    refine ⟨hok, _, _, ([] ++ pa) ++ pv, ⟨[] ++ pa, pv, trodAll_append (hargs _ (fun _ _ => rfl)) (hres _ _ _), hvars _ (fun _ _ => rfl), rfl, ?_, ?_⟩, ?_⟩
    · intro b off hp
      have hin : MemPlace.cell b off ∈ before := by rw [hps]; simpa using hp
      rw [hb.frozen (hlt _ hin)]
      exact hz b off hin
    · intro ha
      have := hn ha
      rw [hps] at this
      simpa using this
    · intro p hp _
      rw [hps]
      simpa using hp
end

theorem opens_cols : Opens Try.prog 22 (List Col) :=
  opens_slice Try.underlying22 (by kernel_rfl) (by decide) (opens_col Try.underlying34 (by kernel_rfl) ⟨rfl, by kernel_rfl, opens_string Try.underlying9⟩ ⟨rfl, by kernel_rfl, opens_int Try.underlying3⟩ ⟨rfl, by kernel_rfl, opens_bool Try.underlying4⟩)
theorem opens_vals : Opens Try.prog 35 (List Val) :=
  opens_slice Try.underlying35 (by kernel_rfl) (by decide) (opens_val Try.underlying42 (by kernel_rfl) ⟨rfl, by kernel_rfl, opens_int Try.underlying3⟩ ⟨rfl, by kernel_rfl, opens_int Try.underlying3⟩ ⟨rfl, by kernel_rfl, opens_string Try.underlying9⟩)
theorem opens_ents : Opens Try.prog 24 (List Ent) :=
  opens_slice Try.underlying24 (by kernel_rfl) (by decide) (opens_ent Try.underlying37 (by kernel_rfl) ⟨rfl, by kernel_rfl, opens_vals⟩ ⟨rfl, by kernel_rfl, opens_int Try.underlying3⟩)
theorem opens_keys : Opens Try.prog 23 (List (List ByteArray)) :=
  opens_slice Try.underlying23 (by kernel_rfl) (by decide) (opens_slice Try.underlying73 (by kernel_rfl) (by decide) (opens_string Try.underlying9))
theorem opens_ints : Opens Try.prog 27 (List Int) := opens_slice Try.underlying27 (by kernel_rfl) (by decide) (opens_int Try.underlying3)
theorem opens_relation : Opens Try.prog 26 Rel :=
  opens_rel Try.underlying26 (by kernel_rfl) ⟨rfl, by kernel_rfl, opens_string Try.underlying9⟩ ⟨rfl, by kernel_rfl, opens_cols⟩ ⟨rfl, by kernel_rfl, opens_keys⟩ ⟨rfl, by kernel_rfl, opens_ents⟩

theorem own : ownKnob Try.prog.godebug = none := by kernel_rfl

set_option maxRecDepth 100000 in
theorem lifted (os : Os) (started : os.Started) (H : Type) (enc : TypeId × Value → H) :
    ReturnsInHanded {} Try.checked os 3 .any (Rows.evaluateRelationsSpec.pre6 enc Try.prog Try.f3 Rows.evaluateRelationsRow.domain false) (Rows.evaluateRelationsSpec.post enc Try.prog Try.f3 false true false false) := by
  refine returnsInHanded_of_change (C := Try.checked) own started (by kernel_rfl) Try.func3
    (ChangeSpec.witness6 (enc := enc) (C := Try.checked) false ⟨#[], #[.agg #[.string ⟨#[]⟩, .slice none 0 0, .slice none 0 0, .slice none 0 0], .slice none 0 0, .int .i64 0], []⟩ 8 (by kernel_rfl) (by kernel_rfl) (by kernel_rfl) (by kernel_rfl)) ?_
  intro W base args ds gs before hval0 hW hcnd _
  have hval : ∀ (j : Nat) t v, Try.f3.params[j]? = some t → args[j]? = some v → Value.okWide Try.prog W .any base t v := hval0
  have hW' := hW
  obtain ⟨p, q, hA0, hV, rfl, hfz, hnd⟩ := hW
  have hA : DataW.TrodAll enc Try.prog W 0 (fun _ => true) true Try.f3.params.toList args.toList ds p := hA0
  have hAA := hA
  rw [Try.params3] at hA hval
  obtain ⟨v0, vs0, d0, ds0, p0, q0, hargs, rfl, rfl, h0, r0⟩ := trodAll_cons hA
  obtain ⟨v1, vs1, d1, ds1, p1, q1, rfl, rfl, rfl, h1, r1⟩ := trodAll_cons r0
  obtain ⟨v2, vs2, d2, ds2, p2, q2, rfl, rfl, rfl, h2, r2⟩ := trodAll_cons r1
  obtain ⟨rfl, rfl, rfl⟩ := trodAll_nil r2
  obtain rfl : args = #[v0, v1, v2] := by cases args; simp_all
  obtain ⟨rfl, rfl⟩ := trodVars_none hV
  obtain ⟨xs, rfl, hsz⟩ := okWide_struct Try.underlying26 (hval 0 26 v0 rfl rfl)
  obtain ⟨A2, n2, c2, rfl⟩ := okWide_slice Try.underlying27 (hval 1 27 v1 rfl rfl)
  obtain ⟨m, hm, _, _, wm⟩ := open_int Try.underlying3 (hval 2 3 v2 rfl rfl) h2
  subst hm
  obtain ⟨fu0, hf0⟩ := h0
  obtain ⟨fu1, hf1⟩ := h1
  obtain ⟨r, A, n, c, A', n', c', A'', n'', c'', hcs, s1, s2, s3, hstr⟩ := opens_relation H enc W _ _ _ _ _ hf0
  obtain ⟨l, B, k, d, hl, sl⟩ := opens_ints H enc W _ _ _ _ _ hf1
  have hl' : [Value.slice A2 n2 c2] = [Value.slice B k d] := hl
  injection hl' with hl' _
  injection hl' with e1 e2 e3
  subst e1 e2 e3
  have hcs' : xs.toList = [.string r.name, .slice A n c, .slice A' n' c', .slice A'' n'' c''] := hcs
  obtain rfl : xs = #[.string r.name, .slice A n c, .slice A' n' c', .slice A'' n'' c''] := by cases xs; simp_all
  have hlt : ∀ x ∈ p0 ++ (p1 ++ (p2 ++ [])), x.block < W.heap.size := fun x hx => hW'.lt x (by simpa using hx)
  clear hA0 hval0
  refine (law_any W A A' A'' A2 n n' n'' c c' c'' n2 c2 r s1 s3 l sl m).mono fun e W' ⟨he, hb⟩ => ?_
  subst he
  have stay : ∀ (sp : Nat → Bool) (t : TypeId) (v : Value) (dd : DataW H) (ps : List MemPlace), laidOutB Try.prog = true → Try.prog.readableRec t = true → t < Try.prog.types.size → (∀ x ∈ ps, x ∈ p0 ++ (p1 ++ (p2 ++ []))) → (∀ x ∈ p0 ++ (p1 ++ (p2 ++ [])), sp x.block = true) → DataW.Trod enc Try.prog W 0 (fun _ => true) true t v dd ps → DataW.Trod enc Try.prog W' 0 sp true t v dd ps :=
    fun sp t v dd ps q1 q2 q3 q4 q5 h => WideElems.Trod_stays q1 q2 q3 h (fun x hx => hb.same (hlt x (q4 x hx))) (fun x hx => q5 x (q4 x hx))
  exact ⟨_, rfl, post_of_under (pa := p0 ++ (p1 ++ (p2 ++ []))) (pv := []) hW' (fun _ _ _ => trodAll_cons_mk (shut_bool Try.underlying4 _) trodAll_mk0)
    (fun sp hsp => trodAll_cons_mk (stay sp _ _ _ _ (by kernel_rfl) (by kernel_rfl) (of_decide_eq_true (by kernel_rfl)) (fun x hx => by simp [hx]) (fun x hx => hsp x (by simpa using hx)) ⟨fu0, hf0⟩)
      (trodAll_cons_mk (stay sp _ _ _ _ (by kernel_rfl) (by kernel_rfl) (of_decide_eq_true (by kernel_rfl)) (fun x hx => by simp [hx]) (fun x hx => hsp x (by simpa using hx)) ⟨fu1, hf1⟩)
      (trodAll_cons_mk (stay sp _ _ _ _ (by kernel_rfl) (by kernel_rfl) (of_decide_eq_true (by kernel_rfl)) (fun x hx => by simp [hx]) (fun x hx => hsp x (by simpa using hx)) h2) trodAll_mk0)))
    (fun _ _ => rfl) (by simp) hb (ok_one (by kernel_rfl) rfl (okWide_bool_mk Try.underlying4 _))⟩

theorem over : Rows.evaluateRelationsRow.holds Try.pinned (OpenSpec.ofChange Rows.evaluateRelationsSpec) :=
  OpenClaim.holds_of_wide 3 Try.f3 rfl rfl rfl rfl rfl rfl rfl ⟨rfl, rfl, rfl, rfl, rfl⟩ rfl rfl rfl rfl rfl (by kernel_rfl) Try.func3 (by kernel_rfl)
    (of_decide_eq_true (by kernel_rfl)) (by unfold Func.isWrapper; first | (rw [if_pos (by decide +kernel)]; kernel_rfl) | (rw [if_neg (by decide +kernel)]; exact ⟨rfl, rfl⟩))
    (fun os started H enc _ => lifted os started H enc)

theorem evaluateRelationsProved : Rows.EvaluateRelationsSaid := over
#print axioms evaluateRelationsProved
end Go.Proofs.Ytmnhahilbbnkkaa
