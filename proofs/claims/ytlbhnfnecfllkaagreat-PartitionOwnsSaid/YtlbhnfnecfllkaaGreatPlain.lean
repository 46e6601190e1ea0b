/-
  For a plain row: how arguments read; the row's last step. No function's walk is in sight.
-/
import Derived.Test.YtlbhnfnecfllkaaGreatRows
import Derived.WalkKit
import Derived.ProofKit
import Derived.OpenShut
import Derived.Below
import Derived.ChangeSame
import Derived.Carry
import Derived.ChangeMaps5
import Derived.Test.YtlbhnfnecfllkaaGreatGae
namespace Go.Proofs.YtlbhnfnecfllkaaGreat
open Go.ChangeShapes Go.WideShapes Go.ChangeAt Go.RowKit
set_option linter.unusedVariables false
set_option linter.unusedSimpArgs false

section
variable {H : Type} {enc : TypeId × Value → H} {P : Program}
/-- The row's last step where the call has changed nothing below its own blocks. -/
theorem post_of_under {f : Func} {s : ChangeSpec} {apart fresh handsOn again : Bool} {W W' : World} {args : Array Value} {v : Value} {ds gs : List (DataW H)} {before pa pv : List MemPlace}
    (hW : DataW.Whole enc P f.params.toList s.vars apart W args.toList ds gs before)
    (hres : ∀ (b : Nat) (sp : Nat → Bool) (hd : Bool), DataW.TrodAll enc P W' b sp hd f.resultTypes.toList (v.resultList f.resultTypes.size) (s.fn H (ds ++ gs)).results [])
    (hargs : ∀ sp : Nat → Bool, (∀ p ∈ before, sp p.block = true) → DataW.TrodAll enc P W' 0 sp true f.params.toList args.toList (s.fn H (ds ++ gs)).args pa)
    (hvars : ∀ sp : Nat → Bool, (∀ p ∈ before, sp p.block = true) → DataW.TrodVars enc P W' sp s.vars (s.fn H (ds ++ gs)).vars pv)
    (hps : before = pa ++ pv) (hb : Below W.heap.size W W')
    (hok : ∀ (j : Nat) (t : TypeId) (r : Value), f.resultTypes[j]? = some t → (v.resultList f.resultTypes.size)[j]? = some r → Value.okWide P W' .any 0 t r) :
    s.post enc P f apart fresh handsOn again W args v W' := by
  have hlt : ∀ p ∈ before, p.block < W.heap.size := fun p hp => hW.lt p hp
  have hold : ∀ p ∈ before, (fun b => decide (b < W.heap.size)) p.block = true := fun p hp => by simpa using hlt p hp
  refine ⟨ds, gs, before, [], pa, pv, hW, hres _ _ _, hargs _ hold, hvars _ hold, World.keptBut_mono (fun p hp => ⟨hp, ?_⟩) (hb.frame (· ∈ before)), fun _ => ?_⟩
  · rw [hps, List.mem_append] at hp
    exact Or.inr hp
  · obtain ⟨_, _, _, _, _, hz, hn⟩ := hW
    refine ⟨hok, _, _, ([] ++ pa) ++ pv, ⟨[] ++ pa, pv, trodAll_append (hargs _ (fun _ _ => rfl)) (hres _ _ _), hvars _ (fun _ _ => rfl), rfl, ?_, ?_⟩, ?_⟩
    · intro b off hp
      have hin : MemPlace.cell b off ∈ before := by rw [hps]; simpa using hp
      rw [hb.frozen (hlt _ hin)]
      exact hz b off hin
    · intro ha
      have := hn ha
      rw [hps] at this
      simpa using this
    · intro p hp _
      rw [hps]
      simpa using hp
end

theorem opens_valD : Opens Tryz.prog 65 Val := opens_val Tryz.underlying65 (by kernel_rfl) ⟨rfl, by kernel_rfl, opens_int Tryz.underlying3⟩ ⟨rfl, by kernel_rfl, opens_int Tryz.underlying3⟩ ⟨rfl, by kernel_rfl, opens_string Tryz.underlying9⟩
theorem opens_cols : Opens Tryz.prog 22 (List Col) :=
  opens_slice Tryz.underlying22 (by kernel_rfl) (by decide) (opens_col Tryz.underlying67 (by kernel_rfl) ⟨rfl, by kernel_rfl, opens_string Tryz.underlying9⟩ ⟨rfl, by kernel_rfl, opens_int Tryz.underlying3⟩ ⟨rfl, by kernel_rfl, opens_bool Tryz.underlying4⟩)
theorem opens_vals : Opens Tryz.prog 61 (List Val) := opens_slice Tryz.underlying61 (by kernel_rfl) (by decide) opens_valD
theorem opens_ints : Opens Tryz.prog 27 (List Int) := opens_slice Tryz.underlying27 (by kernel_rfl) (by decide) (opens_int Tryz.underlying3)
theorem opens_ents : Opens Tryz.prog 26 (List Ent) :=
  opens_slice Tryz.underlying26 (by kernel_rfl) (by decide) (opens_ent Tryz.underlying63 (by kernel_rfl) ⟨rfl, by kernel_rfl, opens_vals⟩ ⟨rfl, by kernel_rfl, opens_int Tryz.underlying3⟩)
theorem opens_zoneD : Opens Tryz.prog 25 Zone :=
  opens_zone Tryz.underlying25 (by kernel_rfl) ⟨rfl, by kernel_rfl, opens_string Tryz.underlying9⟩ ⟨rfl, by kernel_rfl, opens_int Tryz.underlying3⟩
    ⟨rfl, by kernel_rfl, opens_slice Tryz.underlying23 (by kernel_rfl) (by decide) (opens_shift Tryz.underlying104 (by kernel_rfl) ⟨rfl, by kernel_rfl, opens_int Tryz.underlying3⟩ ⟨rfl, by kernel_rfl, opens_int Tryz.underlying3⟩)⟩
theorem opens_partD : Opens Tryz.prog 44 Partn :=
  opens_two Tryz.underlying44 (by kernel_rfl) (α := Int) (β := List Ent) ⟨rfl, by kernel_rfl, opens_int Tryz.underlying3⟩ ⟨rfl, by kernel_rfl, opens_ents⟩
    fun w S ca cb a b h1 h2 => by
      obtain ⟨rfl, h1⟩ := h1
      obtain ⟨A, n, c, rfl, h2⟩ := h2
      exact ⟨⟨a, b⟩, A, n, c, rfl, h2, h1⟩
theorem opens_parts : Opens Tryz.prog 31 (List Partn) := opens_slice Tryz.underlying31 (by kernel_rfl) (by decide) opens_partD
theorem own : ownKnob Tryz.prog.godebug = none := by kernel_rfl
/-- A slice argument reads as a list. -/
theorem in_of_arg {α : Type} [Rep α] {t : TypeId} (hop : Opens Tryz.prog t (List α)) {H : Type} {enc : TypeId × Value → H} {W : World} {A : Option Addr} {n c : Nat} {d : DataW H} {ps : List MemPlace} (h : DataW.Trod enc Tryz.prog W 0 (fun _ => true) true t (.slice A n c) d ps) : ∃ xs : List α, In W A n c xs := by
  obtain ⟨fu, hf⟩ := h
  obtain ⟨xs, A', n', c', hl, hs⟩ := hop H enc W _ _ _ _ _ hf
  have hl' : [Value.slice A n c] = [Value.slice A' n' c'] := hl
  injection hl' with hl' _
  injection hl' with e1 e2 e3
  subst e1 e2 e3
  exact ⟨xs, hs⟩
end Go.Proofs.YtlbhnfnecfllkaaGreat
