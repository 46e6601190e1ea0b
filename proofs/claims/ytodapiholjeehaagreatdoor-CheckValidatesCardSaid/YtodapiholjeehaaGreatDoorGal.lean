/-
  slices.Clone of values, partition.copied, byDay: the rows of each day, copied. Package bag: put, done, both. Package bag: merge, Add. (Printed by gen_bagm.py.)
-/
import Derived.Test.YtodapiholjeehaaGreatDoorGak
import Derived.Test.YtodapiholjeehaaGreatDoorGrp
import Derived.Test.YtodapiholjeehaaGreatDoorGac
import Derived.Test.YtodapiholjeehaaGreatDoorGah
import Derived.Test.YtodapiholjeehaaGreatDoorGab
namespace Go.Proofs.YtodapiholjeehaaGreatDoor
open Go.RowKit
set_option linter.unusedSimpArgs false
set_option linter.unusedVariables false
set_option maxHeartbeats 1000000 in
set_option maxRecDepth 100000 in
theorem clone_any (w : World) (A : Option Addr) (n c : Nat) (xs : List Val) (hx : In w A n c xs) (hn : n ≤ 1048576) :
    Calls Tryz.prog 80 #[.slice A n c] w fun e w' => (∃ A' c', e = .returned (.slice A' n c') ∧ Sl w' (New w w' 85) A' n c' xs) ∧ Below w.heap.size w w' := by
  obtain ⟨i0, hi, hz0, hz1, hz2⟩ := info_parts val_info
  have hlen := hide hx.len
  have kn := fun (W : World) (a : Option Addr) (l c : Nat) => Lib.run_eql_slice_nil (P := Tryz.prog) W 59 85 a l c 0 0 Tryz.underlying59
  cases A with
  | none =>
    have h0 : c = 0 := hx.2.2.2.1 rfl
    have h1 : n = 0 := by have := hx.2.1; omega
    subst h0 h1
    have he : xs = [] := List.eq_nil_of_length_eq_zero hx.1
    subst he
    go_enter Tryz.func80, Tryz.ntmps80
    go_wp2
    go_ret
    exact ⟨⟨_, _, rfl, Sl.nil_⟩, Below.refl _ _⟩
  | some ad =>
    obtain ⟨cs, HC, HS⟩ := Sl.cells (hx.below (below_alloc (o := .cells #[] 85)))
    have h1 := cells_vals HC
    have HC := hide HC
    go_enter Tryz.func80, Tryz.ntmps80
    go_wp2_with (at_builtin; refine wpList_append_src _ rfl (.tmp 5) (.tmp 6) 59 rfl w.heap.size 85 i0 _ 3 32 Tryz.underlying59 hi hz0 hz1 hz2 rfl (by decide) (.slice (some ⟨w.heap.size, 0, none⟩) 0 0) 0 [] rfl (World.ownsRow_made w #[] 0 (Nat.le_refl _) (by decide) rfl) (some ad) n c cs rfl (fun h => by cases h) HS h1 (by simp only [maxLen]; omega) (by omega) (by simp) ?_; intro v1 w3 hown1 hg1 hat1)
    have hb3 : Below w.heap.size w w3 := (below_alloc).grown hg1 (by simp) (fun j e => by simp [Value.ownBlock] at e; omega)
    have hown2 : w3.ownsRow w.heap.size 85 3 v1 n cs := by simpa using hown1
    obtain ⟨A', c', rfl, hsl, _⟩ := sl_of_own (S := fun _ => False) (T := New w w3 85) hown2 (cells_val_any HC.out) (fun _ h => h.elim) hlen.out (fun g hg ht => ⟨hg, ht⟩)
    go_ret
    exact ⟨⟨A', c', rfl, hsl⟩, hb3⟩
end Go.Proofs.YtodapiholjeehaaGreatDoor

namespace Go.Proofs.YtodapiholjeehaaGreatDoor
open Go.RowKit
set_option linter.unusedSimpArgs false
set_option linter.unusedVariables false
theorem elem_ents : Elem Tryz.prog 30 61 2 32 := elem_mk _ Tryz.underlying30 ent_info rfl (by decide)
abbrev OE (B : Nat) (w : World) (v : Value) (zs : List Ent) : Prop := OL 61 B (fun _ => False) [85] w v zs
end Go.Proofs.YtodapiholjeehaaGreatDoor

namespace Go.Proofs.YtodapiholjeehaaGreatDoor
open Go.RowKit
set_option linter.unusedSimpArgs false
set_option linter.unusedVariables false
def sg (s : Int) (l : List Ent) : List Ent := l.map fun x => ⟨x.row, s * x.count⟩
def MState (M rest : List Ent) (ok : Bool) (zs : List Ent) : Prop :=
  ∃ ws, M = ws ++ rest ∧ (ok = true → zs = keepF ws ∧ ∀ x ∈ ws, -65536 ≤ x.count ∧ x.count ≤ 65536) ∧ (ok = false → ∃ x ∈ ws, x.count < -65536 ∨ 65536 < x.count)
theorem resErr_bad : ∀ (l : List Ent) (m : Nat), (∃ x ∈ l, x.count < -65536 ∨ 65536 < x.count) → resErr m l = true
  | [], m, h => by simp at h
  | x :: l, m, h => by
    rw [resErr]
    by_cases q : x.count = 0
    · rw [if_pos q]
      refine resErr_bad l m ?_
      obtain ⟨y, hy, h⟩ := h
      rcases List.mem_cons.1 hy with rfl | hy
      · omega
      · exact ⟨y, hy, h⟩
    · rw [if_neg q]
      obtain ⟨y, hy, h⟩ := h
      rcases List.mem_cons.1 hy with rfl | hy
      · rcases h with h | h <;> simp [h]
      · rw [resErr_bad l (m + 1) ⟨y, hy, h⟩]; simp
def mergS (M : List Ent) : Int × List Ent := if resErr 0 M = true then (2, []) else (0, keepF M)
theorem MState.bad {M rest zs : List Ent} (h : MState M rest false zs) : mergS M = (2, []) := by
  obtain ⟨ws, h1, _, h3⟩ := h
  obtain ⟨x, hx, h⟩ := h3 rfl
  rw [mergS, if_pos (resErr_bad _ _ ⟨x, by rw [h1]; simp [hx], h⟩)]
end Go.Proofs.YtodapiholjeehaaGreatDoor
