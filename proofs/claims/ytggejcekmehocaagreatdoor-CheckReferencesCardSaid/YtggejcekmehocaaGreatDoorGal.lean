/-
  Maps from strings: the run of a store of a new key and of a look-up. No program is in sight. partition.Split: the partitions of a bag, by ascending day. partition.Replace, warehouseref22.Replace. Plain law: a table of the world fits its columns and its scheme. warehouseworld.Columns at a number; Table as lists; facts that a write to the numbers does not touch.
-/
import Derived.Maps.Own
import Derived.Maps.OwnOps
import Derived.Lib.SlKeysI
import Derived.Shelf.SlIterI.Nil
import Derived.Shelf.SortM.Plain
import Derived.Shelf.SortM.SortNone
import Derived.Test.YtggejcekmehocaaGreatDoorProg
import Derived.Test.YtggejcekmehocaaGreatDoorGab
import Derived.Test.YtggejcekmehocaaGreatDoorGaj
import Derived.Test.YtggejcekmehocaaGreatDoorGrp
import Derived.Test.YtggejcekmehocaaGreatDoorGai
import Derived.Test.YtggejcekmehocaaGreatDoorGad
import Derived.Test.YtggejcekmehocaaGreatDoorGag
import Derived.Test.YtggejcekmehocaaGreatDoorGaa
import Derived.Test.YtggejcekmehocaaGreatDoorGac
import Derived.Test.YtggejcekmehocaaGreatDoorGak
namespace Go.Proofs.YtggejcekmehocaaGreatDoor
open Go.RowKit Go.ChangeMaps Go.MapKept
set_option linter.unusedSimpArgs false
set_option linter.unusedVariables false
def SMap (w : World) (b : Nat) (es : List (ByteArray × Value)) : Prop :=
  ∃ arr clock, w.heap[b]? = some (.map arr clock) ∧ arr.toList.map (fun e => (e.key, e.val)) = es.map fun p => (Value.string p.1, p.2)
def lookS (s : ByteArray) : List (ByteArray × Value) → Option Value
  | [] => none
  | p :: l => if s.toList == p.1.toList then some p.2 else lookS s l
theorem same_bytes (a b : ByteArray) : (a == b) = (a.toList == b.toList) := by
  rw [ByteArray.toList_eq, ByteArray.toList_eq]
  obtain ⟨a⟩ := a
  obtain ⟨b⟩ := b
  show (a == b) = _
  rw [Bool.eq_iff_iff]
  simp
theorem findNow_str (s : ByteArray) : ∀ (l : List MapEntry) (es : List (ByteArray × Value)) (i : Nat), l.map (fun e => (e.key, e.val)) = es.map (fun p => (Value.string p.1, p.2)) →
    ∃ r, Instr.findNow .string (.string s) l i = some r ∧ r.map (·.2) = lookS s es
  | [], [], _, _ => ⟨none, rfl, rfl⟩
  | [], p :: es, _, h => by cases h
  | e :: l, [], _, h => by cases h
  | e :: l, p :: es, i, h => by
    rw [List.map_cons, List.map_cons] at h
    injection h with h1 h2
    injection h1 with hk hv
    have hs : Instr.sameNow .string (.string s) e.key = some (s.toList == p.1.toList) := by rw [hk]; simp only [Instr.sameNow]; rw [same_bytes]
    cases hb : (s.toList == p.1.toList)
    · obtain ⟨r, h3, h4⟩ := findNow_str s l es (i + 1) h2
      exact ⟨r, by rw [Instr.findNow, hs, hb]; exact h3, by rw [lookS, hb]; exact h4⟩
    · exact ⟨some (i, e.val), by rw [Instr.findNow, hs, hb], by rw [lookS, hb, ← hv]; rfl⟩
theorem key_str (s : ByteArray) : IsKey .string (.string s) := by simp [IsKey]
section
variable {P : Program} {t k e : TypeId} {w : World} {b : Nat} {es : List (ByteArray × Value)}
theorem SMap.lt (h : SMap w b es) : b < w.heap.size := by
  obtain ⟨arr, clock, hb, _⟩ := h
  exact (Array.getElem?_eq_some_iff.1 hb).1
theorem SMap.below (h : SMap w b es) {w' : World} (hb : Below w.heap.size w w') : SMap w' b es := by
  have hl := h.lt
  obtain ⟨arr, clock, h1, h2⟩ := h
  exact ⟨arr, clock, (hb.block b hl).trans h1, h2⟩
theorem SMap.made (w : World) : SMap (w.alloc (.map #[] 0)) w.heap.size [] := ⟨#[], 0, heap_alloc_new w _, rfl⟩
theorem run_look (ht : P.underlying t = some (.map k e)) (hk : P.underlying k = some .string) (h : SMap w b es) (s : ByteArray) (z : Value) (hz : (zeroValue e).run P w = .ok z w) :
    (Instr.lookup t (.map (some b)) (.string s) true).run P w = .ok (.tuple #[(lookS s es).getD z, .bool (lookS s es).isSome]) w ∧
    (Instr.lookup t (.map (some b)) (.string s) false).run P w = .ok ((lookS s es).getD z) w := by
  obtain ⟨arr, clock, hb, hm⟩ := h
  obtain ⟨r, hr, hl⟩ := findNow_str s arr.toList es 0 hm
  have hc := run_checkKey (w := w) hk (key_str s) arr.isEmpty 9999
  have hf := run_findKey (w := w) hk hr
  rw [← hl]
  cases r with
  | none => constructor <;> simp [Instr.lookup, Sem.run_bind, run_underlying ht, MapKept.run_getObj_map hb, hc, hf, hz, Result.andThen]
  | some p => constructor <;> simp [Instr.lookup, Sem.run_bind, run_underlying ht, MapKept.run_getObj_map hb, hc, hf, hz, Result.andThen]
theorem run_store_new (ht : P.underlying t = some (.map k e)) (hk : P.underlying k = some .string) (h : SMap w b es) (s : ByteArray) (v : Value) (hn : lookS s es = none) :
    ∃ w', (Instr.mapUpdate t (.map (some b)) (.string s) v).run P w = .ok () w' ∧ SMap w' b (es ++ [(s, v)]) ∧ w.grownBy w' (some b) := by
  obtain ⟨arr, clock, hb, hm⟩ := h
  obtain ⟨r, hr, hl⟩ := findNow_str s arr.toList es 0 hm
  have hc := run_checkKey (w := w) hk (key_str s) false 9999
  have hf := run_findKey (w := w) hk hr
  rw [hn] at hl
  cases r with
  | some p => cases hl
  | none =>
    refine ⟨setBlock w b (.map (arr.push { key := .string s, val := v, born := clock }) (clock + 1)), ?_, ⟨_, _, heap_setBlock_same hb _, by simp [hm]⟩, ⟨rfl, rfl, rfl, by simp [setBlock], fun i _ hi => heap_setBlock_other hb _ (fun e => hi (by rw [e]))⟩⟩
    simp [Instr.mapUpdate, Sem.run_bind, run_underlying ht, MapKept.run_getObj_map hb, MapKept.run_setObj_map _ hb, hc, hf, Result.andThen, setBlock]
theorem push_set {α : Type} (a : Array α) (x y : α) : (a.push x).setIfInBounds a.size y = a.push y := by
  apply Array.ext_getElem?
  intro i
  rw [Array.getElem?_setIfInBounds, Array.getElem?_push, Array.getElem?_push, Array.size_push]
  by_cases h : a.size = i
  · subst h; simp
  · rw [if_neg h, if_neg (fun e => h e.symm), if_neg (fun e => h e.symm)]
theorem run_store_made (ht : P.underlying t = some (.map k e)) (hk : P.underlying k = some .string) (w : World) (arr : Array MapEntry) (clock : Nat) (s : ByteArray) (v : Value) (hn : Instr.findNow .string (.string s) arr.toList 0 = some none) :
    (Instr.mapUpdate t (.map (some w.heap.size)) (.string s) v).run P (w.alloc (.map arr clock)) = .ok () (w.alloc (.map (arr.push { key := .string s, val := v, born := clock }) (clock + 1))) := by
  have hb : (w.alloc (.map arr clock)).heap[w.heap.size]? = some (.map arr clock) := heap_alloc_new w _
  have hc := run_checkKey (w := w.alloc (.map arr clock)) hk (key_str s) false 9999
  have hf := run_findKey (w := w.alloc (.map arr clock)) hk hn
  have hs : ({ w.alloc (.map arr clock) with heap := (w.alloc (.map arr clock)).heap.setIfInBounds w.heap.size (.map (arr.push { key := .string s, val := v, born := clock }) (clock + 1)) } : World) = w.alloc (.map (arr.push { key := .string s, val := v, born := clock }) (clock + 1)) := by
    show ({ w.alloc (.map arr clock) with heap := (w.heap.push (.map arr clock)).setIfInBounds w.heap.size (.map (arr.push { key := .string s, val := v, born := clock }) (clock + 1)) } : World) = _
    rw [push_set]
    rfl
  simp [Instr.mapUpdate, Sem.run_bind, run_underlying ht, MapKept.run_getObj_map hb, MapKept.run_setObj_map _ hb, hc, hf, Result.andThen]
  exact hs
end
end Go.Proofs.YtggejcekmehocaaGreatDoor

namespace Go.Proofs.YtggejcekmehocaaGreatDoor
open Go.RowKit
set_option linter.unusedSimpArgs false
set_option linter.unusedVariables false
def SP (w : World) (k : Nat) : Prop := TyAt w 61 k ∨ TyAt w 74 k
theorem SP.lt {w : World} {k : Nat} (h : SP w k) : k < w.heap.size := h.elim TyAt.lt TyAt.lt
theorem SP.below {w w' : World} {k : Nat} (h : SP w k) (hb : Below w.heap.size w w') : SP w' k := h.imp (fun h => h.below hb) (fun h => h.below hb)
theorem FreshEnts.sp {w0 w : World} {v : Value} {zs : List Ent} (h : FreshEnts w0 w v zs) : ∃ A c, v = .slice A zs.length c ∧ Sl w (SP w) A zs.length c zs := by
  obtain ⟨cs, h1, h2⟩ := h
  obtain ⟨A, c, e, hs, _⟩ := sl_of_own (T := SP w) h1 h2 (fun k hk => .inr hk.2) rfl (fun g _ hg => .inl hg)
  exact ⟨A, c, e, hs⟩
end Go.Proofs.YtggejcekmehocaaGreatDoor

namespace Go.Proofs.YtggejcekmehocaaGreatDoor
open Go.RowKit
set_option linter.unusedSimpArgs false
set_option linter.unusedVariables false
theorem normed_S {xs : List Ent} {m : Int} {zs : List Ent} (h : Normed xs m zs) : normS xs = (m, zs) := by
  rw [normS]
  rcases h with ⟨h1, rfl, rfl⟩ | ⟨h1, h2⟩
  · rw [if_pos h1]
  · rw [if_neg (by simpa using h1), bagS]
    rcases h2 with ⟨rfl, h, rfl⟩ | ⟨rfl, h, rfl⟩
    · rw [if_pos h]
    · rw [if_neg (by rw [h]; simp)]
end Go.Proofs.YtggejcekmehocaaGreatDoor

namespace Go.Proofs.YtggejcekmehocaaGreatDoor
set_option linter.unusedSimpArgs false
set_option linter.unusedVariables false
theorem tent_row {cols : List Col} {x : Ent} (h : TEnt cols x) : rowErr cols x.row = 0 :=
  rowErr_fits h.1 fun i h1 h2 => by
    have := h.2.1 i h2
    rwa [List.getD_eq_getElem?_getD, List.getD_eq_getElem?_getD, List.getElem?_eq_getElem h1, List.getElem?_eq_getElem h2] at this
theorem cellErr_valid {c : Col} {v : Val} (h : cellErr c v = 0) : valid v = true := by
  rw [cellErr] at h
  split at h
  · omega
  · rename_i q; simpa using q
theorem tent_ent {cols : List Col} (hl : cols.length ≤ 12) {x : Ent} (h : TEnt cols x) : entErr x = 0 := by
  refine entErr_row.2 ⟨by have := h.2.2; omega, by rw [h.1]; exact hl, fun v hv => ?_⟩
  obtain ⟨i, hi, rfl⟩ := List.mem_iff_getElem.1 hv
  have := h.2.1 i (by rw [← h.1]; exact hi)
  rw [List.getD_eq_getElem?_getD, List.getD_eq_getElem?_getD, List.getElem?_eq_getElem hi] at this
  exact cellErr_valid this.2
theorem len_bagS {xs : List Ent} : (bagS xs).2.length ≤ xs.length := by
  rw [bagS]
  split
  · simp
  · exact len_cnt (keepF_asc (sortL_asc _)) (keepF_noz _) fun r hr => by
      rw [keepF_cnt, sortL_cnt] at hr
      by_cases g : ∃ x ∈ xs, x.row = r
      · exact g
      · exact absurd (cnt_none fun x hx e => g ⟨x, hx, cr_zero.1 e⟩) hr
theorem TabOf.bag {cols : List Col} (hl : cols.length ≤ 12) {zs : List Ent} (h : TabOf cols zs) : bagErr zs = 0 ∧ (∀ x ∈ zs, rowErr cols x.row = 0) ∧ zs.length ≤ 1000 := by
  obtain ⟨xs, q, h1, h2, h3⟩ := h
  have hn := normed_S h3
  rw [normS_ok fun x hx => tent_ent hl (h1 x hx)] at hn
  have a := bagS_ok (xs := xs) fun x hx => tent_ent hl (h1 x hx)
  have b := bagS_rows (P := fun r => rowErr cols r = 0) (xs := xs) fun x hx => tent_row (h1 x hx)
  have c := len_bagS (xs := xs)
  rw [hn] at a b c
  exact ⟨a, b, Nat.le_trans c h2⟩
theorem wCols_ok : ∀ cols ∈ wCols, colsErr cols = 0 := by
  intro cols h
  simp only [wCols, List.mem_cons, List.not_mem_nil, or_false] at h
  rcases h with rfl | rfl | rfl <;> simp [cId, cName, cAt, cOk, colsErr, firstErr, colErr, isName, nameFrom, nameOk, byteAt, index, indexFrom, ByteArray.toList_eq, ByteArray.size]
end Go.Proofs.YtggejcekmehocaaGreatDoor

namespace Go.Proofs.YtggejcekmehocaaGreatDoor
open Go.RowKit
set_option linter.unusedSimpArgs false
set_option linter.unusedVariables false
theorem offLow {α : Type} [Rep α] {w w' : World} {gb : Nat} {A : Option Addr} {n c : Nat} {xs : List α} (h : In w A n c xs) (hb : Below w.heap.size w w') (hg : w.heap.size ≤ gb) : Off w' gb A n c xs :=
  (h.keep (Same.below hb)).mono fun k (hk : k < w.heap.size) => ⟨Nat.lt_of_lt_of_le hk hb.size, by omega⟩
def shCols : List Col := [cId false, cName true, cAt 4 false]
def reO : List Col := [cName false, cAt 2 true]
theorem sh_in : shCols ∈ wCols ∧ reO ∈ wCols := by simp [wCols, shCols, reO]
set_option maxHeartbeats 1000000 in
set_option maxRecDepth 100000 in
theorem columnsW_0 (w : World) : Calls Tryz.prog 32 #[.int .i64 0] w
    fun e w' => (e = .returned (.slice (some ⟨w.heap.size, 0, none⟩) 3 3) ∧ In w' (some ⟨w.heap.size, 0, none⟩) 3 3 shCols) ∧ Below w.heap.size w w' := by
  go_enter Tryz.func32, Tryz.ntmps32
  go_wp2_with fail
  refine (placeW_any 0 3 (by omega) (by omega) _).mono ?_
  rintro e w1 ⟨rfl, rfl⟩
  rw [show (0 : Int) % 3 = 0 from rfl]
  go_wp2
  go_ret
  exact ⟨⟨rfl, in_wcols _ sh_in.1 rfl rfl⟩, below_alloc⟩
set_option maxHeartbeats 1000000 in
set_option maxRecDepth 100000 in
theorem columnsW_2 (w : World) : Calls Tryz.prog 32 #[.int .i64 2] w
    fun e w' => (e = .returned (.slice (some ⟨w.heap.size, 0, none⟩) 2 2) ∧ In w' (some ⟨w.heap.size, 0, none⟩) 2 2 reO) ∧ Below w.heap.size w w' := by
  go_enter Tryz.func32, Tryz.ntmps32
  go_wp2_with fail
  refine (placeW_any 2 3 (by omega) (by omega) _).mono ?_
  rintro e w1 ⟨rfl, rfl⟩
  rw [show (2 : Int) % 3 = 2 from rfl]
  go_wp2
  go_ret
  exact ⟨⟨rfl, in_wcols _ sh_in.2 rfl rfl⟩, below_alloc⟩
theorem tabH_any (w : World) (gb : Nat) (A : Option Addr) (n c : Nat) (l : List Int) (i : Nat) (hN : Num w gb A n c l i) (A1 : Option Addr) (n1 c1 : Nat) (cols : List Col) (hc : Off w gb A1 n1 c1 cols) (hm : cols ∈ wCols) (m : Int) (hm0 : 0 ≤ m) (hm1 : m ≤ 1000) :
    Calls Tryz.prog 33 #[.slice A1 n1 c1, .pointer (some ⟨gb, 0, none⟩), .int .i64 m] w
      fun e w' => (∃ A' c' zs j, e = .returned (.slice A' zs.length c') ∧ Hi w.heap.size w' A' zs.length c' zs ∧ TabOf cols zs ∧ Num w' gb A n c l j) ∧ w.grownBy w' (some gb) := by
  have hg := wCols_good cols hm
  have hl := hc.inn.len
  refine (tableW_any w gb A n c l i hN A1 n1 c1 cols hc hg.1 (by omega) m hm0 hm1).mono ?_
  rintro e w' ⟨v, xs, zs, q, j, rfl, hf, hx, hxl, hno, hn4, hg4⟩
  obtain ⟨A4, c4, rfl, hin4⟩ := hf.hi
  exact ⟨⟨A4, c4, zs, j, rfl, hin4, ⟨xs, q, hx, hxl, hno⟩, hn4⟩, hg4⟩
theorem Num.other {w0 w w' : World} {g h : Nat} {A : Option Addr} {n c : Nat} {l : List Int} {i : Nat} (hN : Num w h A n c l i) (hl : In w0 A n c l) (hw : Below w0.heap.size w0 w) (h0 : w0.heap.size ≤ g) (hlt : w0.heap.size ≤ h) (hne : h ≠ g) (hg : w.grownBy w' (some g)) : Num w' h A n c l i := by
  have hs : ∀ k, k < w.heap.size → k ≠ g → w'.heap[k]? = w.heap[k]? := fun k hk hn => hg.block k hk fun e => by injection e with e; exact hn e
  have hh := hs h hN.lt hne
  obtain ⟨cur, hc, hm⟩ := hN.blk
  have hb : Below w0.heap.size w0 w' := below_of_grown hw hg hw.size h0
  exact ⟨(World.cell?_of_block (a := ⟨h, 0, none⟩) hh).trans hN.c0, (World.cell?_of_block (a := ⟨h, 1, none⟩) hh).trans hN.c1, ⟨cur, hh.trans hc, hm⟩, (hl.keep (Same.below hb)).mono fun k (hk : k < w0.heap.size) => by omega, hN.le, hN.nn⟩
end Go.Proofs.YtggejcekmehocaaGreatDoor
