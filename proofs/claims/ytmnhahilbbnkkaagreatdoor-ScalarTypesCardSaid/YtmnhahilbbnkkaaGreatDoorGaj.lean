/-
  Slices of slices; slices of a call's own behind other calls. No program is in sight. warehousebase: constant, apply, leaf, Unknown: what they build and say.
-/
import Derived.Test.YtmnhahilbbnkkaaGreatDoorGah
import Derived.Test.YtmnhahilbbnkkaaGreatDoorTypR
namespace Go.Proofs.YtmnhahilbbnkkaaGreatDoor
open Go.RowKit
set_option linter.unusedSimpArgs false
set_option linter.unusedVariables false

theorem In.lst {α : Type} [Rep α] {w : World} {A : Option Addr} {n c k : Nat} {xs : List (List α)} (h : In w A n c xs) (hk : k < n) : ∃ b off x, A = some ⟨b, off, none⟩ ∧ b < w.heap.size ∧ Hid (xs.drop k = x :: xs.drop (k + 1)) ∧
    ∃ A' n' c', w.cell? ⟨b, off + k, none⟩ = some (.slice A' n' c') ∧ In w A' n' c' x := by
  obtain ⟨b, off, x, e, hb, hx, cs, ⟨A', n', c', rfl, hs⟩, hc⟩ := h.get hk
  have h0 := hc 0 (by simp)
  exact ⟨b, off, x, e, hb, hx, A', n', c', by simpa [Rep.size] using h0, hs⟩
theorem in_lists {α : Type} [Rep α] {w : World} {b : Nat} {e : TypeId} {arr : Array Value} (h : w.heap[b]? = some (.cells arr e (0, 0))) {xs : List (List α)} (hx : xs.length ≤ 4096)
    (hr : ∀ i (hi : i < xs.length), ∃ A n c, arr[i]? = some (.slice A n c) ∧ In w A n c (xs[i]'hi)) : In w (some ⟨b, 0, none⟩) xs.length xs.length xs := by
  refine ⟨rfl, Nat.le_refl _, by omega, (fun h => by cases h), fun _ => ⟨b, 0, rfl, (Array.getElem?_eq_some_iff.1 h).1, fun i hi => ?_⟩⟩
  obtain ⟨A, n, c, ha, hin⟩ := hr i hi
  refine ⟨[.slice A n c], ⟨A, n, c, rfl, hin⟩, fun j hj => ?_⟩
  obtain rfl : j = 0 := by simpa using hj
  rw [cell_of_row w b _ arr e (0, 0) h]
  show arr[0 + i * 1 + 0]? = _
  rw [show 0 + i * 1 + 0 = i by omega]
  exact ha
theorem in_lists1 {α : Type} [Rep α] {w : World} {e : TypeId} {A : Option Addr} {n c : Nat} {x : List α} (hx : In w A n c x) : In (w.alloc (.cells #[.slice A n c] e)) (some ⟨w.heap.size, 0, none⟩) 1 1 [x] :=
  in_lists (xs := [x]) (heap_alloc_new w _) (by simp) fun i hi => by
    obtain rfl : i = 0 := by simpa using hi
    exact ⟨A, n, c, rfl, hx.below below_alloc⟩
theorem in_lists2 {α : Type} [Rep α] {w : World} {e : TypeId} {A A2 : Option Addr} {n c n2 c2 : Nat} {x y : List α} (hx : In w A n c x) (hy : In w A2 n2 c2 y) :
    In (w.alloc (.cells #[.slice A n c, .slice A2 n2 c2] e)) (some ⟨w.heap.size, 0, none⟩) 2 2 [x, y] :=
  in_lists (xs := [x, y]) (heap_alloc_new w _) (by simp) fun i hi => by
    have : i < 2 := hi
    obtain rfl | rfl : i = 0 ∨ i = 1 := by omega
    · exact ⟨A, n, c, rfl, hx.below below_alloc⟩
    · exact ⟨A2, n2, c2, rfl, hy.below below_alloc⟩
theorem in_lists3 {α : Type} [Rep α] {w : World} {e : TypeId} {A A2 A3 : Option Addr} {n c n2 c2 n3 c3 : Nat} {x y z : List α} (hx : In w A n c x) (hy : In w A2 n2 c2 y) (hz : In w A3 n3 c3 z) :
    In (w.alloc (.cells #[.slice A n c, .slice A2 n2 c2, .slice A3 n3 c3] e)) (some ⟨w.heap.size, 0, none⟩) 3 3 [x, y, z] :=
  in_lists (xs := [x, y, z]) (heap_alloc_new w _) (by simp) fun i hi => by
    have : i < 3 := hi
    obtain rfl | rfl | rfl : i = 0 ∨ i = 1 ∨ i = 2 := by omega
    · exact ⟨A, n, c, rfl, hx.below below_alloc⟩
    · exact ⟨A2, n2, c2, rfl, hy.below below_alloc⟩
    · exact ⟨A3, n3, c3, rfl, hz.below below_alloc⟩

/-- Nodes in a slice of the call's own, their list told by a property. -/
def NdsOk (w w' : World) (e : Ending) (p : List Node → Prop) : Prop := ∃ es, Nds w w' e es ∧ p es
theorem Ok.length {cols : List Col} {k : Int} {d : Nat} {es : List Node} (h : Ok cols k d es) : es.length ≤ lenB d := by
  obtain ⟨t, h⟩ := h
  have := h.len
  rw [h.nodes, Ex.len_nodes]
  exact this
theorem lenB_5 {d : Nat} (h : d ≤ 5) : lenB d ≤ 364 := by
  have : d = 0 ∨ d = 1 ∨ d = 2 ∨ d = 3 ∨ d = 4 ∨ d = 5 := by omega
  rcases this with rfl | rfl | rfl | rfl | rfl | rfl <;> decide
/-- Positions, so that those below do not run over. -/
def atB (d : Nat) : Int := 1048576 * 7 ^ (6 - d)
theorem atB_le (d : Nat) : atB d ≤ 123363917824 := by
  have : 6 - d = 0 ∨ 6 - d = 1 ∨ 6 - d = 2 ∨ 6 - d = 3 ∨ 6 - d = 4 ∨ 6 - d = 5 ∨ 6 - d = 6 := by omega
  rw [atB]
  rcases this with h | h | h | h | h | h | h <;> rw [h] <;> decide
theorem atB_step {d : Nat} (h : d ≤ 5) {a b : Int} (ha : a + 1 ≤ atB (d + 1)) (hb : b + 1 ≤ 7 * (a + 1)) : b + 1 ≤ atB d := by
  have e : atB d = 7 * atB (d + 1) := by
    rw [atB, atB, show 6 - d = (6 - (d + 1)) + 1 by omega, Int.pow_succ]
    omega
  rw [e]; omega
end Go.Proofs.YtmnhahilbbnkkaaGreatDoor

namespace Go.Proofs.YtmnhahilbbnkkaaGreatDoor
open Go.RowKit
set_option linter.unusedSimpArgs false
set_option linter.unusedVariables false

theorem constantB_any (v : Val) (hv : v.ok) (w : World) : Calls Tryz.prog 42 #[.agg v.cells.toArray] w fun e w' => Nds w w' e [conNode v] ∧ Below w.heap.size w w' := by
  obtain ⟨k, n, s⟩ := v
  simp only [Val.cells]
  go_enter Tryz.func42, Tryz.ntmps42
  go_wp2
  go_ret
  have hok : ∀ x ∈ [conNode ⟨k, n, s⟩], Flat.ok x := by
    intro x hx
    simp at hx
    subst hx
    exact ⟨by simp [conNode, I64], hv, by simp [conNode, Str, ByteArray.size], by simp [conNode, I64]⟩
  have h := Stk.at_ (B := w.heap.size) (heap_alloc_new (w.alloc (.cells #[.int .i64 k, .int .i64 n, .string s] 41)) (.cells #[.int .i64 0, .int .i64 k, .int .i64 n, .string s, .string ⟨#[]⟩, .int .i64 0] 70)) (xs := [conNode ⟨k, n, s⟩]) rfl hok (by simp) (n := 1) rfl (by omega)
  exact ⟨⟨_, 1, rfl, by simpa using h⟩, below_alloc2⟩
theorem take_flat {ess : List (List Node)} {k : Nat} {x : List Node} (h : ess.drop k = x :: ess.drop (k + 1)) : (ess.take (k + 1)).flatten = (ess.take k).flatten ++ x ∧ x ∈ ess := by
  have hk := drop_get h
  refine ⟨?_, List.mem_of_getElem? hk.1⟩
  rw [List.take_add_one, hk.1]
  simp
set_option maxRecDepth 100000 in
theorem applyB_any (op : Int) (hop : I64 op) (w : World) (A : Option Addr) (n c : Nat) (ess : List (List Node)) (hx : In w A n c ess) (hn : n ≤ 3) (hl : ∀ x ∈ ess, x.length ≤ 4096) :
    Calls Tryz.prog 25 #[.int .i64 op, .slice A n c] w fun e w' => Nds w w' e (ess.flatten ++ [opNode op]) ∧ Below w.heap.size w w' := by
  obtain ⟨i0, hi, hz0, hz1, hz2⟩ := info_parts node_info
  go_enter Tryz.func25, Tryz.ntmps25
  go_wp2
  go_loopw [5, 6] (fun v i wr => ∃ (k d : Nat) (A' : Option Addr) (c' : Nat), k ≤ n ∧ i = .int .i64 k ∧ v = .slice A' d c' ∧ d ≤ k * 4096 ∧ (ess.take k).flatten.length = d ∧ Stk w.heap.size wr 70 A' c' (ess.take k).flatten ∧ Below w.heap.size w wr) (fun _ i _ => n - (intOf i).toNat)
  case atStart => exact ⟨0, 0, none, 0, Nat.zero_le _, rfl, rfl, Nat.zero_le _, rfl, Stk.nil_ _ _ _, Below.refl _ _⟩
  case round =>
    obtain ⟨k, d, A', c', hk, rfl, rfl, hd, hfl, hst, hb⟩ := hrel
    have HST := hide hst
    have HFL := hide hfl
    clear hst hfl
    by_cases hlt : k < n
    · obtain ⟨b, off, x, rfl, hB, HX, A2, n2, c2, f0, hin⟩ := (hx.below hb).lst hlt
      have hx4 : n2 ≤ 4096 := by have := hl x (take_flat HX.out).2; rw [hin.len] at this; exact this
      have HFN := hide (take_flat HX.out).1
      go_wp2_with (at_builtin; refine wpList_cat (α := Node) _ rfl (.tmp 13) (.tmp 17) 22 rfl w.heap.size 70 i0 _ 64 Tryz.underlying22 hi hz0 hz1 hz2 rfl (by decide) A' d c' (ess.take k).flatten HST.out HFL.out rfl A2 n2 c2 x hin rfl (by omega) hb.size ?_; intro A3 c3 w2 hst2 hb2 _ hs2)
      go_roundw
      case rel => exact ⟨k + 1, d + n2, A3, c3, by omega, by go_num, rfl, by omega, by rw [HFN.out, List.length_append, HFL.out, hin.len], by rw [HFN.out]; exact hst2, hb.trans hb2⟩
      case measure => simp [intOf]; omega
    · have hkn : ess.take k = ess := List.take_of_length_le (by rw [hx.len]; omega)
      have HK := hide hkn
      have hsz := hb.size
      clear hkn
      go_wp2_with (at_builtin; refine wpList_cat (α := Node) _ rfl (.tmp 19) (.tmp 22) 22 rfl w.heap.size 70 i0 _ 64 Tryz.underlying22 hi hz0 hz1 hz2 rfl (by decide) A' d c' (ess.take k).flatten (HST.out.keep below_alloc) HFL.out rfl (some ⟨wr.heap.size, 0, none⟩) 1 1 [opNode op] ((Stk.at_ (n := 1) (B := 0) (heap_alloc_new wr _) rfl (by intro x hx; simp at hx; subst hx; exact opNode_ok hop) (Nat.zero_le _) rfl (by omega)).inn) rfl (by omega) (by simp; omega) ?_; intro A4 c4 w3 hst3 hb3 _ hs3)
      go_ret
      have e1 : (ess.take k).flatten ++ [opNode op] = ess.flatten ++ [opNode op] := by rw [HK.out]
      have hlen : (ess.flatten ++ [opNode op]).length = d + 1 := by rw [← e1, List.length_append, HFL.out]; rfl
      exact ⟨⟨A4, c4, by rw [hlen]; rfl, by rw [← e1]; exact hst3⟩, (hb.trans ((Below.refl _ _).alloc hsz _)).trans hb3⟩
theorem col_ok {c : Col} (h : c.ok) : (colNode c.name).ok := ⟨by simp [colNode, I64], ⟨by simp [colNode, nullV, I64], by simp [colNode, nullV, I64], by simp [colNode, nullV, Str, ByteArray.size]⟩, h.1, by simp [colNode, I64]⟩
set_option maxHeartbeats 1000000 in
set_option maxRecDepth 100000 in
theorem leaf_any (cols : List Col) (G : GoodCols cols) (kd : Int) (hk0 : 1 ≤ kd ∧ kd ≤ 4) (nn : Int) (hn0 : 0 ≤ nn) (hn1 : nn ≤ 1073741824) (w : World) (A : Option Addr) (n c : Nat) (hc : In w A n c cols) :
    Calls Tryz.prog 24 #[.int .i64 kd, .slice A n c, .int .i64 nn] w fun e w' => NdsOk w w' e (Ok cols kd 0) ∧ Below w.heap.size w w' := by
  have h63 := hc.le
  have hn12 : n ≤ 12 := by
    have h := G.err
    rw [colsErr] at h
    split at h
    · omega
    · rename_i q; rw [hc.len] at q; omega
  obtain ⟨t, ht, ht0, ht1⟩ : ∃ t, nn.tmod 4 = t ∧ 0 ≤ t ∧ t < 4 := ⟨_, rfl, by rw [Int.tmod_eq_emod_of_nonneg hn0]; omega, by rw [Int.tmod_eq_emod_of_nonneg hn0]; omega⟩
  obtain ⟨a, ha, ha0, ha1⟩ : ∃ a, nn.tdiv 4 = a ∧ 0 ≤ a ∧ a ≤ 1073741824 := ⟨_, rfl, by rw [Int.tdiv_eq_ediv_of_nonneg hn0]; omega, by rw [Int.tdiv_eq_ediv_of_nonneg hn0]; omega⟩
  have ha2 : IntKind.i64.wrap a = a := IntWalk.i64_in _ (by omega)
  obtain ⟨u, hu, hu0, hu1⟩ : ∃ u, nn.tmod 16 = u ∧ 0 ≤ u ∧ u < 16 := ⟨_, rfl, by rw [Int.tmod_eq_emod_of_nonneg hn0]; omega, by rw [Int.tmod_eq_emod_of_nonneg hn0]; omega⟩
  obtain ⟨q, hq, hq0, hq1⟩ : ∃ q, nn.tdiv 16 = q ∧ 0 ≤ q ∧ q ≤ 1073741824 := ⟨_, rfl, by rw [Int.tdiv_eq_ediv_of_nonneg hn0]; omega, by rw [Int.tdiv_eq_ediv_of_nonneg hn0]; omega⟩
  have hq2 : IntKind.i64.wrap q = q := IntWalk.i64_in _ (by omega)
  go_enter Tryz.func24, Tryz.ntmps24
  go_wp2
  go_loopw [7] (fun i wr => ∃ k : Nat, k ≤ n ∧ i = .int .i64 k ∧ Below w.heap.size w wr) (fun i _ => n - (intOf i).toNat)
  case atStart => exact ⟨0, Nat.zero_le _, rfl, Below.refl _ _⟩
  case round =>
    obtain ⟨k, hk, rfl, hb⟩ := hrel
    by_cases hlt : k < n ∧ 0 < t
    · obtain ⟨hlt, ht2⟩ := hlt
      obtain ⟨j, hj, hjn⟩ : ∃ j : Nat, (a + (k : Int)).tmod (n : Int) = (j : Int) ∧ j < n := by
        have h1 := Int.emod_lt_of_pos (a + (k : Int)) (show (0 : Int) < n by omega)
        have h2 := Int.emod_nonneg (a + (k : Int)) (show (n : Int) ≠ 0 by omega)
        have h3 := Int.tmod_eq_emod_of_nonneg (b := (n : Int)) (show 0 ≤ a + (k : Int) by omega)
        exact ⟨((a + (k : Int)) % (n : Int)).toNat, by omega, by omega⟩
      obtain ⟨b, off, y, rfl, hB, HY, f0, f1, f2, hok⟩ := (hc.below hb).col hjn
      have hs : IntKind.i64.wrap (a + (k : Int)) = a + (k : Int) := IntWalk.i64_in _ (by omega)
      have hz : ((n : Int) == 0) = false := by simp; omega
      have hnn : ¬ (n : Int) = 0 := by omega
      have hnp : (0 : Int) < (n : Int) := by omega
      have hj0 : (0 : Int) ≤ (j : Int) := by omega
      have hj1 : (j : Int) < (n : Int) := by omega
      have hin : y ∈ cols := List.mem_of_getElem? (drop_get HY.out).1
      have HOK := hide hok
      clear hok
      by_cases hkd : y.kind = kd
      · go_wp2
        all_goals (try (exfalso; go_light; simp_all; done))
        go_ret
        have h := Stk.at_ (B := w.heap.size) (heap_alloc_new (wr.alloc (.cells #[.string y.name, .int .i64 kd, .bool y.nullable] 53)) (.cells #[.int .i64 1, .int .i64 0, .int .i64 0, .string ⟨#[]⟩, .string y.name, .int .i64 0] 70)) (xs := [colNode y.name]) rfl (by intro x hx; simp at hx; subst hx; exact col_ok HOK.out) (by have := hb.size; simp; omega) (n := 1) rfl (by omega)
        exact ⟨⟨[colNode y.name], ⟨_, 1, rfl, by simpa using h⟩, ok_col G hin hkd⟩, hb.trans (below_alloc2.mono hb.size)⟩
      · have hkq : (y.kind == kd) = false := by simpa using hkd
        go_wp2
        all_goals (try (exfalso; go_light; simp_all; done))
        go_roundw
        case rel => exact ⟨k + 1, by omega, by go_num, hb.trans (below_alloc.mono hb.size)⟩
        case measure => simp [intOf]; omega
    · have hlt' : n ≤ k ∨ (k < n ∧ t = 0) := by omega
      have hsz := hb.size
      by_cases hu2 : u = 0
      · rcases hlt' with h1 | ⟨h1, h2⟩
        all_goals (
          go_wp2_with fail
          refine (constantB_any nullV ⟨by simp [nullV, I64], by simp [nullV, I64], by simp [nullV, Str, ByteArray.size]⟩ _).mono ?_
          rintro e w1 ⟨hnd, hb1⟩
          obtain ⟨A', c', rfl, hst⟩ := hnd
          have HS := hide hst
          clear hst
          simp only [List.length_singleton]
          go_wp2
          go_ret
          exact ⟨⟨_, ⟨_, _, rfl, ⟨ownsRow_base HS.out.own hsz, HS.out.ok⟩⟩, ok_con valid_null (.inr rfl)⟩, hb.trans (hb1.mono hsz)⟩)
      · rcases hlt' with h1 | ⟨h1, h2⟩
        all_goals (
          have hu3 : (u == 0) = false := by simpa using hu2
          go_wp2_with fail
          refine (value_any _ kd q).mono ?_
          rintro e w1 ⟨⟨v, rfl, hv⟩, hb1⟩
          have HV := hide hv
          have hbb := hb.trans (hb1.mono hsz)
          have hsz1 := hbb.size
          clear hv hb1
          go_wp2_with fail
          refine (constantB_any v HV.out.2.1 _).mono ?_
          rintro e w2 ⟨hnd, hb2⟩
          obtain ⟨A', c', rfl, hst⟩ := hnd
          have HS := hide hst
          clear hst
          simp only [List.length_singleton]
          go_wp2
          go_ret
          exact ⟨⟨_, ⟨_, _, rfl, ⟨ownsRow_base HS.out.own hsz1, HS.out.ok⟩⟩, ok_con HV.out.1 (.inl (HV.out.2.2.1 hk0.1 hk0.2))⟩, hbb.trans (hb2.mono hsz1)⟩)
def unk (es : List Node) (cols : List Col) : Bool := (typeS es cols zs3).1 == 0 && (typeS es cols zs3).2.kind == 0
set_option maxRecDepth 100000 in
theorem unknown_any (w : World) (A : Option Addr) (n c : Nat) (es : List Node) (hx : In w A n c es) (A1 : Option Addr) (n1 c1 : Nat) (cols : List Col) (hc : In w A1 n1 c1 cols) :
    Calls Tryz.prog 28 #[.slice A n c, .slice A1 n1 c1] w fun e w' => e = .returned (.bool (unk es cols)) ∧ Below w.heap.size w w' := by
  have hci : ∀ x ∈ cols, I64 x.kind := by
    intro x hx
    obtain ⟨i, hi, rfl⟩ := List.mem_iff_getElem.1 hx
    have hn : i < n1 := by rw [← hc.len]; exact hi
    obtain ⟨b, off, y, _, _, HY, _, _, _, hok⟩ := hc.col hn
    have := (drop_get HY.out).1
    rw [List.getElem?_eq_getElem hi] at this
    injection this with this
    rw [this]; exact hok.2
  go_enter Tryz.func28, Tryz.ntmps28
  go_wp2_with fail
  refine (zones_any _).mono ?_
  rintro e w1 ⟨⟨g, rfl, hz⟩, hb1⟩
  go_wp2_with fail
  refine (type_ref _ _ _ _ es (hx.below hb1) _ _ _ cols (hc.below hb1) hci _ _ _ zs3 hz).mono ?_
  rintro e w2 ⟨rfl, hb2⟩
  have hu : unk es cols = ((typeS es cols zs3).1 == 0 && (typeS es cols zs3).2.kind == 0) := rfl
  have HU := hide hu
  clear hu
  obtain ⟨⟨te, ⟨tk, tn⟩⟩, ht⟩ : ∃ q, typeS es cols zs3 = q := ⟨_, rfl⟩
  rw [ht] at HU
  rw [ht]
  clear ht
  by_cases h0 : te = 0
  · subst h0
    go_wp2
    go_ret
    exact ⟨by rw [HU.out]; rfl, below_trans hb1 hb2⟩
  · have h1 : (te == 0) = false := by simpa using h0
    go_wp2
    go_ret
    exact ⟨by rw [HU.out]; simp [h1], below_trans hb1 hb2⟩
end Go.Proofs.YtmnhahilbbnkkaaGreatDoor
