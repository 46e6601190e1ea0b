/-
  scalar.find and warehouseref9.Zone: the first zone with a name; scalar.check.
-/
import Derived.Test.YtmnhahilbbnkkaaDoorZone
import Derived.Test.YtmnhahilbbnkkaaDoorGaf
import Derived.Test.YtmnhahilbbnkkaaDoorGac
namespace Go.Proofs.YtmnhahilbbnkkaaDoor
open Go.RowKit
set_option linter.unusedSimpArgs false
set_option linter.unusedVariables false

theorem In.zone {w : World} {A : Option Addr} {n c k : Nat} {xs : List Zone} (h : In w A n c xs) (hk : k < n) : ∃ b off x, A = some ⟨b, off, none⟩ ∧ b < w.heap.size ∧ Hid (xs.drop k = x :: xs.drop (k + 1)) ∧
    ∃ A' n' c', w.cell? ⟨b, off + k * 3, none⟩ = some (.string x.name) ∧ w.cell? ⟨b, off + k * 3 + 1, none⟩ = some (.int .i64 x.offset) ∧ w.cell? ⟨b, off + k * 3 + 2, none⟩ = some (.slice A' n' c') ∧ In w A' n' c' x.shifts ∧ Str x.name ∧ I64 x.offset := by
  obtain ⟨b, off, x, e, hb, hx, cs, ⟨A', n', c', rfl, hs, hv, ho⟩, hc⟩ := h.get hk
  exact ⟨b, off, x, e, hb, hx, A', n', c', hc 0 (by simp), hc 1 (by simp), hc 2 (by simp), hs, hv, ho⟩
theorem zone_clo (z : Zone) (A : Option Addr) (n c : Nat) (name : ByteArray) (g : Nat) (w : World) (hg : w.cell? ⟨g, 0, none⟩ = some (.string name)) (hlt : g < w.heap.size) :
    Calls Tryd.prog 42 #[.agg #[.string z.name, .int .i64 z.offset, .slice A n c], .pointer (some ⟨g, 0, none⟩)] w fun e w' => e = .returned (.bool (z.name.toList == name.toList)) ∧ Below w.heap.size w w' := by
  go_enter Tryd.func42, Tryd.ntmps42
  go_wp2
  go_ret
  exact ⟨rfl, below_alloc⟩
set_option maxRecDepth 100000 in
theorem indexFunc_zone (w : World) (A : Option Addr) (n c : Nat) (xs : List Zone) (hx : In w A n c xs) (name : ByteArray) (g : Nat) (hg : w.cell? ⟨g, 0, none⟩ = some (.string name)) (hlt : g < w.heap.size) :
    Calls Tryd.prog 41 #[.slice A n c, .func (.func 42) #[] #[.pointer (some ⟨g, 0, none⟩)]] w
      fun e w' => e = .returned (.int .i64 (zoneIx xs name)) ∧ Below w.heap.size w w' := by
  have h63 := hx.le
  go_enter Tryd.func41, Tryd.ntmps41
  go_wp2
  go_loopw [8] (fun i wr => ∃ k : Nat, k ≤ n ∧ i = .int .i64 k ∧ zoneIx xs name = zoneFrom name k (xs.drop k) ∧ Below w.heap.size w wr) (fun i _ => n - (intOf i).toNat)
  case atStart => exact ⟨0, Nat.zero_le _, rfl, rfl, Below.refl _ _⟩
  case round =>
    obtain ⟨k, hk, rfl, heq, hb⟩ := hrel
    have HE := hide heq
    clear heq
    by_cases hlt' : k < n
    · obtain ⟨b, off, x, rfl, hB, HX, A', n', c', e0, e1, e2, e3, e4, e5⟩ := (hx.below hb).zone hlt'
      go_wp2_with fail
      refine (zone_clo x _ _ _ name g _ (bat hb hlt hg) (Nat.lt_of_lt_of_le hlt hb.size)).mono ?_
      rintro e w1 ⟨rfl, hb1⟩
      have hbb := below_trans hb hb1
      clear hb1 e0 e1 e2
      cases hz : (x.name.toList == name.toList)
      · go_wp2
        go_roundw
        case rel => exact ⟨k + 1, by omega, by go_num, by rw [HE.out, HX.out, zoneFrom, if_neg (by simp [hz])], hbb⟩
        case measure => simp [intOf]; omega
      · go_wp2
        go_ret
        exact ⟨ret_int (by rw [HE.out, HX.out, zoneFrom, if_pos hz]), hbb⟩
    · go_wp2
      go_ret
      exact ⟨ret_int (by rw [HE.out, drop_end hx.len (by omega), zoneFrom]), hb⟩
theorem zoneFrom_range (name : ByteArray) : ∀ (l : List Zone) (k : Nat), zoneFrom name k l = -1 ∨ ((k : Int) ≤ zoneFrom name k l ∧ zoneFrom name k l < k + l.length)
  | [], k => .inl rfl
  | z :: l, k => by
    rw [zoneFrom]
    split
    · exact .inr ⟨by omega, by simp; omega⟩
    · rcases zoneFrom_range name l (k + 1) with h | h
      · exact .inl h
      · exact .inr ⟨by omega, by simp; omega⟩
/-- What a look-up of a zone returns. -/
def ZoneRes (zs : List Zone) (name : ByteArray) (w : World) (e : Ending) : Prop :=
  ∃ A n c, e = .returned (.tuple #[.agg #[.string (zoneAt zs name).name, .int .i64 (zoneAt zs name).offset, .slice A n c], .bool (decide (0 ≤ zoneIx zs name))]) ∧ In w A n c (zoneAt zs name).shifts ∧ I64 (zoneAt zs name).offset
theorem zoneAt_neg {zs : List Zone} {name : ByteArray} (h : zoneIx zs name < 0) : zoneAt zs name = default := by rw [zoneAt, if_pos h]
theorem zoneAt_pos {zs : List Zone} {name : ByteArray} {k : Nat} {x : Zone} {l : List Zone} (h : zoneIx zs name = (k : Int)) (hx : zs.drop k = x :: l) : zoneAt zs name = x := by
  rw [zoneAt, if_neg (by omega), h, Int.toNat_natCast, List.getD, (drop_get hx).1]
  rfl
theorem in_empty {α : Type} [Rep α] (w : World) : In (α := α) w none 0 0 [] := Sl.nil_
theorem three_made {w : World} {g : Nat} {u0 u1 u2 : Value} (h0 : w.cell? ⟨g, 0, none⟩ = some u0) (h1 : w.cell? ⟨g, 1, none⟩ = some u1) (h2 : w.cell? ⟨g, 2, none⟩ = some u2) :
    (∀ a, (w.setCell ⟨g, 0, none⟩ a).cell? ⟨g, 0, none⟩ = some a) ∧ (∀ a b, ((w.setCell ⟨g, 0, none⟩ a).setCell ⟨g, 1, none⟩ b).cell? ⟨g, 1, none⟩ = some b) ∧
    (∀ a b c, (((w.setCell ⟨g, 0, none⟩ a).setCell ⟨g, 1, none⟩ b).setCell ⟨g, 2, none⟩ c).cell? ⟨g, 2, none⟩ = some c) :=
  ⟨fun a => set_same h0, fun a b => set_same (set_far h1 (.inr (by omega))), fun a b c => set_same (set_far (set_far h2 (.inr (by omega))) (.inr (by omega)))⟩
set_option maxHeartbeats 1000000 in
set_option maxRecDepth 100000 in
theorem find_any (w : World) (A : Option Addr) (n c : Nat) (zs : List Zone) (hx : In w A n c zs) (name : ByteArray) :
    Calls Tryd.prog 26 #[.slice A n c, .string name] w fun e w' => ZoneRes zs name w' e ∧ Below w.heap.size w w' := by
  have h63 := hx.le
  go_enter Tryd.func26, Tryd.ntmps26
  go_wp2_with fail
  refine (indexFunc_zone _ _ _ _ zs (hx.below below_alloc2) name w.heap.size (by simp [go_sem]) (by simp; omega)).mono ?_
  rintro e w1 ⟨rfl, hb1⟩
  have hbb := below_trans below_alloc2 hb1
  have hin := hx.below hbb
  have d0 := bat (b := w.heap.size + 1) (o := 0) (v := .string ⟨#[]⟩) hb1 (by simp) (by simp [go_sem])
  have d1 := bat (b := w.heap.size + 1) (o := 1) (v := .int .i64 0) hb1 (by simp) (by simp [go_sem])
  have d2 := bat (b := w.heap.size + 1) (o := 2) (v := .slice none 0 0) hb1 (by simp) (by simp [go_sem])
  have F0 := (bcell hb1).2 (w.heap.size + 1) 0 (by simp)
  have F1 := (bcell hb1).2 (w.heap.size + 1) 1 (by simp)
  have F2 := (bcell hb1).2 (w.heap.size + 1) 2 (by simp)
  simp [go_sem] at F0 F1 F2
  have HS := hide (three_made d0 d1 d2)
  clear hb1
  rcases zoneFrom_range name zs 0 with hr | ⟨hr1, hr2⟩
  · have HZ : Hid (zoneAt zs name = default) := hide (zoneAt_neg (by rw [zoneIx, hr]; omega))
    have HI : Hid (zoneIx zs name = -1) := hide hr
    rw [HI.out]
    clear hr
    go_wp2
    refine bodyPost_ret (v := .tuple #[.agg #[.string ⟨#[]⟩, .int .i64 0, .slice none 0 0], .bool false]) ?_ rfl ?_
    · obtain ⟨S0, S1, S2⟩ := HS.out
      simp [results, Tryd.results26, go_sem, S0, S1, S2]
    · refine ⟨⟨none, 0, 0, ?_, ?_, ?_⟩, ((hbb.setCell (by simp) _).setCell (by simp) _).setCell (by simp) _⟩
      · rw [HZ.out, HI.out]; rfl
      · rw [HZ.out]; exact in_empty _
      · rw [HZ.out]; exact ⟨by show (-9223372036854775808 : Int) ≤ 0; omega, by show (0 : Int) ≤ 9223372036854775807; omega⟩
  · obtain ⟨k, hk⟩ : ∃ k : Nat, zoneIx zs name = (k : Int) := ⟨(zoneIx zs name).toNat, by rw [zoneIx]; omega⟩
    have hkn : k < n := by have := hx.len; rw [zoneIx] at hk; omega
    obtain ⟨b, off, x, rfl, hB2, HX, A', n', c', f0, f1, f2, e3, e4, e5⟩ := hx.zone hkn
    have e0 := bat hbb hB2 f0
    have e1 := bat hbb hB2 f1
    have e2 := bat hbb hB2 f2
    have HZ : Hid (zoneAt zs name = x) := hide (zoneAt_pos hk HX.out)
    have HI : Hid (zoneIx zs name = (k : Int)) := hide hk
    clear f0 f1 f2
    have hne : ¬ b = w.heap.size + 1 := by omega
    rw [HI.out]
    clear hr1 hr2 hk
    go_wp2
    refine bodyPost_ret (v := .tuple #[.agg #[.string x.name, .int .i64 x.offset, .slice A' n' c'], .bool true]) ?_ rfl ?_
    · obtain ⟨S0, S1, S2⟩ := HS.out
      simp [results, Tryd.results26, go_sem, S0, S1, S2]
    · have HB := ((hbb.setCell (p := ⟨w.heap.size + 1, 0, none⟩) (by simp) (.string x.name)).setCell (p := ⟨w.heap.size + 1, 1, none⟩) (by simp) (.int .i64 x.offset)).setCell (p := ⟨w.heap.size + 1, 2, none⟩) (by simp) (.slice A' n' c')
      refine ⟨⟨A', n', c', ?_, ?_, ?_⟩, HB⟩
      · rw [HZ.out, HI.out]; simp
      · rw [HZ.out]; exact e3.below HB
      · rw [HZ.out]; exact e5

set_option maxHeartbeats 1000000 in
set_option maxRecDepth 100000 in
theorem zone_find_ref (w : World) (A : Option Addr) (n c : Nat) (zs : List Zone) (hx : In w A n c zs) (name : ByteArray) :
    Calls Tryd.prog 54 #[.slice A n c, .string name] w fun e w' => ZoneRes zs name w' e ∧ Below w.heap.size w w' := by
  have h63 := hx.le
  go_enter Tryd.func54, Tryd.ntmps54
  go_wp2
  go_loop [6] (fun i => ∃ k : Nat, k ≤ n ∧ i = .int .i64 k ∧ zoneIx zs name = zoneFrom name k (zs.drop k)) (fun i => n - (intOf i).toNat)
  case atStart => exact ⟨0, Nat.zero_le _, rfl, rfl⟩
  case round =>
    obtain ⟨k, hk, rfl, heq⟩ := hrel
    have HE := hide heq
    clear heq
    by_cases hlt' : k < n
    · obtain ⟨b, off, x, rfl, hB, HX, A', n', c', e0, e1, e2, e3, e4, e5⟩ := hx.zone hlt'
      have hne : ¬ b = w.heap.size := by omega
      cases hz : (x.name.toList == name.toList)
      · go_wp2
        go_round
        case rel => exact ⟨k + 1, by omega, by go_num, by rw [HE.out, HX.out, zoneFrom, if_neg (by simp [hz])]⟩
        case measure => simp [intOf]; omega
      · have hk : zoneIx zs name = (k : Int) := by rw [HE.out, HX.out, zoneFrom, if_pos hz]
        have HZ : Hid (zoneAt zs name = x) := hide (zoneAt_pos hk HX.out)
        have HI : Hid (zoneIx zs name = (k : Int)) := hide hk
        clear hk
        go_wp2
        refine bodyPost_ret (v := .tuple #[.agg #[.string x.name, .int .i64 x.offset, .slice A' n' c'], .bool true]) ?_ rfl ?_
        · simp [results, Tryd.results54, go_sem]
        · refine ⟨⟨A', n', c', ?_, ?_, ?_⟩, below_alloc⟩
          · rw [HZ.out, HI.out]; simp
          · rw [HZ.out]; exact e3.below below_alloc
          · rw [HZ.out]; exact e5
    · have hr : zoneIx zs name = -1 := by rw [HE.out, drop_end hx.len (by omega), zoneFrom]
      have HZ : Hid (zoneAt zs name = default) := hide (zoneAt_neg (by omega))
      have HI : Hid (zoneIx zs name = -1) := hide hr
      clear hr
      go_wp2
      refine bodyPost_ret (v := .tuple #[.agg #[.string ⟨#[]⟩, .int .i64 0, .slice none 0 0], .bool false]) ?_ rfl ?_
      · simp [results, Tryd.results54, go_sem]
      · refine ⟨⟨none, 0, 0, ?_, ?_, ?_⟩, below_alloc⟩
        · rw [HZ.out, HI.out]; rfl
        · rw [HZ.out]; exact in_empty _
        · rw [HZ.out]; exact ⟨by show (-9223372036854775808 : Int) ≤ 0; omega, by show (0 : Int) ≤ 9223372036854775807; omega⟩

set_option maxHeartbeats 2000000 in
set_option maxRecDepth 100000 in
theorem check_any (w : World) (A : Option Addr) (n c : Nat) (es : List Node) (hx : In w A n c es) (hw : Words w) (A1 : Option Addr) (n1 c1 : Nat) (cols : List Col) (hc : In w A1 n1 c1 cols)
    (A2 : Option Addr) (n2 c2 : Nat) (zs : List Zone) (hz : In w A2 n2 c2 zs) :
    Calls Tryd.prog 23 #[.slice A n c, .slice A1 n1 c1, .slice A2 n2 c2] w fun e w' => e = .returned (.int .i64 (checkErr es cols zs)) ∧ Below w.heap.size w w' := by
  have h63 := hz.le
  go_enter Tryd.func23, Tryd.ntmps23
  go_wp2_with fail
  refine (exprErr_any _ _ _ _ es hx hw).mono ?_
  rintro e w1 ⟨rfl, hb1⟩
  by_cases h1 : exprErr es = 0
  · have HK : Hid (checkErr es cols zs = if colsErr cols ≠ 0 then colsErr cols else zonesErr zs) := hide (by rw [checkErr, if_neg (by simp [h1])])
    rw [h1]
    clear h1
    go_wp2_with fail
    refine (cols_any _ _ _ _ cols (hc.below hb1)).mono ?_
    rintro e w2 ⟨rfl, hb2⟩
    have hbb := below_trans hb1 hb2
    clear hb1 hb2
    by_cases h2 : colsErr cols = 0
    · have HK2 : Hid (checkErr es cols zs = firstErr (fun _ z => zoneErr z) 0 zs) := hide (by rw [HK.out, if_neg (by simp [h2])]; rfl)
      rw [h2]
      clear h2
      go_wp2
      go_loopw [24] (fun i wr => ∃ k : Nat, k ≤ n2 ∧ i = .int .i64 k ∧ firstErr (fun _ z => zoneErr z) 0 zs = firstErr (fun _ z => zoneErr z) k (zs.drop k) ∧ Below w.heap.size w wr) (fun i _ => n2 - (intOf i).toNat)
      case atStart => exact ⟨0, Nat.zero_le _, rfl, rfl, hbb⟩
      case round =>
        obtain ⟨k, hk, rfl, heq, hb⟩ := hrel
        have HE := hide heq
        clear heq
        by_cases hlt : k < n2
        · obtain ⟨b, off, x, rfl, hB, HX, A', n', c', e0, e1, e2, e3, e4, e5⟩ := (hz.below hb).zone hlt
          go_wp2_with fail
          refine (zone_any _ A' n' c' x (e3.below below_alloc) e5).mono ?_
          rintro e w3 ⟨rfl, hb3⟩
          have hb4 := below_trans (below_trans hb below_alloc) hb3
          clear hb3 e0 e1 e2
          by_cases h3 : zoneErr x = 0
          · have HN : Hid (firstErr (fun _ z => zoneErr z) 0 zs = firstErr (fun _ z => zoneErr z) (k + 1) (zs.drop (k + 1))) := hide (by rw [HE.out, HX.out]; exact firstErr_zero h3)
            rw [h3]
            clear h3
            go_wp2
            go_roundw
            case rel => exact ⟨k + 1, by omega, by go_num, HN.out, hb4⟩
            case measure => simp [intOf]; omega
          · have HN : Hid (zoneErr x = checkErr es cols zs) := hide (by rw [HK2.out, HE.out, HX.out]; exact (firstErr_err (f := fun _ z => zoneErr z) (e := zoneErr x) rfl h3).symm)
            have q : (zoneErr x != 0) = true := by simpa using h3
            clear h3
            go_wp2
            go_ret
            exact ⟨ret_int HN.out, hb4⟩
        · go_wp2
          go_ret
          exact ⟨ret_int (by rw [HK2.out, HE.out, drop_end hz.len (by omega)]; rfl), hb⟩
    · have HN : Hid (colsErr cols = checkErr es cols zs) := hide (by rw [HK.out, if_pos h2])
      have q : (colsErr cols != 0) = true := by simpa using h2
      clear h2
      go_wp2
      go_ret
      exact ⟨ret_int HN.out, hbb⟩
  · have HN : Hid (exprErr es = checkErr es cols zs) := hide (by rw [checkErr, if_pos h1])
    have q : (exprErr es != 0) = true := by simpa using h1
    clear h1
    go_wp2
    go_ret
    exact ⟨ret_int HN.out, hb1⟩
end Go.Proofs.YtmnhahilbbnkkaaDoor
