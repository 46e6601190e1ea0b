/-
  Package bag: put, done, both. warehouseworld.Row, Columns, Table: tables that fit.
-/
import Derived.Test.YtlbhnfnecfllkaaGreatGad
import Derived.Test.YtlbhnfnecfllkaaGreatGae
import Derived.Test.YtlbhnfnecfllkaaGreatByDay
import Derived.Test.YtlbhnfnecfllkaaGreatGac
import Derived.Test.YtlbhnfnecfllkaaGreatValW
import Derived.Test.YtlbhnfnecfllkaaGreatSum
namespace Go.Proofs.YtlbhnfnecfllkaaGreat
open Go.RowKit
set_option linter.unusedSimpArgs false
set_option linter.unusedVariables false

theorem elem_ents : Elem Tryz.prog 26 63 2 32 := elem_mk _ Tryz.underlying26 ent_info rfl (by decide)
theorem new_bs {w w' : World} {B : Nat} {O : Nat → Prop} {T : List TypeId} {t : TypeId} (hB : B ≤ w.heap.size) (ht : t ∈ T) {k : Nat} (h : New w w' t k) : BS B O T w' k := .inr ⟨Nat.le_trans hB h.1, t, ht, h.2⟩
/-- A list of entries of a call's own, whose rows are new too. -/
abbrev OE (B : Nat) (w : World) (v : Value) (zs : List Ent) : Prop := OL 63 B (fun _ => False) [65] w v zs
theorem FreshEnts.ol {w w' : World} {v : Value} {zs : List Ent} (h : FreshEnts w w' v zs) (hb : w.heap.size ≤ w'.heap.size) : OE w.heap.size w' v zs := by
  obtain ⟨cs, h1, h2⟩ := h
  exact ⟨⟨cs, h1, h2.mono fun k hk => .inr ⟨hk.1, _, by simp, hk.2⟩⟩, hb⟩
/-- What put does: whether the count is in range, the list. -/
def putS (zs : List Ent) (row : List Val) (k : Int) : Bool × List Ent := if k < -65536 ∨ 65536 < k then (false, []) else (true, if k = 0 then zs else zs ++ [⟨row, k⟩])
set_option maxHeartbeats 2000000 in
set_option maxRecDepth 100000 in
theorem put_any (W : World) (B : Nat) (v : Value) (zs : List Ent) (hO : OE B W v zs) (A : Option Addr) (n c : Nat) (row : List Val) (hr : In W A n c row) (hn : n ≤ 4096) (k : Int) (hk : I64 k) (hl : zs.length < 1048576) :
    Calls Tryz.prog 101 #[v, .slice A n c, .int .i64 k] W fun e w' => (∃ v', e = .returned (.tuple #[v', .bool (putS zs row k).1]) ∧ OE B w' v' (putS zs row k).2) ∧ W.grownBy w' v.ownBlock ∧ Below B W w' := by
  have HO := hide hO
  by_cases h1 : k < -65536
  · have e1 : putS zs row k = (false, []) := if_pos (.inl h1)
    rw [e1]
    have d1 : decide (k < -65536) = true := by simpa using h1
    go_enter Tryz.func101, Tryz.ntmps101
    go_wp2
    all_goals (try (exfalso; go_light; simp_all; done))
    go_ret2
    exact ⟨⟨_, rfl, OL.nil hO.base⟩, World.grownBy.refl _ _, Below.refl _ _⟩
  by_cases h2 : 65536 < k
  · have e1 : putS zs row k = (false, []) := if_pos (.inr h2)
    rw [e1]
    have d1 : decide (k < -65536) = false := by simpa using h1
    have d2 : decide (65536 < k) = true := by simpa using h2
    go_enter Tryz.func101, Tryz.ntmps101
    go_wp2
    all_goals (try (exfalso; go_light; simp_all; done))
    go_ret2
    exact ⟨⟨_, rfl, OL.nil hO.base⟩, World.grownBy.refl _ _, Below.refl _ _⟩
  have d1 : decide (k < -65536) = false := by simpa using h1
  have d2 : decide (65536 < k) = false := by simpa using h2
  by_cases h3 : k = 0
  · have e1 : putS zs row k = (true, zs) := by rw [putS, if_neg (by omega), if_pos h3]
    rw [e1]
    clear e1 h1 h2
    subst h3
    go_enter Tryz.func101, Tryz.ntmps101
    go_wp2
    all_goals (try (exfalso; go_light; simp_all; done))
    go_ret2
    exact ⟨⟨_, rfl, HO.out⟩, World.grownBy.refl _ _, Below.refl _ _⟩
  have e1 : putS zs row k = (true, zs ++ [⟨row, k⟩]) := by rw [putS, if_neg (by omega), if_neg h3]
  rw [e1]
  have d3 : (k != 0) = true := by simpa using h3
  clear e1 h1 h2
  go_enter Tryz.func101, Tryz.ntmps101
  go_wp2_with fail
  refine (clone_any _ A n c row hr (by omega)).mono ?_
  rintro e w1 ⟨⟨A1, c1, rfl, hs⟩, hb1⟩
  have HS := hide (hs.mono fun k hk => new_bs (B := B) (O := fun _ => False) (T := [65]) hO.base (by simp) hk)
  have HO1 := hide (hO.below hb1)
  have HB1 := hide hb1
  clear hs hb1
  go_wp2_with (at_builtin; refine wpList_push_OL _ rfl _ _ _ rfl elem_ents (by decide) _ _ rfl HO1.out rfl rfl ⟨row, k⟩ ⟨_, _, _, rfl, HS.out, hk⟩ (by simp only [maxLen]; omega) (by omega) ?_; intro v1 w9 ho9 hb9 hg9 hat9)
  have HO9 := hide ho9
  have HG9 := hide ((Below.grows HB1.out v.ownBlock).trans hg9)
  have HB9 := hide ((HB1.out.mono hO.base).trans hb9)
  clear ho9 hb9 hg9 hat9
  go_wp2
  all_goals (try (exfalso; go_light; simp_all; done))
  go_ret2
  exact ⟨⟨_, rfl, HO9.out⟩, HG9.out, HB9.out⟩
set_option maxRecDepth 100000 in
theorem done_any (W : World) (v : Value) (n c : Nat) (A : Option Addr) (hn : n ≤ 9223372036854775807) :
    Calls Tryz.prog 102 #[.slice A n c] W fun e w' => e = .returned (if 4096 < n then .tuple #[.slice none 0 0, .int .i64 2] else .tuple #[.slice A n c, .int .i64 0]) ∧ Below W.heap.size W w' := by
  by_cases h : 4096 < n
  · rw [if_pos h]
    have h1 : (4096 : Int) < (n : Int) := by omega
    go_enter Tryz.func102, Tryz.ntmps102
    go_wp2
    go_ret2
    exact ⟨rfl, Below.refl _ _⟩
  · rw [if_neg h]
    have h1 : ¬ (4096 : Int) < (n : Int) := by omega
    go_enter Tryz.func102, Tryz.ntmps102
    go_wp2
    go_ret2
    exact ⟨rfl, Below.refl _ _⟩
def bothE (xs ys : List Ent) : Int := if bagErr xs ≠ 0 then bagErr xs else bagErr ys
set_option maxRecDepth 100000 in
theorem both_ents (w : World) (A : Option Addr) (n c : Nat) (xs : List Ent) (hx : In w A n c xs) (A2 : Option Addr) (n2 c2 : Nat) (ys : List Ent) (hy : In w A2 n2 c2 ys) :
    Calls Tryz.prog 74 #[.slice A n c, .slice A2 n2 c2] w fun e w' => e = .returned (.int .i64 (bothE xs ys)) ∧ Below w.heap.size w w' := by
  have HF := hide (show bothE xs ys = if bagErr xs ≠ 0 then bagErr xs else bagErr ys from rfl)
  generalize bothE xs ys = r at *
  obtain ⟨E, hE⟩ : ∃ E, bagErr xs = E := ⟨_, rfl⟩
  have HE := hide hE
  rw [hE] at HF
  clear hE
  go_enter Tryz.func74, Tryz.ntmps74
  have HX := hide hx
  clear hx
  have HY := hide hy
  clear hy
  go_wp2_with fail
  refine (bag_any _ _ _ _ xs HX.out).mono ?_
  rintro e w1 ⟨rfl, hb1⟩
  have HX := hide (HX.out.below hb1)
  have HY := hide (HY.out.below hb1)
  have LST2 := hide hb1
  have SG2 := hide hb1
  clear hb1
  rw [HE.out]
  by_cases h0 : E = 0
  · have HF2 := HF.out
    rw [if_neg (by simpa using h0)] at HF2
    subst h0
    go_wp2_with fail
    refine (bag_any _ _ _ _ ys HY.out).mono ?_
    rintro e w3 ⟨rfl, hb3⟩
    have HX := hide (HX.out.below hb3)
    have HY := hide (HY.out.below hb3)
    have LST4 := hide hb3
    have SG4 := hide (below_trans SG2.out hb3)
    clear hb3
    go_wp2
    go_ret
    exact ⟨ret_int HF2.symm, SG4.out⟩
  · have HF2 := HF.out
    rw [if_pos h0] at HF2
    subst HF2
    have q : (r != 0) = true := by simpa using h0
    go_wp2
    all_goals (try (exfalso; go_light; simp_all; done))
    go_ret
    exact ⟨rfl, SG2.out⟩
end Go.Proofs.YtlbhnfnecfllkaaGreat

namespace Go.Proofs.YtlbhnfnecfllkaaGreat
open Go.RowKit
set_option linter.unusedSimpArgs false
set_option linter.unusedVariables false

theorem grown_low {w W W' : World} {row : Option Nat} (h : w.grownBy W row) (hb : Below w.heap.size W W') : w.grownBy W' row :=
  ⟨hb.os.trans h.os, hb.tape.trans h.tape, hb.output.trans h.output, Nat.le_trans h.size hb.size, fun k hk hr => (hb.block k hk).trans (h.block k hk hr)⟩
theorem Num.low {W W' : World} {B gb : Nat} {A : Option Addr} {n c : Nat} {l : List Int} {i : Nat} (h : Num W gb A n c l i) (hb : Below B W W') (hgb : gb < B) : Num W' gb A n c l i := by
  obtain ⟨cur, hc, hm⟩ := h.blk
  exact ⟨(hb.cell (p := ⟨gb, 0, none⟩) hgb).trans h.c0, (hb.cell (p := ⟨gb, 1, none⟩) hgb).trans h.c1, ⟨cur, (hb.block gb hgb).trans hc, hm⟩, h.lst.keep fun k hk => hb.block k (Nat.lt_trans hk hgb), h.le, h.nn⟩
/-- A row so far. -/
structure RowAt (w W : World) (gb : Nat) (A : Option Addr) (n c : Nat) (l : List Int) (cols : List Col) (B : Option Addr) (d k : Nat) (vs : List Val) : Prop where
  len : vs.length = k
  fits : ∀ i, i < k → Fits (cols.getD i default) (vs.getD i default)
  stk : Stk w.heap.size W 65 B d vs
  num : ∃ j, Num W gb A n c l j
  grown : w.grownBy W (some gb)
theorem stk_kept {α : Type} [Flat α] {B : Nat} {W W' : World} {e : TypeId} {A : Option Addr} {c gb : Nat} {xs : List α} (h : Stk B W e A c xs) (hg : W.grownBy W' (some gb)) (hgb : gb < B) : Stk B W' e A c xs :=
  ⟨ownsRow_keep h.own fun g hq => hg.block g (h.blk g hq).1 (fun e => by injection e with e; have := (h.blk g hq).2; omega), h.ok⟩

set_option maxHeartbeats 2000000 in
set_option maxRecDepth 100000 in
theorem rowW_any (w : World) (gb : Nat) (A : Option Addr) (n c : Nat) (l : List Int) (i : Nat) (hN : Num w gb A n c l i) (A1 : Option Addr) (n1 c1 : Nat) (cols : List Col) (hc : Off w gb A1 n1 c1 cols) (hgood : ∀ x ∈ cols, x.good) (hn1 : n1 ≤ 4096) :
    Calls Tryz.prog 53 #[.slice A1 n1 c1, .pointer (some ⟨gb, 0, none⟩)] w
      fun e w' => ∃ B d vs, e = .returned (.slice B n1 d) ∧ RowAt w w' gb A n c l cols B d n1 vs := by
  obtain ⟨i0, hi, hz0, hz1, hz2⟩ := info_parts val_info
  have h63 := hc.inn.le
  have hlow := hN.lt
  have HG := hide hgood
  have HN := hide hN
  clear hgood hN
  go_enter Tryz.func53, Tryz.ntmps53
  go_wp2
  go_loopw [5, 6] (fun o q wr => ∃ (k : Nat) (B : Option Addr) (d : Nat) (vs : List Val), k ≤ n1 ∧ q = .int .i64 k ∧ o = .slice B k d ∧ RowAt w wr gb A n c l cols B d k vs) (fun _ q _ => n1 - (intOf q).toNat)
  case atStart => exact ⟨0, none, 0, [], Nat.zero_le _, rfl, rfl, rfl, fun i hi => by omega, Stk.nil_ _ _ _, ⟨_, HN.out⟩, Below.grows (Below.refl _ _) _⟩
  case round =>
    obtain ⟨k, B, d, vs, hk, rfl, rfl, hR⟩ := hrel
    have HR := hide hR
    clear hR
    by_cases hlt : k < n1
    · obtain ⟨b, off, x, rfl, hB, HX, e0, e1, e2, e3⟩ := (hc.grown HR.out.grown).inn.col hlt
      have hxg := HG.out x (mem_of_drop HX.out)
      have HF : Hid (cols.getD k default = x) := hide (by rw [List.getD, (drop_get HX.out).1]; rfl)
      obtain ⟨j, hnum⟩ := HR.out.num
      have k0 : (0 : Int) ≤ (k : Int) := by omega
      have k1 : (k : Int) < (n1 : Int) := by omega
      obtain ⟨nm, kd, nl⟩ := x
      simp only at e0 e1 e2
      go_wp2_with fail
      refine (valueW_any wr gb A n c l j hnum nm kd nl hxg).mono ?_
      rintro e w2 ⟨⟨v, j2, rfl, hfit, hn2⟩, hg2⟩
      have HFIT := hide hfit
      have HN2 := hide hn2
      have HG2 := hide hg2
      have hok := hfit.1
      have hsz : w.heap.size ≤ w2.heap.size := Nat.le_trans HR.out.grown.size hg2.size
      have HS2 := hide (stk_kept HR.out.stk hg2 hlow)
      have HKL := hide (Nat.le_of_eq HR.out.len.symm)
      clear hfit hn2 hg2 hnum e0 e1 e2
      go_wp2_with (at_builtin; refine wpList_push (α := Val) _ rfl (.tmp 13) (.tmp 20) 61 rfl w.heap.size 65 i0 _ 32 Tryz.underlying61 hi hz0 hz1 hz2 rfl (by decide) B d k vs (HS2.out.keep below_alloc) HKL.out rfl v hok w2.heap.size rfl (oneAt_new _ _ _ _ rfl) (by omega) (by simp; omega) ?_; intro A' c' w5 hst5 hb5)
      have HRN : Hid (RowAt w w5 gb A n c l cols A' c' (k + 1) (vs ++ [v])) := hide (by
        have hl := HR.out.len
        rw [List.take_of_length_le (by omega)] at hst5
        refine ⟨by rw [List.length_append, hl]; rfl, fun i hi => ?_, hst5, ⟨j2, (HN2.out.below below_alloc).low hb5 hlow⟩, grown_low ((HR.out.grown.trans HG2.out).trans (Below.grows below_alloc _)) hb5⟩
        by_cases hik : i = k
        · subst hik
          rw [HF.out, List.getD, List.getElem?_append_right (by omega), hl, Nat.sub_self]
          exact HFIT.out
        · rw [show (vs ++ [v]).getD i default = vs.getD i default by rw [List.getD, List.getD, List.getElem?_append_left (by omega)]]
          exact HR.out.fits i (by omega))
      clear hst5 hb5
      go_wp2
      go_roundw
      case rel => exact ⟨k + 1, A', c', vs ++ [v], by omega, by go_num, rfl, HRN.out⟩
      case measure => simp [intOf]; omega
    · have hkn : k = n1 := by omega
      subst hkn
      go_wp2
      go_ret
      exact ⟨B, d, vs, rfl, HR.out⟩
end Go.Proofs.YtlbhnfnecfllkaaGreat
