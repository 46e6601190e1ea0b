/-
  warehouseworld.Row, Columns, Table: tables that fit.
-/
import Derived.Test.YtlbhnfnecfllkaaGreatValW
import Derived.Test.YtlbhnfnecfllkaaGreatGac
import Derived.Test.YtlbhnfnecfllkaaGreatSum
namespace Go.Proofs.YtlbhnfnecfllkaaGreat
open Go.RowKit
set_option linter.unusedSimpArgs false
set_option linter.unusedVariables false

theorem grown_low {w W W' : World} {row : Option Nat} (h : w.grownBy W row) (hb : Below w.heap.size W W') : w.grownBy W' row :=
  ⟨hb.os.trans h.os, hb.tape.trans h.tape, hb.output.trans h.output, Nat.le_trans h.size hb.size, fun k hk hr => (hb.block k hk).trans (h.block k hk hr)⟩
theorem Num.low {W W' : World} {B gb : Nat} {A : Option Addr} {n c : Nat} {l : List Int} {i : Nat} (h : Num W gb A n c l i) (hb : Below B W W') (hgb : gb < B) : Num W' gb A n c l i := by
  obtain ⟨cur, hc, hm⟩ := h.blk
  exact ⟨(hb.cell (p := ⟨gb, 0, none⟩) hgb).trans h.c0, (hb.cell (p := ⟨gb, 1, none⟩) hgb).trans h.c1, ⟨cur, (hb.block gb hgb).trans hc, hm⟩, h.lst.keep fun k hk => hb.block k (Nat.lt_trans hk hgb), h.le, h.nn⟩
/-- A row so far. -/
structure RowAt (w W : World) (gb : Nat) (A : Option Addr) (n c : Nat) (l : List Int) (cols : List Col) (B : Option Addr) (d k : Nat) (vs : List Val) : Prop where
  len : vs.length = k
  fits : ∀ i, i < k → Fits (cols.getD i default) (vs.getD i default)
  stk : Stk w.heap.size W 65 B d vs
  num : ∃ j, Num W gb A n c l j
  grown : w.grownBy W (some gb)
theorem stk_kept {α : Type} [Flat α] {B : Nat} {W W' : World} {e : TypeId} {A : Option Addr} {c gb : Nat} {xs : List α} (h : Stk B W e A c xs) (hg : W.grownBy W' (some gb)) (hgb : gb < B) : Stk B W' e A c xs :=
  ⟨ownsRow_keep h.own fun g hq => hg.block g (h.blk g hq).1 (fun e => by injection e with e; have := (h.blk g hq).2; omega), h.ok⟩

set_option maxHeartbeats 2000000 in
set_option maxRecDepth 100000 in
theorem rowW_any (w : World) (gb : Nat) (A : Option Addr) (n c : Nat) (l : List Int) (i : Nat) (hN : Num w gb A n c l i) (A1 : Option Addr) (n1 c1 : Nat) (cols : List Col) (hc : Off w gb A1 n1 c1 cols) (hgood : ∀ x ∈ cols, x.good) (hn1 : n1 ≤ 4096) :
    Calls Tryz.prog 53 #[.slice A1 n1 c1, .pointer (some ⟨gb, 0, none⟩)] w
      fun e w' => ∃ B d vs, e = .returned (.slice B n1 d) ∧ RowAt w w' gb A n c l cols B d n1 vs := by
  obtain ⟨i0, hi, hz0, hz1, hz2⟩ := info_parts val_info
  have h63 := hc.inn.le
  have hlow := hN.lt
  have HG := hide hgood
  have HN := hide hN
  clear hgood hN
  go_enter Tryz.func53, Tryz.ntmps53
  go_wp2
  go_loopw [5, 6] (fun o q wr => ∃ (k : Nat) (B : Option Addr) (d : Nat) (vs : List Val), k ≤ n1 ∧ q = .int .i64 k ∧ o = .slice B k d ∧ RowAt w wr gb A n c l cols B d k vs) (fun _ q _ => n1 - (intOf q).toNat)
  case atStart => exact ⟨0, none, 0, [], Nat.zero_le _, rfl, rfl, rfl, fun i hi => by omega, Stk.nil_ _ _ _, ⟨_, HN.out⟩, Below.grows (Below.refl _ _) _⟩
  case round =>
    obtain ⟨k, B, d, vs, hk, rfl, rfl, hR⟩ := hrel
    have HR := hide hR
    clear hR
    by_cases hlt : k < n1
    · obtain ⟨b, off, x, rfl, hB, HX, e0, e1, e2, e3⟩ := (hc.grown HR.out.grown).inn.col hlt
      have hxg := HG.out x (mem_of_drop HX.out)
      have HF : Hid (cols.getD k default = x) := hide (by rw [List.getD, (drop_get HX.out).1]; rfl)
      obtain ⟨j, hnum⟩ := HR.out.num
      have k0 : (0 : Int) ≤ (k : Int) := by omega
      have k1 : (k : Int) < (n1 : Int) := by omega
      obtain ⟨nm, kd, nl⟩ := x
      simp only at e0 e1 e2
      go_wp2_with fail
      refine (valueW_any wr gb A n c l j hnum nm kd nl hxg).mono ?_
      rintro e w2 ⟨⟨v, j2, rfl, hfit, hn2⟩, hg2⟩
      have HFIT := hide hfit
      have HN2 := hide hn2
      have HG2 := hide hg2
      have hok := hfit.1
      have hsz : w.heap.size ≤ w2.heap.size := Nat.le_trans HR.out.grown.size hg2.size
      have HS2 := hide (stk_kept HR.out.stk hg2 hlow)
      have HKL := hide (Nat.le_of_eq HR.out.len.symm)
      clear hfit hn2 hg2 hnum e0 e1 e2
      go_wp2_with (at_builtin; refine wpList_push (α := Val) _ rfl (.tmp 13) (.tmp 20) 61 rfl w.heap.size 65 i0 _ 32 Tryz.underlying61 hi hz0 hz1 hz2 rfl (by decide) B d k vs (HS2.out.keep below_alloc) HKL.out rfl v hok w2.heap.size rfl (oneAt_new _ _ _ _ rfl) (by omega) (by simp; omega) ?_; intro A' c' w5 hst5 hb5)
      have HRN : Hid (RowAt w w5 gb A n c l cols A' c' (k + 1) (vs ++ [v])) := hide (by
        have hl := HR.out.len
        rw [List.take_of_length_le (by omega)] at hst5
        refine ⟨by rw [List.length_append, hl]; rfl, fun i hi => ?_, hst5, ⟨j2, (HN2.out.below below_alloc).low hb5 hlow⟩, grown_low ((HR.out.grown.trans HG2.out).trans (Below.grows below_alloc _)) hb5⟩
        by_cases hik : i = k
        · subst hik
          rw [HF.out, List.getD, List.getElem?_append_right (by omega), hl, Nat.sub_self]
          exact HFIT.out
        · rw [show (vs ++ [v]).getD i default = vs.getD i default by rw [List.getD, List.getD, List.getElem?_append_left (by omega)]]
          exact HR.out.fits i (by omega))
      clear hst5 hb5
      go_wp2
      go_roundw
      case rel => exact ⟨k + 1, A', c', vs ++ [v], by omega, by go_num, rfl, HRN.out⟩
      case measure => simp [intOf]; omega
    · have hkn : k = n1 := by omega
      subst hkn
      go_wp2
      go_ret
      exact ⟨B, d, vs, rfl, HR.out⟩
end Go.Proofs.YtlbhnfnecfllkaaGreat
