/-
  warehousebase.Rows: entries that the call has made.
-/
import Derived.Test.YtmnhahilbbnkkaaBrow
import Derived.Test.YtmnhahilbbnkkaaSum
namespace Go.Proofs.Ytmnhahilbbnkkaa
open Go.RowKit
set_option linter.unusedSimpArgs false
set_option linter.unusedVariables false

set_option maxHeartbeats 4000000 in
set_option maxRecDepth 100000 in
theorem rows_any (w : World) (A A2 : Option Addr) (n n2 c c2 : Nat) (cols : List Col) (l : List Int) (hx : In w A n c cols) (hgood : ∀ x ∈ cols, x.good) (hl : In w A2 n2 c2 l) (hn : n ≤ 4096) (m : Nat) (hm : m ≤ 1000) :
    Calls Try.prog 10 #[.slice A n c, .slice A2 n2 c2, .int .i64 m] w
      fun e w' => (∃ v zs, e = .returned v ∧ FreshEnts w w' v zs) ∧ Below w.heap.size w w' := by
  have hlen := hide hx.len
  obtain ⟨i0, hi, hz0, hz1, hz2⟩ := info_parts ent_info
  go_enter Try.func10, Try.ntmps10
  go_wp2
  go_loopw [7, 8] (fun o i wr => ∃ (k : Nat) (zs : List Ent), k ≤ m ∧ i = .int .i64 k ∧ zs.length = k ∧ (∃ A c, o = .slice A zs.length c) ∧ FreshEnts w wr o zs ∧ Below w.heap.size w wr) (fun _ i _ => m - (intOf i).toNat)
  case atStart => exact ⟨0, [], Nat.zero_le _, rfl, rfl, ⟨none, 0, rfl⟩, ⟨[], World.ownsRow_nil _ _ _ _, rfl⟩, Below.refl _ _⟩
  case round =>
    obtain ⟨_, zs, hk, rfl, rfl, ⟨A4, c4, rfl⟩, hf, hb⟩ := hrel
    have HF := hide hf
    clear hf
    have hsz := hb.size
    by_cases hlt : zs.length < m
    · have hxr0 := hx.below hb
      have hlr0 := hl.below hb
      have k1 : (zs.length : Int) < (m : Int) := by omega
      go_wp2_with fail
      refine (at_any wr _ _ _ l (by exact hlr0) _).mono ?_
      rintro e w1 ⟨⟨v, rfl, hv0, hv1⟩, hb1⟩
      have hxr := hxr0.below hb1
      have hlr := hlr0.below hb1
      have hsz1 : w.heap.size ≤ w1.heap.size := Nat.le_trans hsz hb1.size
      cases hq : (v % 5 == 0)
      · go_wp2_with fail
        refine (row_any w1 A A2 n n2 c c2 cols l (by exact hxr) hgood (by exact hlr) (5 * (zs.length : Int)) (by omega) (by omega) hn).mono ?_
        rintro e w2 ⟨⟨B, d, vs, rfl, hsl, _⟩, hb2⟩
        have hbw2 : Below wr.heap.size wr w2 := below_trans hb1 hb2
        have hsz2 : w.heap.size ≤ w2.heap.size := Nat.le_trans hsz hbw2.size
        have HF2 := hide (HF.out.below hbw2)
        obtain ⟨cs, hown2, hc2⟩ := HF2.out
        have HRW := hide (fun g (h : (Value.slice A4 zs.length c4).ownBlock = some g) => (hown2.lt g h).1)
        have hlen4 := hide (hown2.1)
        have HSL2 := hide (hsl.mono fun q (hq : New w1 w2 42 q) => (⟨Nat.le_trans hsz1 hq.1, hq.2⟩ : New w w2 42 q))
        have HOWN2 := hide hown2
        have HC2 := hide hc2
        clear hown2 hc2 hsl
        go_wp2_with (at_builtin; refine wpList_append_src _ rfl (.tmp 30) (.tmp 38) 24 rfl w.heap.size 37 i0 _ 2 32 Try.underlying24 hi hz0 hz1 hz2 rfl (by decide) (.slice A4 zs.length c4) zs.length cs (by simp [Act.eval, Act.put]) (by first | exact own_drew (HOWN2.out.alloc _) | exact HOWN2.out.alloc _) (some ⟨w2.heap.size, 0, none⟩) 1 1 [.slice B n d, .int .i64 1] (by simp [Act.eval, Act.put]) (by intro h; cases h) (by exact src_two (by simp [go_sem]) (by simp [go_sem])) one_ent (by simp only [maxLen]; omega) (by omega) (by simp; omega) ?_; intro v1 w3 hown1 hg1 hat1)
        have hb3 : Below w.heap.size wr w3 := ((hbw2.mono hsz).trans ((Below.refl w.heap.size w2).alloc hsz2 _)).grown hg1 (by simp; omega) HRW.out
        have hf1 : FreshEnts w w3 v1 (zs ++ [⟨vs, 1⟩]) := FreshEnts.add HOWN2.out HC2.out HSL2.out (by simp only [I64]; omega) (fun q hq hne => (hg1.block q (by simp; omega) (fun e => hne e.symm)).trans (Below.heap_alloc _ _ _ hq)) hown1
        obtain ⟨A1, c1, rfl, _⟩ := hf1.sl
        have HF1 := hide hf1
        have hbw := hb.trans hb3
        clear hf1 hown1 hg1 hat1
        go_wp2
        go_roundw
        case rel => exact ⟨zs.length + 1, zs ++ [⟨vs, 1⟩], by omega, by go_num, by simp, ⟨_, _, rfl⟩, HF1.out, hbw⟩
        case measure => simp [intOf]; omega
      · go_wp2_with fail
        refine (row_any w1 A A2 n n2 c c2 cols l (by exact hxr) hgood (by exact hlr) (5 * (zs.length : Int)) (by omega) (by omega) hn).mono ?_
        rintro e w2 ⟨⟨B, d, vs, rfl, hsl, _⟩, hb2⟩
        have hbw2 : Below wr.heap.size wr w2 := below_trans hb1 hb2
        have hsz2 : w.heap.size ≤ w2.heap.size := Nat.le_trans hsz hbw2.size
        have HF2 := hide (HF.out.below hbw2)
        obtain ⟨cs, hown2, hc2⟩ := HF2.out
        have HRW := hide (fun g (h : (Value.slice A4 zs.length c4).ownBlock = some g) => (hown2.lt g h).1)
        have hlen4 := hide (hown2.1)
        have HSL2 := hide (hsl.mono fun q (hq : New w1 w2 42 q) => (⟨Nat.le_trans hsz1 hq.1, hq.2⟩ : New w w2 42 q))
        have HOWN2 := hide hown2
        have HC2 := hide hc2
        clear hown2 hc2 hsl
        go_wp2_with (at_builtin; refine wpList_append_src _ rfl (.tmp 30) (.tmp 38) 24 rfl w.heap.size 37 i0 _ 2 32 Try.underlying24 hi hz0 hz1 hz2 rfl (by decide) (.slice A4 zs.length c4) zs.length cs (by simp [Act.eval, Act.put]) (by first | exact own_drew (HOWN2.out.alloc _) | exact HOWN2.out.alloc _) (some ⟨w2.heap.size, 0, none⟩) 1 1 [.slice B n d, .int .i64 (1 + v / 5 % 3)] (by simp [Act.eval, Act.put]) (by intro h; cases h) (by exact src_two (by simp [go_sem]) (by simp [go_sem])) one_ent (by simp only [maxLen]; omega) (by omega) (by simp; omega) ?_; intro v1 w3 hown1 hg1 hat1)
        have hb3 : Below w.heap.size wr w3 := ((hbw2.mono hsz).trans ((Below.refl w.heap.size w2).alloc hsz2 _)).grown hg1 (by simp; omega) HRW.out
        have hf1 : FreshEnts w w3 v1 (zs ++ [⟨vs, (1 + v / 5 % 3)⟩]) := FreshEnts.add HOWN2.out HC2.out HSL2.out (by simp only [I64]; omega) (fun q hq hne => (hg1.block q (by simp; omega) (fun e => hne e.symm)).trans (Below.heap_alloc _ _ _ hq)) hown1
        obtain ⟨A1, c1, rfl, _⟩ := hf1.sl
        have HF1 := hide hf1
        have hbw := hb.trans hb3
        clear hf1 hown1 hg1 hat1
        go_wp2
        go_roundw
        case rel => exact ⟨zs.length + 1, zs ++ [⟨vs, (1 + v / 5 % 3)⟩], by omega, by go_num, by simp, ⟨_, _, rfl⟩, HF1.out, hbw⟩
        case measure => simp [intOf]; omega
    · obtain ⟨A5, c5, hv5, hin5⟩ := HF.out.sl
      injection hv5 with e1 e2 e3
      subst e1 e3
      have HIN := hide hin5
      clear hin5
      go_wp2_with fail
      refine (normalize_ref wr A4 _ c4 zs HIN.out (by omega)).mono ?_
      rintro e w2 ⟨⟨v, m2, ys, rfl, hf2, _⟩, hb2⟩
      have hbb := below_trans hb hb2
      have HF2 := hide (hf2.base hb.size)
      clear hf2
      go_wp2
      go_ret
      exact ⟨⟨_, ys, rfl, HF2.out⟩, hbb⟩
end Go.Proofs.Ytmnhahilbbnkkaa

