/-
  slices.Collect and slices.AppendSeq of the keys of a map from ints: what the map's keys are, behind what was there.
-/
import Derived.RangeFuncNested
import Derived.RangeFuncBound
import Derived.RangeFuncCalls
import Derived.RangeFuncLeaves
import Derived.RangeFuncBox
import Derived.RangeFuncFrom
import Derived.Shelf.Abstract
import Derived.Shelf.RegionOpen
import Derived.WalkKit
import Derived.OwnWalkIn
import Derived.TacticsInMore
import Derived.LoopNIn
import Derived.LoopIn
import Derived.Maps.AppendAt
import Derived.Shelf.SlIterI.Stops
import Derived.Test.YtlbhnfnecfllkaaGreatLay
import Derived.Test.YtlbhnfnecfllkaaGreatGab
namespace Go.Proofs.YtlbhnfnecfllkaaGreat
open Go.RowKit Go.Maps Go.Shelf
set_option linter.unusedVariables false
set_option linter.unusedSimpArgs false
attribute [local go_sem] Oper.semAt_some

theorem int_infoS : (Tryz.prog.info? 3).map (fun i => (i.zero, i.size, i.bytes)) = some (some (.int .i64 0), 1, 8) := by kernel_rfl
theorem own_base {w : World} {B0 B : Nat} {e : TypeId} {size : Nat} {v : Value} {n : Nat} {xs : List Value} (h : w.ownsRow B e size v n xs) (hB : B0 ≤ B) : w.ownsRow B0 e size v n xs := by
  refine ⟨h.1, ?_⟩
  rcases h.2 with h2 | ⟨g, cap, cur, rfl, hg, r⟩
  · exact .inl h2
  · exact .inr ⟨g, cap, cur, rfl, Nat.le_trans hB hg, r⟩
theorem own_formS {w : World} {base e size : Nat} {v : Value} {n : Nat} {xs : List Value} (h : w.ownsRow base e size v n xs) : ∃ A c, v = .slice A n c := by
  rcases h.2 with ⟨h2, h3⟩ | ⟨g, cap, cur, hv, _⟩
  · exact ⟨none, 0, by rw [h2, h3]⟩
  · exact ⟨_, _, hv⟩
set_option maxRecDepth 100000 in
set_option maxHeartbeats 2000000 in
theorem appendSeq_call {H : Type} (Bm b nn n₀ : Nat) (D0 : DataW H) (R : Value → Option (DataW H × List MemPlace)) (w : World) (hBm : Bm < w.heap.size) (hm : w.cell? ⟨Bm, 0, none⟩ = some (.map (some b))) (hown : w.ownsMap Tryz.prog 3 R b nn D0)
    (v0 : Value) (zs : List Int) (hn0 : n₀ ≤ w.heap.size) (hrow : w.ownsRow n₀ 3 1 v0 zs.length (zs.map encZ)) (hmax : zs.length + Maps.size D0 ≤ maxLen) (hbytes : (zs.length + Maps.size D0) * 8 ≤ 140737488355328) :
    Calls Tryz.prog 54 #[v0, .func (.func 66) #[] #[.pointer (some ⟨Bm, 0, none⟩)]] w fun e W' => ∃ (v : Value) (ss : List Int), e = .returned v ∧ ss.Perm (intKeys D0) ∧
      W'.ownsRow n₀ 3 1 v (zs ++ ss).length ((zs ++ ss).map encZ) ∧ Below n₀ w W' := by
  obtain ⟨A0, c0, rfl⟩ := own_formS hrow
  refine (callsIn_wide (n := 5)).1 ?_
  obtain ⟨i0, hi, hz0, hz1, hz2⟩ := info_parts int_infoS
  refine callsIn_of_wp_marks Tryz.func54 rfl trivial ?_ rfl
  simp only [Tryz.ntmps54, List.size_toArray, List.length_cons, List.length_nil, Nat.reduceAdd, Nat.reduceSub, Array.replicate_succ, Array.replicate_zero, List.push_toArray, List.append_toArray, List.nil_append, List.cons_append]
  gi_wp2
  have bO := Boxed.new w 27 (.slice A0 zs.length c0)
  have hB0 : Below n₀ w (w.alloc (.cells #[.slice A0 zs.length c0] 27)) := (Below.refl _ w).alloc hn0 _
  have hsz : (w.alloc (.cells #[.slice A0 zs.length c0] 27)).heap.size = w.heap.size + 1 := World.size_alloc _ _
  have hown' : (w.alloc (.cells #[.slice A0 zs.length c0] 27)).ownsMap Tryz.prog 3 R b nn D0 := by
    have hbl := hown.lt
    obtain ⟨es, clock, hb, Ft, hs, hD⟩ := hown
    exact ⟨es, clock, (Below.heap_alloc _ _ b hbl).trans hb, Ft, hs, hD⟩
  have hm' : (w.alloc (.cells #[.slice A0 zs.length c0] 27)).cell? ⟨Bm, 0, none⟩ = some (.map (some b)) := bat below_alloc hBm hm
  refine wpIn_rangeFunc_ownF rfl (by omega) (gf := 66) (lb := #[.pointer (some ⟨Bm, 0, none⟩)]) rfl trivial (enters_of Tryz.func66 (by kernel_rfl) rfl)
    (Kp := KeepsWalks) (encs := fun x : Int => #[encZ x]) (w0 := w.alloc (.cells #[.slice A0 zs.length c0] 27)) (AnyZI.keys_stops (ρ := layKeys_ren) { layKeys with } Fence.wide 4 trivial rfl (by omega) Bm b nn D0 _ (by rw [hsz]; omega) hm' hown') walksK_t walksK_b (Below.refl _ _) (fun _ => rfl)
    (fun pre W => (∃ v, Boxed W w.heap.size 27 v ∧ W.ownsRow n₀ 3 1 v (zs ++ pre).length ((zs ++ pre).map encZ) ∧ Hid True) ∧ Below n₀ w W)
    (fun _ _ _ => False)
    (OwnFrom.and (Own.from (holdsRow_own n₀ w.heap.size 27 3 1 (fun pre => (zs ++ pre).length) (fun pre => (zs ++ pre).map encZ) (fun pre v => Hid True)) _) (ownFrom_below hn0 (by rw [hsz]; omega)))
    (fun _ _ _ _ _ hs _ _ => hs)
    ⟨⟨_, bO, by simpa using hrow.alloc _, hide trivial⟩, hB0⟩
    (fun x => { tmps := #[.slice A0 zs.length c0, .func (.func 66) #[] #[.pointer (some ⟨Bm, 0, none⟩)], .pointer (some ⟨w.heap.size, 0, none⟩), undef, .slice none 0 0, encZ x, .func (.func 66) #[] #[.pointer (some ⟨Bm, 0, none⟩)], encZ x, undef, undef, undef, undef, undef], defers := [] }) ?assign ?body ?done ?stop
  case assign =>
    intro l x W K hK
    gi_wp2
    exact hK
  case body =>
    rintro l pre x W ⟨⟨v, hv, hrow, _⟩, hB⟩ hlt
    have hc := hv.cell
    have hlz : (zs ++ pre).length = zs.length + pre.length := List.length_append
    have hE : encZ x = .int .i64 x := rfl
    gi_wp2_with (gi_at_builtin; refine wpListIn_append_own _ rfl _ _ 27 rfl n₀ 3 i0 (.int .i64 0) 1 8 Tryz.underlying27 hi hz0 hz1 hz2 rfl (by decide) _ _ _ rfl (hrow.alloc _) ⟨W.heap.size, 0, none⟩ 1 1 [encZ x] rfl rfl (cell_one_new _ _ _) (by simp [Value.oneCell', encZ]) (by omega) (by omega) (by have := hB.size; simp; omega) ?_; intro v' w1 hown' hgrow _; obtain ⟨g', cap', rfl⟩ := ownsRow_succ hown'; obtain ⟨hv1, hv2, hr2, hk2, hb2⟩ := hv.appended (by decide) hrow (by have := hB.size; omega) hn0 hown' hgrow; have hc1 := hv1.cell; have hf1 := hv1.frozen)
    rw [hlz] at hv2 hr2 hk2 hb2
    refine ⟨hk2, hk2.walks, ⟨_, hv2, ?_⟩, hB.trans hb2⟩
    simpa [List.length_append, Nat.add_assoc] using hr2
  case done =>
    rintro D ys W hD ⟨hp, _⟩ ⟨⟨v, hv, hrow, _⟩, hB⟩ hK
    have hc := hv.cell
    gi_wp2
    refine ⟨by simp, .inl ⟨_, _, rfl, run_takeDeferred hK, ?_⟩⟩
    exact ⟨_, results_tmp rfl _ _ _, v, ys, rfl, hp, ownsRow_putObj hrow _ hK rfl, hB.trans (belowK_b (w := w) hn0 W D _ _ (by rw [hsz] at hD; omega) hK rfl rfl)⟩
  case stop =>
    rintro D c pre W _ _ h _
    exact h.elim
/-- slices.Collect of the keys of a map that is there. -/
theorem collect_call {H : Type} (Bm b nn : Nat) (D0 : DataW H) (R : Value → Option (DataW H × List MemPlace)) (w : World) (hBm : Bm < w.heap.size) (hm : w.cell? ⟨Bm, 0, none⟩ = some (.map (some b))) (hown : w.ownsMap Tryz.prog 3 R b nn D0) (hmax : Maps.size D0 ≤ maxLen) (hbytes : Maps.size D0 * 8 ≤ 140737488355328) :
    Calls Tryz.prog 55 #[.func (.func 66) #[] #[.pointer (some ⟨Bm, 0, none⟩)]] w fun e W' => ∃ (v : Value) (ss : List Int), e = .returned v ∧ ss.Perm (intKeys D0) ∧
      W'.ownsRow w.heap.size 3 1 v ss.length (ss.map encZ) ∧ Below w.heap.size w W' := by
  go_enter Tryz.func55, Tryz.ntmps55
  go_wp2_with fail
  refine (appendSeq_call Bm b nn w.heap.size D0 R w hBm hm hown (.slice none 0 0) [] (Nat.le_refl _) (World.ownsRow_nil _ _ _ _) (by simpa using hmax) (by simpa using hbytes)).mono ?_
  rintro e W' ⟨v, ss, rfl, hp, hr, hb⟩
  have HR := hide hr
  have HB := hide hb
  have HP := hide hp
  clear hr hb hp
  go_wp2
  go_ret
  exact ⟨v, ss, rfl, HP.out, by simpa using HR.out, HB.out⟩
end Go.Proofs.YtlbhnfnecfllkaaGreat
