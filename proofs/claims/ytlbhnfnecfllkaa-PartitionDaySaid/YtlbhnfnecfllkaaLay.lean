/-
  slices.Sorted(maps.Keys(m)) for maps from int to slices of entries: the library's contracts at this program (the layings are the kit's lay-plain.mjs's, numbers turned to names).
-/
import Derived.Shelf.SlIterI.Nil
import Derived.Shelf.SortM.Plain
import Derived.Shelf.SortM.SortNone
import Derived.Test.YtlbhnfnecfllkaaProg
namespace Go.Proofs.Ytlbhnfnecfllkaa
open Go.RowKit Go.Maps Go.Sort Go.Shelf
set_option linter.unusedVariables false
def layKeys_ren : Go.Shelf.Ren := ⟨fun | 7 => 36 | 10 => 58 | n => n, fun | 23 => 74 | 26 => 3 | 3 => 41 | 28 => 78 | 0 => 0 | 27 => 77 | 33 => 80 | 4 => 4 | n => n, fun | n => n⟩
theorem layKeys : Go.Proofs.SlLaysZI.n7 Try.prog layKeys_ren := {
  mixed := by kernel_rfl
  f7 := ⟨Try.f36.name, by decide, Try.func36.trans (congrArg some (by kernel_rfl))⟩
  f10 := ⟨Try.f58.name, by decide, Try.func58.trans (congrArg some (by kernel_rfl))⟩
  t0 := Try.underlying0
  a0 := Try.isAgg0
  z0 := Try.sizeOf0
  v0 := Try.zeroValue0
  t4 := Try.underlying4
  a4 := Try.isAgg4
  z4 := Try.sizeOf4
  v4 := Try.zeroValue4
  t23 := Try.underlying74
  a23 := Try.isAgg74
  z23 := Try.sizeOf74
  v23 := Try.zeroValue74
  t26 := Try.underlying3
  a26 := Try.isAgg3
  z26 := Try.sizeOf3
  v26 := Try.zeroValue3
  t27 := Try.underlying77
  a27 := Try.isAgg77
  z27 := Try.sizeOf77
  v27 := Try.zeroValue77
  t28 := Try.underlying78
  a28 := Try.isAgg78
  z28 := Try.sizeOf78
  v28 := Try.zeroValue78
  t33 := Try.underlying80
  a33 := Try.isAgg80
  z33 := Try.sizeOf80
  v33 := Try.zeroValue80 }
def laySorted_ren : Go.Shelf.Ren := ⟨fun | 6 => 35 | 8 => 56 | 9 => 57 | 11 => 70 | 13 => 72 | 12 => 71 | 23 => 90 | 24 => 91 | 14 => 81 | 15 => 82 | 16 => 83 | 17 => 84 | 18 => 85 | 19 => 86 | 20 => 87 | 21 => 88 | 22 => 89 | 25 => 96 | 26 => 97 | 27 => 98 | 28 => 99 | 29 => 100 | 30 => 101 | 31 => 104 | n => n, fun | 26 => 3 | 28 => 78 | 24 => 26 | 0 => 0 | 3 => 3 | 37 => 93 | 48 => 118 | 50 => 120 | 4 => 4 | 40 => 110 | 39 => 109 | 45 => 115 | 5 => 5 | 9 => 9 | 51 => 124 | 55 => 128 | 57 => 130 | 58 => 131 | 33 => 80 | n => n, fun | n => n⟩
theorem laySorted : Go.Proofs.SlLaysZI.n6 Try.prog laySorted_ren := {
  mixed := by kernel_rfl
  f6 := ⟨Try.f35.name, by decide, Try.func35.trans (congrArg some (by kernel_rfl))⟩
  f8 := ⟨Try.f56.name, by decide, Try.func56.trans (congrArg some (by kernel_rfl))⟩
  f11 := ⟨Try.f70.name, by decide, Try.func70.trans (congrArg some (by kernel_rfl))⟩
  t0 := Try.underlying0
  a0 := Try.isAgg0
  z0 := Try.sizeOf0
  v0 := Try.zeroValue0
  t24 := Try.underlying26
  a24 := Try.isAgg26
  z24 := Try.sizeOf26
  v24 := Try.zeroValue26
  t26 := Try.underlying3
  a26 := Try.isAgg3
  z26 := Try.sizeOf3
  v26 := Try.zeroValue3
  t28 := Try.underlying78
  a28 := Try.isAgg78
  z28 := Try.sizeOf78
  v28 := Try.zeroValue78
  i26 := by kernel_rfl }
def laySort_ren : Go.Shelf.Ren := ⟨fun | 5 => 57 | 8 => 72 | 7 => 71 | 19 => 90 | 20 => 91 | 10 => 81 | 11 => 82 | 12 => 83 | 13 => 84 | 14 => 85 | 15 => 86 | 16 => 87 | 17 => 88 | 18 => 89 | 30 => 96 | 31 => 97 | 32 => 98 | 33 => 99 | 34 => 100 | 35 => 101 | 40 => 104 | n => n, fun | 23 => 26 | 25 => 3 | 3 => 3 | 32 => 93 | 22 => 26 | 0 => 0 | 44 => 118 | 46 => 120 | 4 => 4 | 36 => 110 | 35 => 109 | 41 => 115 | 5 => 5 | 9 => 9 | 53 => 124 | 57 => 128 | 63 => 130 | 64 => 131 | n => n, fun | n => n⟩
theorem laySort : Go.Proofs.SlLaysM.n5 Try.prog laySort_ren := {
  mixed := by kernel_rfl
  f5 := ⟨Try.f57.name, by decide, Try.func57.trans (congrArg some (by kernel_rfl))⟩
  f7 := ⟨Try.f71.name, by decide, Try.func71.trans (congrArg some (by kernel_rfl))⟩
  f8 := Try.func72.trans (congrArg some (by kernel_rfl))
  f10 := ⟨Try.f81.name, by decide, Try.func81.trans (congrArg some (by kernel_rfl))⟩
  f11 := ⟨Try.f82.name, by decide, Try.func82.trans (congrArg some (by kernel_rfl))⟩
  f12 := ⟨Try.f83.name, by decide, Try.func83.trans (congrArg some (by kernel_rfl))⟩
  f13 := ⟨Try.f84.name, by decide, Try.func84.trans (congrArg some (by kernel_rfl))⟩
  f14 := ⟨Try.f85.name, by decide, Try.func85.trans (congrArg some (by kernel_rfl))⟩
  f15 := ⟨Try.f86.name, by decide, Try.func86.trans (congrArg some (by kernel_rfl))⟩
  f16 := ⟨Try.f87.name, by decide, Try.func87.trans (congrArg some (by kernel_rfl))⟩
  f17 := ⟨Try.f88.name, by decide, Try.func88.trans (congrArg some (by kernel_rfl))⟩
  f18 := ⟨Try.f89.name, by decide, Try.func89.trans (congrArg some (by kernel_rfl))⟩
  f19 := Try.func90.trans (congrArg some (by kernel_rfl))
  f20 := Try.func91.trans (congrArg some (by kernel_rfl))
  f30 := ⟨Try.f96.name, by decide, Try.func96.trans (congrArg some (by kernel_rfl))⟩
  f31 := Try.func97.trans (congrArg some (by kernel_rfl))
  f32 := Try.func98.trans (congrArg some (by kernel_rfl))
  f33 := ⟨Try.f99.name, by decide, Try.func99.trans (congrArg some (by kernel_rfl))⟩
  f34 := ⟨Try.f100.name, by decide, Try.func100.trans (congrArg some (by kernel_rfl))⟩
  f35 := ⟨Try.f101.name, by decide, Try.func101.trans (congrArg some (by kernel_rfl))⟩
  f40 := ⟨Try.f104.name, by decide, Try.func104.trans (congrArg some (by kernel_rfl))⟩
  t0 := Try.underlying0
  a0 := Try.isAgg0
  z0 := Try.sizeOf0
  v0 := Try.zeroValue0
  t3 := Try.underlying3
  a3 := Try.isAgg3
  z3 := Try.sizeOf3
  v3 := Try.zeroValue3
  t4 := Try.underlying4
  a4 := Try.isAgg4
  z4 := Try.sizeOf4
  v4 := Try.zeroValue4
  t5 := Try.underlying5
  a5 := Try.isAgg5
  z5 := Try.sizeOf5
  v5 := Try.zeroValue5
  t9 := Try.underlying9
  a9 := Try.isAgg9
  z9 := Try.sizeOf9
  v9 := Try.zeroValue9
  t22 := Try.underlying26
  a22 := Try.isAgg26
  z22 := Try.sizeOf26
  v22 := Try.zeroValue26
  t23 := Try.underlying26
  a23 := Try.isAgg26
  z23 := Try.sizeOf26
  v23 := Try.zeroValue26
  t25 := Try.underlying3
  a25 := Try.isAgg3
  z25 := Try.sizeOf3
  v25 := Try.zeroValue3
  t32 := Try.underlying93
  a32 := Try.isAgg93
  z32 := Try.sizeOf93
  v32 := Try.zeroValue93
  t35 := Try.underlying109
  a35 := Try.isAgg109
  z35 := Try.sizeOf109
  v35 := Try.zeroValue109
  t36 := Try.underlying110
  a36 := Try.isAgg110
  z36 := Try.sizeOf110
  v36 := Try.zeroValue110
  t41 := Try.underlying115
  a41 := Try.isAgg115
  z41 := Try.sizeOf115
  v41 := Try.zeroValue115
  t44 := Try.underlying118
  a44 := Try.isAgg118
  z44 := Try.sizeOf118
  v44 := Try.zeroValue118
  t46 := Try.underlying120
  a46 := Try.isAgg120
  z46 := Try.sizeOf120
  v46 := Try.zeroValue120
  t53 := Try.underlying124
  a53 := Try.isAgg124
  z53 := Try.sizeOf124
  v53 := Try.zeroValue124
  t57 := Try.underlying128
  a57 := Try.isAgg128
  z57 := Try.sizeOf128
  v57 := Try.zeroValue128
  t63 := Try.underlying130
  a63 := Try.isAgg130
  z63 := Try.sizeOf130
  v63 := Try.zeroValue130
  t64 := Try.underlying131
  a64 := Try.isAgg131
  z64 := Try.sizeOf131
  v64 := Try.zeroValue131 }

/-- slices.Sort's two contracts. -/
theorem sortsA (m : Nat) : AnyZI.SortsIn Try.prog laySorted_ren Fence.wide m :=
  ⟨fun blk off cap ss W hH hblk hsz => callsIn_wide.2 (AnyM.slices_Sort_int laySort blk off cap ss W hH hblk hsz),
   fun p cap W => callsIn_wide.2 (AnyM.slices_Sort_int_none laySort p cap W)⟩

/-- maps.Keys: the map is boxed, a function over the box is handed back. -/
theorem keys_call (mb : Option Nat) (W : World) : Calls Try.prog 36 #[.map mb] W fun e w' => e = .returned (.func (.func 58) #[] #[.pointer (some ⟨W.heap.size, 0, none⟩)]) ∧ w' = W.alloc (.cells #[.map mb] 74) :=
  (callsIn_wide (n := 6)).1 (AnyZI.keys_in layKeys Fence.wide 6 trivial rfl mb W)

/-- slices.Sorted of the keys of a map that is there. -/
theorem sorted_call {H : Type} (b nn : Nat) (D0 : DataW H) (R : Value → Option (DataW H × List MemPlace)) (w : World) (hown : w.ownsMap Try.prog 3 R b nn D0) (hmax : Maps.size D0 ≤ maxLen) (hbytes : Maps.size D0 * 8 ≤ 140737488355328) :
    Calls Try.prog 35 #[.func (.func 58) #[] #[.pointer (some ⟨w.heap.size, 0, none⟩)]] (w.alloc (.cells #[.map (some b)] 74)) fun e w' => ∃ (v : Value) (ss : List Int), e = .returned v ∧ ss.Perm (intKeys D0) ∧
      w'.ownsRow (w.heap.size + 1) 3 1 v ss.length ((ss.mergeSort (fun x y => decide (x ≤ y))).map encZ) ∧ Below (w.heap.size + 1) (w.alloc (.cells #[.map (some b)] 74)) w' := by
  have hbl := hown.lt
  have hseq : SeqGives Fence.wide 2 Try.prog 58 #[.pointer (some ⟨w.heap.size, 0, none⟩)] encZ (fun ss => ss.Perm (intKeys D0)) (Maps.size D0) (w.alloc (.cells #[.map (some b)] 74)) :=
    AnyZI.keys_gives (ρ := layKeys_ren) { layKeys with } Fence.wide _ trivial rfl (by omega) w.heap.size b nn D0 _ (by simp) (by simp) (by
      obtain ⟨es, clock, hb, Ft, hs, hD⟩ := hown
      exact ⟨es, clock, (Below.heap_alloc _ _ b hbl).trans hb, Ft, hs, hD⟩)
  have cS := AnyZI.sorted_in laySorted Fence.wide 5 trivial trivial trivial trivial rfl (by omega) (sortsA _) (enters_of Try.func57 (by kernel_rfl) rfl) 58 #[.pointer (some ⟨w.heap.size, 0, none⟩)] trivial (enters_of Try.func58 (by kernel_rfl) rfl) _ _ hmax hbytes _ hseq
  change CallsIn _ _ Try.prog 35 _ _ _ at cS
  refine (callsIn_wide (n := 5)).1 (cS.mono ?_)
  rintro e w' ⟨v, ss, rfl, hS, hrow, hnil, hb⟩
  have e1 : (w.alloc (.cells #[.map (some b)] 74)).heap.size = w.heap.size + 1 := by simp
  rw [e1] at hrow hb
  exact ⟨v, ss, rfl, hS, hrow, hb⟩
end Go.Proofs.Ytlbhnfnecfllkaa
