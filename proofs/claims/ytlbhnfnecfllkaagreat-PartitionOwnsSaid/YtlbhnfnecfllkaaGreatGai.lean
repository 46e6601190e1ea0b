/-
  bag.sum: slices.Clone of entries, slices.SortFunc with bag.sum's closure, the loops; bag.Normalize. (The laying is what the kit's lay-plain.mjs wrote, numbers turned to names.) bag.sum, bag.Normalize: the walks. bag.Normalize; partition.Join.
-/
import Derived.Test.YtlbhnfnecfllkaaGreatSrtK
import Derived.Test.YtlbhnfnecfllkaaGreatGah
import Derived.Test.YtlbhnfnecfllkaaGreatGac
import Derived.Test.YtlbhnfnecfllkaaGreatGae
namespace Go.Proofs.YtlbhnfnecfllkaaGreat
open Go.RowKit Go.Shelf
set_option linter.unusedSimpArgs false
set_option linter.unusedVariables false

def laySortE_ren : Go.Shelf.Ren := ⟨fun | 6 => 120 | 15 => 80 | 14 => 139 | 28 => 115 | 29 => 116 | 20 => 143 | 21 => 144 | 22 => 145 | 23 => 146 | 24 => 147 | 25 => 148 | 26 => 149 | 27 => 150 | 46 => 153 | 47 => 131 | 48 => 132 | 49 => 154 | 50 => 155 | 57 => 156 | n => n, fun | 22 => 26 | 24 => 63 | 25 => 142 | 3 => 3 | 39 => 113 | 0 => 0 | 53 => 137 | 55 => 139 | 4 => 4 | 46 => 129 | 45 => 128 | 50 => 134 | 5 => 5 | 9 => 9 | 66 => 146 | 70 => 150 | 76 => 155 | 77 => 156 | n => n, fun | n => n⟩
theorem laySortE : Go.Proofs.SlLaysF0.n6 Tryz.prog laySortE_ren := {
  mixed := by kernel_rfl
  f6 := ⟨Tryz.f120.name, by decide, Tryz.func120.trans (congrArg some (by kernel_rfl))⟩
  f14 := ⟨Tryz.f139.name, by decide, Tryz.func139.trans (congrArg some (by kernel_rfl))⟩
  f15 := Tryz.func80.trans (congrArg some (by kernel_rfl))
  f20 := ⟨Tryz.f143.name, by decide, Tryz.func143.trans (congrArg some (by kernel_rfl))⟩
  f21 := ⟨Tryz.f144.name, by decide, Tryz.func144.trans (congrArg some (by kernel_rfl))⟩
  f22 := ⟨Tryz.f145.name, by decide, Tryz.func145.trans (congrArg some (by kernel_rfl))⟩
  f23 := ⟨Tryz.f146.name, by decide, Tryz.func146.trans (congrArg some (by kernel_rfl))⟩
  f24 := ⟨Tryz.f147.name, by decide, Tryz.func147.trans (congrArg some (by kernel_rfl))⟩
  f25 := ⟨Tryz.f148.name, by decide, Tryz.func148.trans (congrArg some (by kernel_rfl))⟩
  f26 := ⟨Tryz.f149.name, by decide, Tryz.func149.trans (congrArg some (by kernel_rfl))⟩
  f27 := ⟨Tryz.f150.name, by decide, Tryz.func150.trans (congrArg some (by kernel_rfl))⟩
  f28 := Tryz.func115.trans (congrArg some (by kernel_rfl))
  f29 := Tryz.func116.trans (congrArg some (by kernel_rfl))
  f46 := ⟨Tryz.f153.name, by decide, Tryz.func153.trans (congrArg some (by kernel_rfl))⟩
  f47 := Tryz.func131.trans (congrArg some (by kernel_rfl))
  f48 := Tryz.func132.trans (congrArg some (by kernel_rfl))
  f49 := ⟨Tryz.f154.name, by decide, Tryz.func154.trans (congrArg some (by kernel_rfl))⟩
  f50 := ⟨Tryz.f155.name, by decide, Tryz.func155.trans (congrArg some (by kernel_rfl))⟩
  f57 := ⟨Tryz.f156.name, by decide, Tryz.func156.trans (congrArg some (by kernel_rfl))⟩
  t0 := Tryz.underlying0
  a0 := Tryz.isAgg0
  z0 := Tryz.sizeOf0
  v0 := Tryz.zeroValue0
  t3 := Tryz.underlying3
  a3 := Tryz.isAgg3
  z3 := Tryz.sizeOf3
  v3 := Tryz.zeroValue3
  t4 := Tryz.underlying4
  a4 := Tryz.isAgg4
  z4 := Tryz.sizeOf4
  v4 := Tryz.zeroValue4
  t5 := Tryz.underlying5
  a5 := Tryz.isAgg5
  z5 := Tryz.sizeOf5
  v5 := Tryz.zeroValue5
  t9 := Tryz.underlying9
  a9 := Tryz.isAgg9
  z9 := Tryz.sizeOf9
  v9 := Tryz.zeroValue9
  t22 := Tryz.underlying26
  a22 := Tryz.isAgg26
  z22 := Tryz.sizeOf26
  v22 := Tryz.zeroValue26
  t25 := Tryz.underlying142
  a25 := Tryz.isAgg142
  z25 := Tryz.sizeOf142
  v25 := Tryz.zeroValue142
  t39 := Tryz.underlying113
  a39 := Tryz.isAgg113
  z39 := Tryz.sizeOf113
  v39 := Tryz.zeroValue113
  t45 := Tryz.underlying128
  a45 := Tryz.isAgg128
  z45 := Tryz.sizeOf128
  v45 := Tryz.zeroValue128
  t46 := Tryz.underlying129
  a46 := Tryz.isAgg129
  z46 := Tryz.sizeOf129
  v46 := Tryz.zeroValue129
  t50 := Tryz.underlying134
  a50 := Tryz.isAgg134
  z50 := Tryz.sizeOf134
  v50 := Tryz.zeroValue134
  t53 := Tryz.underlying137
  a53 := Tryz.isAgg137
  z53 := Tryz.sizeOf137
  v53 := Tryz.zeroValue137
  t55 := Tryz.underlying139
  a55 := Tryz.isAgg139
  z55 := Tryz.sizeOf139
  v55 := Tryz.zeroValue139
  t66 := Tryz.underlying146
  a66 := Tryz.isAgg146
  z66 := Tryz.sizeOf146
  v66 := Tryz.zeroValue146
  t70 := Tryz.underlying150
  a70 := Tryz.isAgg150
  z70 := Tryz.sizeOf150
  v70 := Tryz.zeroValue150
  t76 := Tryz.underlying155
  a76 := Tryz.isAgg155
  z76 := Tryz.sizeOf155
  v76 := Tryz.zeroValue155
  t77 := Tryz.underlying156
  a77 := Tryz.isAgg156
  z77 := Tryz.sizeOf156
  v77 := Tryz.zeroValue156 }

set_option maxHeartbeats 1000000 in
set_option maxRecDepth 100000 in
theorem clone_ents (w : World) (A : Option Addr) (n c : Nat) (xs : List Ent) (hx : In w A n c xs) (hn : n ≤ 1048576) :
    Calls Tryz.prog 119 #[.slice A n c] w fun e w' => (∃ A' c', e = .returned (.slice A' n c') ∧ OL 63 w.heap.size (fun _ => True) [] w' (.slice A' n c') xs) ∧ Below w.heap.size w w' := by
  have kn := fun (W : World) (a : Option Addr) (l c : Nat) => Lib.run_eql_slice_nil (P := Tryz.prog) W 26 63 a l c 0 0 Tryz.underlying26
  have hlen := hx.len
  cases A with
  | none =>
    have h0 : c = 0 := hx.2.2.2.1 rfl
    have h1 : n = 0 := by have := hx.2.1; omega
    subst h0 h1
    have he : xs = [] := List.eq_nil_of_length_eq_zero hx.1
    subst he
    clear hlen
    go_enter Tryz.func119, Tryz.ntmps119
    go_wp2
    go_ret
    exact ⟨⟨_, _, rfl, OL.nil (Nat.le_refl _)⟩, Below.refl _ _⟩
  | some ad =>
    have hb0 : Below w.heap.size w (w.alloc (.cells #[] 63)) := below_alloc
    obtain ⟨cs, HC, HS⟩ := Sl.cells hx
    have HC := hide ((HC.keep (Same.below hb0)).mono fun k hk => (show BS w.heap.size (fun _ => True) [] (w.alloc (.cells #[] 63)) k from .inl ⟨trivial, hk⟩))
    have HO : Hid (OL (α := Ent) 63 w.heap.size (fun _ => True) [] (w.alloc (.cells #[] 63)) (.slice (some ⟨w.heap.size, 0, none⟩) 0 0) []) := hide ⟨⟨[], World.ownsRow_made w #[] 0 (Nat.le_refl _) (by decide) rfl, rfl⟩, hb0.size⟩
    have HSR : Hid (Src (w.alloc (.cells #[] 63)) 2 (some ad) n cs) := hide ⟨HS.1, fun h => by
      obtain ⟨b, off, e, hj⟩ := HS.2 h
      exact ⟨b, off, e, fun j u hu => by
        have hc := hj j u hu
        exact bat hb0 (lt_of_cell hc) hc⟩⟩
    have HL := hide hlen
    clear hlen
    go_enter Tryz.func119, Tryz.ntmps119
    go_wp2_with (at_builtin; refine wpList_append_OL _ rfl _ _ _ rfl elem_ents (by simp) HO.out rfl (some ad) n c cs xs rfl (fun h => by cases h) HSR.out HC.out HL.out (by simp only [maxLen, List.length_nil]; omega) (by simp only [List.length_nil]; omega) ?_; intro v1 w3 ho3 hb3 hg3 hat3)
    go_ret
    obtain ⟨A9, c9, e9⟩ := ho3.form
    have HO3 := hide ho3
    clear ho3
    subst e9
    rw [List.nil_append] at HO3
    rw [List.nil_append, HL.out] at *
    exact ⟨⟨_, _, rfl, HO3.out⟩, hb0.trans hb3⟩
set_option maxRecDepth 100000 in
theorem sumClos_any (W : World) (A A' : Option Addr) (n n' c c' : Nat) (k k' : Int) (xs ys : List Val) (hx : In W A n c xs) (hy : In W A' n' c' ys) :
    Calls Tryz.prog 121 #[.agg #[.slice A n c, .int .i64 k], .agg #[.slice A' n' c', .int .i64 k']] W fun e w' => e = .returned (.int .i64 (cmpRows xs ys)) ∧ Gr W w' := by
  go_enter Tryz.func121, Tryz.ntmps121
  go_wp2_with fail
  refine (compareRows_anyG _ A A' n n' c c' xs ys (by exact hx.below below_alloc2) (by exact hy.below below_alloc2)).mono ?_
  rintro e w1 ⟨rfl, hg1⟩
  have HG := hide (((gr_alloc W _).alloc _).trans hg1)
  clear hg1
  go_wp2
  go_ret
  exact ⟨rfl, HG.out⟩
theorem enters_sumClos : ∀ args w, (callFunc 121 args).run Tryz.prog w = .ok (.enter 121 args) w := enters_of Tryz.func121 (by kernel_rfl) rfl
theorem sort_ents (w : World) (B : Nat) (O : Nat → Prop) (v : Value) (xs : List Ent) (h : OL 63 B O [] w v xs) (hl : xs.length ≤ 1048576) :
    Calls Tryz.prog 120 #[v, .func (.func 121) #[] #[]] w
      fun e w' => e = .returned (.tuple #[]) ∧ ∃ ys : List Ent, ys.Perm xs ∧ ys.Pairwise (fun a b => ¬ cmpRows b.row a.row < 0) ∧ OL 63 B O [] w' v ys ∧ w.grownBy w' v.ownBlock :=
  sort_OL (ρ := laySortE_ren) (α := Ent) laySortE (by decide) Tryz.isAgg63 Tryz.sizeOf63 (fun x y : Ent => cmpRows x.row y.row) (swo_map (swo_total total_rows) Ent.row) 121 #[] enters_sumClos
    (fun W c1 c2 x y hx hy => by
      obtain ⟨A, n, c, rfl, h1, _⟩ := hx
      obtain ⟨A', n', c', rfl, h2, _⟩ := hy
      exact sumClos_any W A A' n n' c c' x.count y.count x.row y.row h1 h2) h (by simp) (by omega)
end Go.Proofs.YtlbhnfnecfllkaaGreat

namespace Go.Proofs.YtlbhnfnecfllkaaGreat
open Go.RowKit
set_option linter.unusedSimpArgs false
set_option linter.unusedVariables false

theorem ent_two {w : World} {b off : Nat} {n c q : Nat} {ys : List Ent} (h : In w (some ⟨b, off, none⟩) n c ys) (hq : q < n) : ∃ x, b < w.heap.size ∧ Hid (ys.drop q = x :: ys.drop (q + 1)) ∧
    ∃ A' n' c', w.cell? ⟨b, off + q * 2, none⟩ = some (.slice A' n' c') ∧ w.cell? ⟨b, off + q * 2 + 1, none⟩ = some (.int .i64 x.count) ∧ In w A' n' c' x.row := by
  obtain ⟨b1, off1, x, e, hb, hx, A', n', c', h1, h2, h3, h4⟩ := h.ent hq
  injection e with e
  injection e with e1 e2
  subst e1 e2
  exact ⟨x, hb, hx, A', n', c', h1, h2, h3⟩
theorem In.ownS {w : World} {e B n c : Nat} {O : Nat → Prop} {T : List TypeId} {A : Option Addr} {ys : List Ent} (h : OL e B O T w (.slice A n c) ys) (hl : ys.length = n) : In w A n c ys := by
  obtain ⟨A9, c9, e9, h9⟩ := h.inn
  injection e9 with e1 e2 e3
  subst e1 e2 e3
  exact h9
set_option maxHeartbeats 8000000 in
set_option maxRecDepth 100000 in
theorem sum_any (w : World) (A : Option Addr) (n c : Nat) (xs : List Ent) (hx : In w A n c xs) (hn : n ≤ 1048576) (hbx : Bnd 65536 xs) (hrx : ∀ x ∈ xs, x.row.length ≤ 12) :
    Calls Tryz.prog 85 #[.slice A n c] w
      fun e w' => (∃ v, e = .returned (.tuple #[v, .int .i64 (bagS xs).1]) ∧ OE w.heap.size w' v (bagS xs).2) ∧ Below w.heap.size w w' := by
  obtain ⟨R, hR⟩ : ∃ R, bagS xs = R := ⟨_, rfl⟩
  rw [hR]
  have HR := hide hR
  clear hR
  have HBX := hide hbx
  have HRX := hide hrx
  have HLX := hide hx.len
  clear hbx hrx
  go_enter Tryz.func85, Tryz.ntmps85
  go_wp2_with fail
  refine (clone_ents _ A n c xs hx hn).mono ?_
  rintro e w1 ⟨⟨A1, c1, rfl, ho1⟩, hb1⟩
  have HO1 := hide ho1
  have HB1 := hide hb1
  clear ho1 hb1
  go_wp2_with fail
  refine (sort_ents w1 w.heap.size (fun _ => True) (.slice A1 n c1) xs HO1.out (by have := HLX.out; omega)).mono ?_
  rintro e w2 ⟨rfl, ys, hpm, hso, ho2, hg2⟩
  have hin := In.ownS ho2 (hpm.length_eq.trans HLX.out)
  have HB2 : Hid (Below w.heap.size w w2) := hide (HB1.out.grown hg2 HB1.out.size fun j q => (HO1.out.ty q).1)
  have HBY : Hid (∀ y ∈ ys, (-65536 ≤ y.count ∧ y.count ≤ 65536) ∧ y.row.length ≤ 12) := hide fun y hy => ⟨HBX.out y (hpm.mem_iff.1 hy), HRX.out y (hpm.mem_iff.1 hy)⟩
  have HRM : Hid (R = mergS (gsum ys)) := hide (HR.out.symm.trans (gsum_bag hpm hso))
  clear hpm hso ho2 hg2 HR HBX HRX HLX HO1 HB1
  have HIN := hide hin
  have hn63 := hin.le
  clear hin
  obtain ⟨M, hM⟩ : ∃ M, gsum ys = M := ⟨_, rfl⟩
  have HM := hide hM
  rw [hM] at HRM
  clear hM
  go_wp2
  go_loopw [4, 5, 6] (fun o okv i wr => ∃ (k : Nat) (zs : List Ent) (ok : Bool), i = .int .i64 k ∧ okv = .bool ok ∧ k ≤ n ∧ zs.length ≤ k ∧ MState M (gsum (ys.drop k)) ok zs ∧ OE w2.heap.size wr o zs ∧ Below w2.heap.size w2 wr)
    (fun _ _ i _ => n - (RowKit.intOf i).toNat)
  case atStart => exact ⟨0, [], true, rfl, rfl, Nat.zero_le _, by simp, by rw [List.drop_zero, HM.out]; exact MState.start M, OL.nil (Nat.le_refl _), Below.refl _ _⟩
  case round =>
    obtain ⟨k, zs, ok, rfl, rfl, hk, hzk, hst, hown, hb⟩ := hrel
    have HST := hide hst
    have HO := hide hown
    have HB := hide hb
    clear hst hown hb
    cases ok
    · have HF := hide (HRM.out.trans HST.out.bad)
      obtain rfl := HF.out
      by_cases hlt : k < n
      · go_wp2
        all_goals (try (exfalso; go_light; simp_all; done))
        go_ret2
        exact ⟨⟨_, rfl, OL.nil (Nat.le_trans HB2.out.size HB.out.size)⟩, HB2.out.trans (HB.out.mono HB2.out.size)⟩
      · go_wp2
        all_goals (try (exfalso; go_light; simp_all; done))
        go_ret2
        exact ⟨⟨_, rfl, OL.nil (Nat.le_trans HB2.out.size HB.out.size)⟩, HB2.out.trans (HB.out.mono HB2.out.size)⟩
    by_cases hlt : k < n
    case neg =>
      have hkn : n ≤ k := by omega
      have HF := hide (HRM.out.trans (MState.fin (by have h := HST.out; rwa [drop_end HIN.out.len hkn, show gsum [] = [] from rfl] at h)))
      obtain ⟨A9, c9, hv, hin9⟩ := HO.out.inn
      have hz63 := hin9.le
      subst hv
      clear hin9
      go_wp2_with fail
      refine (done_any _ (.slice A9 zs.length c9) zs.length c9 A9 hz63).mono ?_
      rintro e w3 ⟨rfl, hb3⟩
      have HB3 := hide (HB2.out.trans ((below_trans HB.out hb3).mono HB2.out.size))
      have HO3 := hide (HO.out.below hb3)
      clear hb3
      by_cases h4 : 4096 < zs.length
      · have HF2 := HF.out
        rw [if_pos h4] at HF2
        obtain rfl := HF2
        rw [if_pos h4]
        go_wp2
        all_goals (try (exfalso; go_light; simp_all; done))
        go_ret2
        exact ⟨⟨_, rfl, OL.nil HB3.out.size⟩, HB3.out⟩
      · have HF2 := HF.out
        rw [if_neg h4] at HF2
        obtain rfl := HF2
        rw [if_neg h4]
        go_wp2
        all_goals (try (exfalso; go_light; simp_all; done))
        go_ret2
        exact ⟨⟨_, rfl, HO3.out.rebase HB2.out.size⟩, HB3.out⟩
    case pos =>
      obtain ⟨b, off, x, rfl, hB, HX, Ax, An, Ac, e0, e1, e2, e3⟩ := HIN.out.ent hlt
      clear e1 e3
      have k0 : (0 : Int) ≤ (k : Int) := by omega
      have k1 : (k : Int) < (n : Int) := by omega
      have hAn : An ≤ 4096 := by have := e2.len; have := (HBY.out x (mem_of_drop HX.out)).2; omega
      have E0 := hide e0
      have E2 := hide e2
      clear e0 e2
      go_wp2
      go_loopw [7, 8] (fun nv kv wr2 => ∃ (q : Nat) (m : Int), kv = .int .i64 q ∧ nv = .int .i64 m ∧ k ≤ q ∧ q ≤ n ∧ RunE ys x.row k q m ∧ Below wr.heap.size wr wr2) (fun _ kv _ => n - (RowKit.intOf kv).toNat)
      case atStart => exact ⟨k, 0, rfl, rfl, Nat.le_refl _, hk, RunE.start _ _ _, Below.refl _ _⟩
      case round =>
        obtain ⟨q, m, rfl, rfl, hkq, hqn, hrun, hb2⟩ := hrel
        have HRUN := hide hrun
        have hmb : -65536 * ((q : Int) - k) ≤ m ∧ m ≤ 65536 * ((q : Int) - k) := by obtain ⟨_, _, _, _, _, h5, h6⟩ := hrun; exact ⟨h5, h6⟩
        have HB4 := hide (below_trans HB.out hb2)
        have HB5 := hide hb2
        clear hrun hb2
        have e0 := bat HB4.out hB E0.out
        by_cases hqlt : q < n
        · obtain ⟨y, hBy, HY, Yx, Yn, Yc, f0, f1, f2⟩ := ent_two HIN.out hqlt
          have f0 := bat HB4.out hB f0
          have f1 := bat HB4.out hB f1
          have hinx := In.below E2.out HB4.out
          have hiny := In.below f2 HB4.out
          clear f2 hBy
          have q0 : (0 : Int) ≤ (q : Int) := by omega
          have q1 : (q : Int) < (n : Int) := by omega
          have hBr := Nat.lt_of_lt_of_le hB HB4.out.size
          have hyc := (HBY.out y (mem_of_drop HY.out)).1
          go_wp2_with fail
          go_region_held3 (fun V => V.cell? ⟨b, off + k * 2, none⟩ = some (.slice Ax An Ac) ∧ V.cell? ⟨b, off + q * 2, none⟩ = some (.slice Yx Yn Yc) ∧ V.cell? ⟨b, off + q * 2 + 1, none⟩ = some (.int .i64 y.count))
            (first | exact ⟨e0, f0, f1⟩ | (have hq := below_undrew hb2'; exact ⟨bat hq hBr e0, bat hq hBr f0, bat hq hBr f1⟩))
            (first | (go_at_call 83; refine (compareRows_any _ Ax Yx An Yn Ac Yc x.row y.row (by exact hinx) (by exact hiny)).mono ?_; rintro e W9 ⟨rfl, hb2'⟩))
          have hbw := below_undrew hb2'
          have HBV := hide (below_trans HB5.out hbw)
          replace e0 := bat hbw hBr e0
          replace f0 := bat hbw hBr f0
          replace f1 := bat hbw hBr f1
          clear hb2' hbw hinx hiny hBr
          by_cases hz : cmpRows x.row y.row = 0
          · have hz' : (cmpRows x.row y.row == 0) = true := by simpa using hz
            have hww : IntKind.i64.wrap (m + y.count) = m + y.count := IntWalk.i64_in _ (by omega)
            have HR2 := hide (HRUN.out.step hkq HY.out (cr_zero.1 hz).symm hyc)
            clear hz
            go_wp2
            all_goals (try (exfalso; go_light; simp_all; done))
            go_roundw
            case rel => exact ⟨q + 1, m + y.count, by go_num, by simp [hww], by omega, by omega, HR2.out, HBV.out⟩
            case measure => simp [RowKit.intOf]; omega
          · have hz' : (cmpRows x.row y.row == 0) = false := by simpa using hz
            have HNQ : Hid (∀ z ∈ (ys.drop q).head?, z.row ≠ x.row) := hide (by
              rw [HY.out]
              intro z hzz
              simp at hzz
              subst hzz
              exact fun h => hz (cr_zero.2 h.symm))
            clear hz f0 f1
            have HFN := hide (HRUN.out.fin HX.out HNQ.out)
            have HST2 := hide (MState.step HST.out HFN.out.1)
            have hkq2 : k < q := HFN.out.2
            have HPL := hide (putS_len zs x.row m)
            have h64 : I64 m := ⟨by omega, by omega⟩
            have hzl : zs.length < 1048576 := by omega
            have HO4 := hide (HO.out.below HBV.out)
            have HI4 := hide (In.below E2.out (HB.out.trans (HBV.out.mono HB.out.size)))
            have hVB : b < W9.heap.size := Nat.lt_of_lt_of_le hB (HB.out.trans (HBV.out.mono HB.out.size)).size
            clear e0
            go_wp2_with fail
            refine (put_any _ w2.heap.size _ zs (by first | exact HO4.out | exact HO4.out.below (Below.refl _ _).drew | exact HO4.out.below (below_any (Below.refl _ _))) _ _ _ x.row (by first | exact HI4.out | exact HI4.out.below (Below.refl _ _).drew | exact HI4.out.below (below_any (Below.refl _ _))) hAn m h64 hzl).mono ?_
            rintro e w5 ⟨⟨v5, rfl, ho5⟩, hg5, hb5⟩
            have HO5 := hide ho5
            have HW3 : Hid (Below w2.heap.size W9 w5) := hide (by first | exact hb5 | exact (Below.refl _ _).drew.trans hb5 | exact (below_any (Below.refl _ _)).trans hb5)
            clear ho5 hg5 hb5
            have HBF := hide ((HB.out.trans (HBV.out.mono HB.out.size)).trans HW3.out)
            have hfin := HO5.out.base
            generalize putS zs x.row m = PS at *
            obtain ⟨okn, zsn⟩ := PS
            go_wp2
            all_goals (try (exfalso; go_light; simp_all; done))
            go_roundw
            case rel =>
              refine ⟨q, zsn, okn, rfl, rfl, hqn, ?_, HST2.out, HO5.out, HBF.out⟩
              have : zsn.length ≤ zs.length + 1 := HPL.out
              omega
            case measure => simp [RowKit.intOf]; omega
        · have HNQ : Hid (∀ z ∈ (ys.drop q).head?, z.row ≠ x.row) := hide (by
            rw [drop_end HIN.out.len (by omega)]
            simp)
          go_wp2
          go_quiet (fail)
          have HBV := HB5
          have HFN := hide (HRUN.out.fin HX.out HNQ.out)
          have HST2 := hide (MState.step HST.out HFN.out.1)
          have hkq2 : k < q := HFN.out.2
          have HPL := hide (putS_len zs x.row m)
          have h64 : I64 m := ⟨by omega, by omega⟩
          have hzl : zs.length < 1048576 := by omega
          have HO4 := hide (HO.out.below HBV.out)
          have HI4 := hide (In.below E2.out (HB.out.trans (HBV.out.mono HB.out.size)))
          have hVB : b < wr.heap.size := Nat.lt_of_lt_of_le hB (HB.out.trans (HBV.out.mono HB.out.size)).size
          have e0q : (wr.drewN nq).cell? ⟨b, off + k * 2, none⟩ = some (.slice Ax An Ac) := e0
          go_wp2_with fail
          refine (put_any _ w2.heap.size _ zs (by first | exact HO4.out | exact HO4.out.below (Below.refl _ _).drew | exact HO4.out.below (below_any (Below.refl _ _))) _ _ _ x.row (by first | exact HI4.out | exact HI4.out.below (Below.refl _ _).drew | exact HI4.out.below (below_any (Below.refl _ _))) hAn m h64 hzl).mono ?_
          rintro e w5 ⟨⟨v5, rfl, ho5⟩, hg5, hb5⟩
          have HO5 := hide ho5
          have HW3 : Hid (Below w2.heap.size wr w5) := hide (by first | exact hb5 | exact (Below.refl _ _).drew.trans hb5 | exact (below_any (Below.refl _ _)).trans hb5)
          clear ho5 hg5 hb5
          have HBF := hide ((HB.out.trans (HBV.out.mono HB.out.size)).trans HW3.out)
          have hfin := HO5.out.base
          generalize putS zs x.row m = PS at *
          obtain ⟨okn, zsn⟩ := PS
          go_wp2
          all_goals (try (exfalso; go_light; simp_all; done))
          go_roundw
          case rel =>
            refine ⟨q, zsn, okn, rfl, rfl, hqn, ?_, HST2.out, HO5.out, HBF.out⟩
            have : zsn.length ≤ zs.length + 1 := HPL.out
            omega
          case measure => simp [RowKit.intOf]; omega
end Go.Proofs.YtlbhnfnecfllkaaGreat

namespace Go.Proofs.YtlbhnfnecfllkaaGreat
open Go.RowKit
set_option linter.unusedSimpArgs false
set_option linter.unusedVariables false

theorem ent_parts {x : Ent} (h : entErr x = 0) : (-65536 ≤ x.count ∧ x.count ≤ 65536) ∧ x.row.length ≤ 12 := by
  rw [entErr_def] at h
  split at h
  · exact absurd h (by decide)
  · omega
set_option maxHeartbeats 4000000 in
set_option maxRecDepth 100000 in
theorem normalize_any (w : World) (A : Option Addr) (n c : Nat) (xs : List Ent) (hx : In w A n c xs) (hn : n ≤ 1048576) :
    Calls Tryz.prog 59 #[.slice A n c] w
      fun e w' => (∃ v, e = .returned (.tuple #[v, .int .i64 (normS xs).1]) ∧ OE w.heap.size w' v (normS xs).2) ∧ Below w.heap.size w w' := by
  have HD := hide (show normS xs = if firstErr (fun _ x => entErr x) 0 xs ≠ 0 then (firstErr (fun _ x => entErr x) 0 xs, []) else bagS xs from rfl)
  obtain ⟨R, hR⟩ : ∃ R, normS xs = R := ⟨_, rfl⟩
  rw [hR] at HD
  rw [hR]
  clear hR
  have HIN := hide hx
  have hn63 := hx.le
  clear hx
  go_enter Tryz.func59, Tryz.ntmps59
  go_wp2
  go_loopw [9] (fun i wr => ∃ k : Nat, k ≤ n ∧ i = .int .i64 k ∧ firstErr (fun _ x => entErr x) 0 xs = firstErr (fun _ x => entErr x) k (xs.drop k) ∧ Below w.heap.size w wr) (fun i _ => n - (RowKit.intOf i).toNat)
  case atStart => exact ⟨0, Nat.zero_le _, rfl, rfl, Below.refl _ _⟩
  case round =>
    obtain ⟨k, hk, rfl, heq, hb⟩ := hrel
    have HE := hide heq
    have HB := hide hb
    clear heq hb
    by_cases hlt : k < n
    · obtain ⟨b, off, x, rfl, hB, HX, A', n', c', e0, e1, e2, e3⟩ := (HIN.out.below HB.out).ent hlt
      go_wp2_with fail
      refine (formed_any _ A' n' c' x (by exact e2.below below_alloc) e3).mono ?_
      rintro e w1 ⟨rfl, hb1⟩
      have HB1 := hide (below_trans (below_trans HB.out below_alloc) hb1)
      clear hb1 e0 e1 e2
      by_cases hz : entErr x = 0
      · rw [hz]
        have HC : Hid (firstErr (fun _ x => entErr x) 0 xs = firstErr (fun _ x => entErr x) (k + 1) (xs.drop (k + 1))) := hide (by rw [HE.out, HX.out]; exact firstErr_zero hz)
        go_wp2
        go_roundw
        case rel => exact ⟨k + 1, by omega, by go_num, HC.out, HB1.out⟩
        case measure => simp [RowKit.intOf]; omega
      · have hz' : (entErr x != 0) = true := by simpa using hz
        have HC : Hid (R = (entErr x, [])) := hide (by
          have h1 : firstErr (fun _ x => entErr x) 0 xs = entErr x := by rw [HE.out, HX.out]; exact firstErr_err rfl hz
          rw [HD.out, h1, if_pos hz])
        obtain rfl := HC.out
        go_wp2
        all_goals (try (exfalso; go_light; simp_all; done))
        go_ret2
        exact ⟨⟨_, rfl, OL.nil HB1.out.size⟩, HB1.out⟩
    · have h0 : firstErr (fun _ x => entErr x) 0 xs = 0 := by rw [HE.out, drop_end HIN.out.len (by omega), firstErr]
      have HOK := hide (ents_ok.1 h0)
      have HRB : Hid (R = bagS xs) := hide (by rw [HD.out, if_neg (by simpa using h0)])
      obtain rfl := HRB.out
      clear h0
      have HI2 := hide (HIN.out.below HB.out)
      go_wp2_with fail
      refine (sum_any _ A n c xs (by exact HI2.out) hn (fun x hx => (ent_parts (HOK.out x hx)).1) (fun x hx => (ent_parts (HOK.out x hx)).2)).mono ?_
      rintro e w3 ⟨⟨v3, rfl, ho3⟩, hb3⟩
      have HO3 := hide (ho3.rebase HB.out.size)
      have HB3 := hide (below_trans HB.out hb3)
      clear ho3 hb3
      go_wp2
      go_ret2
      exact ⟨⟨_, rfl, HO3.out⟩, HB3.out⟩
/-- What Join answers. -/
def joinS (ps : List Partn) : Int × List Ent := normS (ps.flatMap Partn.rows)
theorem flat_snoc {ps : List Partn} {k : Nat} {p : Partn} {l : List Partn} (h : ps.drop k = p :: l) : (ps.take (k + 1)).flatMap Partn.rows = (ps.take k).flatMap Partn.rows ++ p.rows := by
  have h1 : ps[k]? = some p := by
    have := congrArg (·[0]?) h
    simpa using this
  rw [List.take_add_one, h1]
  simp
theorem flat_bd {ps : List Partn} (h : ∀ p ∈ ps, p.rows.length ≤ 1000) (k : Nat) : ((ps.take k).flatMap Partn.rows).length ≤ k * 1000 := by
  induction k with
  | zero => simp
  | succ k ih =>
    rw [List.take_add_one, List.flatMap_append, List.length_append]
    refine Nat.le_trans (Nat.add_le_add ih (show _ ≤ 1000 from ?_)) (by omega)
    cases h1 : ps[k]? with
    | none => exact Nat.zero_le _
    | some p => simpa using h p (List.mem_of_getElem? h1)
theorem cells_old {B : Nat} {w wr : World} {A' : Option Addr} {n' c' : Nat} {xs : List Ent} (h : In w A' n' c' xs) (hB : B = w.heap.size) (hb : Below w.heap.size w wr) : ∃ cs, Cells wr (BS B (fun _ => True) [] wr) cs xs ∧ Src wr 2 A' n' cs ∧ (A' = none → n' = 0) ∧ xs.length = n' := by
  subst hB
  obtain ⟨cs, h1, h2⟩ := h.cells
  refine ⟨cs, (h1.keep (Same.below hb)).mono fun k hk => .inl ⟨trivial, hk⟩, ⟨h2.1, fun h0 => ?_⟩, fun hA => ?_, h.1⟩
  · obtain ⟨b', o', e, hc⟩ := h2.2 h0
    refine ⟨b', o', e, fun j u hu => ?_⟩
    have hcj := hc j u hu
    exact bat hb (lt_of_cell hcj) hcj
  · have h1 := h.2.2.2.1 hA
    have h2 := h.2.1
    omega
theorem SrcAt.alloc {w : World} {o : Obj} {size n : Nat} {A : Option Addr} {cs : List Value} (h : Src w size A n cs) : Src (w.alloc o) size A n cs := ⟨h.1, fun h0 => by
  obtain ⟨b', o', e, hc⟩ := h.2 h0
  exact ⟨b', o', e, fun j u hu => bat below_alloc (lt_of_cell (hc j u hu)) (hc j u hu)⟩⟩
set_option maxHeartbeats 4000000 in
set_option maxRecDepth 100000 in
theorem join_any (w : World) (A : Option Addr) (n c : Nat) (ps : List Partn) (hx : In w A n c ps) (hn : n ≤ 1000) (hr : ∀ p ∈ ps, p.rows.length ≤ 1000) :
    Calls Tryz.prog 28 #[.slice A n c] w
      fun e w' => (∃ v, e = .returned (.tuple #[v, .int .i64 (joinS ps).1]) ∧ OE w.heap.size w' v (joinS ps).2) ∧ Below w.heap.size w w' := by
  have HBD := hide (flat_bd hr)
  have HRS := hide hr
  have HD := hide (show joinS ps = normS (ps.flatMap Partn.rows) from rfl)
  obtain ⟨R, hR⟩ : ∃ R, joinS ps = R := ⟨_, rfl⟩
  rw [hR] at HD
  rw [hR]
  clear hR hr
  have HIN := hide hx
  clear hx
  go_enter Tryz.func28, Tryz.ntmps28
  go_wp2
  go_loopw [4, 9] (fun v i wr => ∃ (k : Nat) (zs : List Ent), k ≤ n ∧ i = .int .i64 k ∧ zs = (ps.take k).flatMap Partn.rows ∧ OL 63 w.heap.size (fun _ => True) [] wr v zs ∧ Below w.heap.size w wr) (fun _ i _ => n - (RowKit.intOf i).toNat)
  case atStart => exact ⟨0, [], Nat.zero_le _, rfl, by simp, OL.nil (Nat.le_refl _), Below.refl _ _⟩
  case round =>
    obtain ⟨k, zs, hk, rfl, hzs, ho, hb⟩ := hrel
    have hzl : zs.length ≤ k * 1000 := by rw [hzs]; exact HBD.out k
    have HZ := hide hzs
    have HO := hide ho
    have HB := hide hb
    clear hzs ho hb
    by_cases hlt : k < n
    · obtain ⟨b, off, p, rfl, hB, HX, A', n', c', e0, e1, e2, e3⟩ := HIN.out.part hlt
      have e0 := bat HB.out hB e0
      have e1 := bat HB.out hB e1
      have hpl := HRS.out p (mem_of_drop HX.out)
      have hO1 := hide (HO.out.below (below_alloc (o := .cells #[.int .i64 p.day, .slice A' n' c'] 44)))
      have hB1 := hide (below_trans HB.out (below_alloc (o := .cells #[.int .i64 p.day, .slice A' n' c'] 44)))
      obtain ⟨cs, h1, h2, h3, h4⟩ := cells_old e2 rfl hB1.out
      have H1 := hide h1
      have H2 := hide h2
      have H3 := hide h3
      have H4 := hide h4
      have hn1 : n' ≤ 1000 := by omega
      have HZ2 := hide (flat_snoc HX.out)
      rw [← HZ.out] at HZ2
      clear h1 h2 h3 h4 hpl e2
      go_wp2_with (at_builtin; refine wpList_append_OL _ rfl _ _ _ rfl elem_ents (by simp) hO1.out rfl A' n' c' cs p.rows rfl H3.out H2.out H1.out H4.out (by simp only [maxLen]; omega) (by omega) ?_; intro v1 w9 ho9 hb9 hg9 hat9)
      have HO9 := hide ho9
      have HB9 := hide (hB1.out.trans hb9)
      clear ho9 hb9 hg9 hat9
      go_wp2
      go_roundw
      case rel => exact ⟨k + 1, _, by omega, by go_num, HZ2.out.symm, HO9.out, HB9.out⟩
      case measure => simp [RowKit.intOf]; omega
    · have HZ2 : Hid (zs = ps.flatMap Partn.rows) := hide (by rw [HZ.out, List.take_of_length_le (by rw [HIN.out.len]; omega)])
      have HD2 : Hid (R = normS zs) := hide (by rw [HD.out, HZ2.out])
      obtain rfl := HD2.out
      obtain ⟨A5, c5, hv, hin5⟩ := HO.out.inn
      subst hv
      have hl5 : zs.length ≤ 1048576 := by omega
      have HI5 := hide hin5
      clear hin5 hzl
      obtain ⟨m5, hm5⟩ : ∃ m5, m5 = zs.length := ⟨_, rfl⟩
      rw [← hm5] at HI5 hl5 ⊢
      clear hm5
      go_wp2_with fail
      refine (normalize_any _ A5 m5 c5 zs (by exact HI5.out) hl5).mono ?_
      rintro e w3 ⟨⟨v3, rfl, ho3⟩, hb3⟩
      have HO3 := hide (ho3.rebase HB.out.size)
      have HB3 := hide (below_trans HB.out hb3)
      clear ho3 hb3
      go_wp2
      go_ret2
      exact ⟨⟨_, rfl, HO3.out⟩, HB3.out⟩
end Go.Proofs.YtlbhnfnecfllkaaGreat
