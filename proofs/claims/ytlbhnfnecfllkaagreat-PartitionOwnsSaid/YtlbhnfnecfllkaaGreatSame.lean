/-
  warehouseref22.SameRow, SameEntries; warehouselaw22.sameParts; warehouseworld.Within.
-/
import Derived.Test.YtlbhnfnecfllkaaGreatGae
import Derived.Test.YtlbhnfnecfllkaaGreatGac
import Derived.Test.YtlbhnfnecfllkaaGreatGad
namespace Go.Proofs.YtlbhnfnecfllkaaGreat
open Go.RowKit
set_option linter.unusedSimpArgs false
set_option linter.unusedVariables false

theorem take_step {α : Type} {xs ys : List α} {k : Nat} {x : α} {l m : List α} (h : xs.take k = ys.take k) (hx : xs.drop k = x :: l) (hy : ys.drop k = x :: m) : xs.take (k + 1) = ys.take (k + 1) := by
  rw [take_snoc hx, take_snoc hy, h]
theorem take_all {α : Type} {xs ys : List α} {n : Nat} (h : xs.take n = ys.take n) (hx : xs.length = n) (hy : ys.length = n) : xs = ys := by
  rw [List.take_of_length_le (by omega), List.take_of_length_le (by omega)] at h
  exact h
theorem drop_ne {α : Type} {xs ys : List α} {k : Nat} {x y : α} {l m : List α} (hx : xs.drop k = x :: l) (hy : ys.drop k = y :: m) (hne : x ≠ y) : xs ≠ ys := fun e => by
  rw [e, hy] at hx
  injection hx with hx
  exact hne hx.symm
theorem val_eq {a b c d : Int} {s t : ByteArray} : (⟨a, c, s⟩ : Val) = ⟨b, d, t⟩ ↔ a = b ∧ c = d ∧ s = t := by
  constructor
  · intro h; injection h with h1 h2 h3; exact ⟨h1, h2, h3⟩
  · rintro ⟨rfl, rfl, rfl⟩; rfl

theorem neq_val (w : World) (a a' b b' : Int) (s s' : ByteArray) : (binOp .neq 65 (.agg #[.int .i64 a, .int .i64 b, .string s]) (.agg #[.int .i64 a', .int .i64 b', .string s'])).run Tryz.prog w = .ok (.bool (!(a == a' && b == b' && s.toList == s'.toList))) w := by
  have u1 := Tryz.underlying3
  have u2 := Tryz.underlying9
  have a1 := Tryz.isAgg3
  have a2 := Tryz.isAgg9
  have z1 := Tryz.sizeOf3
  have z2 := Tryz.sizeOf9
  have hS : Tryz.prog.underlying 65 = some (.struct (Tryz.prog.fieldsOf 65)) := by kernel_rfl
  have hp : Tryz.prog.stoodInHeld 65 = false := by kernel_rfl
  rw [run_neq_struct, show (10000 : Nat) = 9999 + 1 from rfl, run_equalIn_agg w 9999 65 _ _ hS hp]
  simp only [Program.fieldsOf, Tryz.underlying65]
  go_simp
  by_cases h1 : a = a' <;> by_cases h2 : b = b' <;> by_cases h3 : s.toList = s'.toList <;> simp [h1, h2, h3]
theorem val_beq {a a' b b' : Int} {s s' : ByteArray} : (a == a' && b == b' && s.toList == s'.toList) = true ↔ (⟨a, b, s⟩ : Val) = ⟨a', b', s'⟩ := by
  rw [val_eq, Bool.and_eq_true, Bool.and_eq_true, beq_iff_eq, beq_iff_eq, beq_iff_eq, and_assoc, ByteArray.toList_eq, ByteArray.toList_eq]
  constructor
  · rintro ⟨h1, h2, h3⟩
    refine ⟨h1, h2, ?_⟩
    obtain ⟨⟨x⟩⟩ := s
    obtain ⟨⟨y⟩⟩ := s'
    simp at h3
    rw [h3]
  · rintro ⟨rfl, rfl, rfl⟩
    exact ⟨rfl, rfl, rfl⟩
set_option maxHeartbeats 1000000 in
set_option maxRecDepth 100000 in
theorem sameRow_any (w : World) (A A2 : Option Addr) (n n2 c c2 : Nat) (xs ys : List Val) (hx : In w A n c xs) (hy : In w A2 n2 c2 ys) :
    Calls Tryz.prog 46 #[.slice A n c, .slice A2 n2 c2] w fun e w' => (∃ r, e = .returned (.bool r) ∧ (r = true ↔ xs = ys)) ∧ Below w.heap.size w w' := by
  have h63 := hx.le
  have hm : Tryz.prog.eqGuardType Tryz.prog.depth 65 = false := by kernel_rfl
  have hlx := hide hx.len
  have hly := hide hy.len
  by_cases hl : n = n2
  · subst hl
    go_enter Tryz.func46, Tryz.ntmps46
    go_wp2
    all_goals (try (exfalso; go_light; simp_all; done))
    go_loopw [5] (fun i wr => ∃ k : Nat, k ≤ n ∧ i = .int .i64 k ∧ xs.take k = ys.take k ∧ Below w.heap.size w wr) (fun i _ => n - (intOf i).toNat)
    case atStart => exact ⟨0, Nat.zero_le _, rfl, rfl, Below.refl _ _⟩
    case round =>
      obtain ⟨k, hk, rfl, heq, hb⟩ := hrel
      have HE := hide heq
      have HB := hide hb
      clear heq
      by_cases hlt : k < n
      · obtain ⟨b, off, x, rfl, hB, HX, e0, e1, e2, e3⟩ := (hx.below hb).val hlt
        obtain ⟨b', off', y, rfl, hB', HY, f0, f1, f2, f3⟩ := (hy.below hb).val hlt
        have k0 : (0 : Int) ≤ (k : Int) := by omega
        have k1 : (k : Int) < (n : Int) := by omega
        obtain ⟨xk, xn, xs'⟩ := x
        obtain ⟨yk, yn, ys'⟩ := y
        simp only at e0 e1 e2 f0 f1 f2
        have HQ := hide (val_beq (a := xk) (a' := yk) (b := xn) (b' := yn) (s := xs') (s' := ys'))
        have kq := fun W => neq_val W xk yk xn yn xs' ys'
        cases hr : (xk == yk && xn == yn && xs'.toList == ys'.toList)
        · have HN : Hid (xs ≠ ys) := hide (drop_ne HX.out HY.out fun e => by rw [HQ.out.2 e] at hr; cases hr)
          rw [hr] at kq
          clear hr HQ
          go_wp2
          go_quiet (fail)
          go_wp2
          go_ret
          exact ⟨⟨false, rfl, (fun h => by cases h), fun h => absurd h HN.out⟩, below_any HB.out⟩
        · have hv := HQ.out.1 hr
          rw [hr] at kq
          have HN : Hid (xs.take (k + 1) = ys.take (k + 1)) := hide (take_step HE.out HX.out (by rw [hv]; exact HY.out))
          clear hr HQ hv
          go_wp2
          go_quiet (fail)
          go_wp2
          go_roundw
          case rel => exact ⟨k + 1, by omega, by go_num, HN.out, below_any HB.out⟩
          case measure => simp [intOf]; omega
      · have HN := hide (take_all (n := k) HE.out (by rw [hlx.out]; omega) (by rw [hly.out]; omega))
        go_wp2
        go_ret
        exact ⟨⟨true, rfl, fun _ => HN.out, fun _ => rfl⟩, HB.out⟩
  · have HN : Hid (xs ≠ ys) := hide fun e => hl (by rw [← hlx.out, ← hly.out, e])
    have q : ((n : Int) != (n2 : Int)) = true := by simp; omega
    clear hl
    go_enter Tryz.func46, Tryz.ntmps46
    go_wp2
    all_goals (try (exfalso; go_light; simp_all; done))
    go_ret
    exact ⟨⟨false, rfl, (fun h => by cases h), fun h => absurd h HN.out⟩, Below.refl _ _⟩

theorem ent_eq {r r' : List Val} {a b : Int} : (⟨r, a⟩ : Ent) = ⟨r', b⟩ ↔ r = r' ∧ a = b := by
  constructor
  · intro h; injection h with h1 h2; exact ⟨h1, h2⟩
  · rintro ⟨rfl, rfl⟩; rfl
set_option maxHeartbeats 2000000 in
set_option maxRecDepth 100000 in
theorem sameEnts_any (w : World) (A A2 : Option Addr) (n n2 c c2 : Nat) (xs ys : List Ent) (hx : In w A n c xs) (hy : In w A2 n2 c2 ys) :
    Calls Tryz.prog 18 #[.slice A n c, .slice A2 n2 c2] w fun e w' => (∃ r, e = .returned (.bool r) ∧ (r = true ↔ xs = ys)) ∧ Below w.heap.size w w' := by
  have h63 := hx.le
  have hlx := hide hx.len
  have hly := hide hy.len
  by_cases hl : n = n2
  · subst hl
    go_enter Tryz.func18, Tryz.ntmps18
    go_wp2
    all_goals (try (exfalso; go_light; simp_all; done))
    go_loopw [5] (fun i wr => ∃ k : Nat, k ≤ n ∧ i = .int .i64 k ∧ xs.take k = ys.take k ∧ Below w.heap.size w wr) (fun i _ => n - (intOf i).toNat)
    case atStart => exact ⟨0, Nat.zero_le _, rfl, rfl, Below.refl _ _⟩
    case round =>
      obtain ⟨k, hk, rfl, heq, hb⟩ := hrel
      have HE := hide heq
      have HB := hide hb
      clear heq
      by_cases hlt : k < n
      · obtain ⟨b, off, x, rfl, hB, HX, A3, n3, c3, e0, e1, e2, e3⟩ := (hx.below hb).ent hlt
        obtain ⟨b', off', y, rfl, hB', HY, A4, n4, c4, f0, f1, f2, f3⟩ := (hy.below hb).ent hlt
        have k0 : (0 : Int) ≤ (k : Int) := by omega
        have k1 : (k : Int) < (n : Int) := by omega
        have E0 := hide e0
        have E1 := hide e1
        have F0 := hide f0
        have F1 := hide f1
        have HBb := hide hB
        have HBc := hide hB'
        obtain ⟨xr, xc⟩ := x
        obtain ⟨yr, yc⟩ := y
        simp only at e1 f1 e2 f2
        by_cases hcc : xc = yc
        · have q : (xc != yc) = false := by simp [hcc]
          have HCC := hide hcc
          clear hcc
          go_wp2
          go_region_held3 (fun V => V.cell? ⟨b, off + k * 2, none⟩ = some (.slice A3 n3 c3) ∧ V.cell? ⟨b, off + k * 2 + 1, none⟩ = some (.int .i64 xc) ∧ V.cell? ⟨b', off' + k * 2, none⟩ = some (.slice A4 n4 c4) ∧ V.cell? ⟨b', off' + k * 2 + 1, none⟩ = some (.int .i64 yc))
            (first | exact ⟨e0, e1, f0, f1⟩ | exact ⟨bat HB2.out HBb.out E0.out, bat HB2.out HBb.out E1.out, bat HB2.out HBc.out F0.out, bat HB2.out HBc.out F1.out⟩)
            (first | (go_at_call 46; refine (sameRow_any _ A3 A4 n3 n4 c3 c4 xr yr (by exact e2.below (Below.refl _ _).drew) (by exact f2.below (Below.refl _ _).drew)).mono ?_; rintro e w2 ⟨⟨r, rfl, hr⟩, hb2⟩; have HR := hide hr; have HB2 := hide (below_undrew hb2); clear hb2 hr))
          have HBX := hide (below_trans HB.out HB2.out)
          cases r
          · have HN : Hid (xs ≠ ys) := hide (drop_ne HX.out HY.out fun e => by have := HR.out.2 (ent_eq.1 e).1; cases this)
            go_wp2
            all_goals (try (exfalso; go_light; simp_all; done))
            go_ret
            exact ⟨⟨false, rfl, (fun h => by cases h), fun h => absurd h HN.out⟩, HBX.out⟩
          · have HN : Hid (xs.take (k + 1) = ys.take (k + 1)) := hide (take_step HE.out HX.out (by rw [ent_eq.2 ⟨HR.out.1 rfl, HCC.out⟩]; exact HY.out))
            go_wp2
            all_goals (try (exfalso; go_light; simp_all; done))
            go_roundw
            case rel => exact ⟨k + 1, by omega, by go_num, HN.out, HBX.out⟩
            case measure => simp [intOf]; omega
        · have HN : Hid (xs ≠ ys) := hide (drop_ne HX.out HY.out fun e => hcc (ent_eq.1 e).2)
          have q : (xc != yc) = true := by simpa using hcc
          clear hcc
          go_wp2
          go_quiet (fail)
          go_wp2
          all_goals (try (exfalso; go_light; simp_all; done))
          go_ret
          exact ⟨⟨false, rfl, (fun h => by cases h), fun h => absurd h HN.out⟩, below_any HB.out⟩
      · have HN := hide (take_all (n := k) HE.out (by rw [hlx.out]; omega) (by rw [hly.out]; omega))
        go_wp2
        go_ret
        exact ⟨⟨true, rfl, fun _ => HN.out, fun _ => rfl⟩, HB.out⟩
  · have HN : Hid (xs ≠ ys) := hide fun e => hl (by rw [← hlx.out, ← hly.out, e])
    have q : ((n : Int) != (n2 : Int)) = true := by simp; omega
    clear hl
    go_enter Tryz.func18, Tryz.ntmps18
    go_wp2
    all_goals (try (exfalso; go_light; simp_all; done))
    go_ret
    exact ⟨⟨false, rfl, (fun h => by cases h), fun h => absurd h HN.out⟩, Below.refl _ _⟩
theorem part_eq {r r' : List Ent} {a b : Int} : (⟨a, r⟩ : Partn) = ⟨b, r'⟩ ↔ r = r' ∧ a = b := by
  constructor
  · intro h; injection h with h1 h2; exact ⟨h2, h1⟩
  · rintro ⟨rfl, rfl⟩; rfl
set_option maxHeartbeats 2000000 in
set_option maxRecDepth 100000 in
theorem sameParts_any (w : World) (A A2 : Option Addr) (n n2 c c2 : Nat) (xs ys : List Partn) (hx : In w A n c xs) (hy : In w A2 n2 c2 ys) :
    Calls Tryz.prog 15 #[.slice A n c, .slice A2 n2 c2] w fun e w' => (∃ r, e = .returned (.bool r) ∧ (r = true ↔ xs = ys)) ∧ Below w.heap.size w w' := by
  have h63 := hx.le
  have hlx := hide hx.len
  have hly := hide hy.len
  by_cases hl : n = n2
  · subst hl
    go_enter Tryz.func15, Tryz.ntmps15
    go_wp2
    all_goals (try (exfalso; go_light; simp_all; done))
    go_loopw [5] (fun i wr => ∃ k : Nat, k ≤ n ∧ i = .int .i64 k ∧ xs.take k = ys.take k ∧ Below w.heap.size w wr) (fun i _ => n - (intOf i).toNat)
    case atStart => exact ⟨0, Nat.zero_le _, rfl, rfl, Below.refl _ _⟩
    case round =>
      obtain ⟨k, hk, rfl, heq, hb⟩ := hrel
      have HE := hide heq
      have HB := hide hb
      clear heq
      by_cases hlt : k < n
      · obtain ⟨b, off, x, rfl, hB, HX, A3, n3, c3, e0, e1, e2, e3⟩ := (hx.below hb).part hlt
        obtain ⟨b', off', y, rfl, hB', HY, A4, n4, c4, f0, f1, f2, f3⟩ := (hy.below hb).part hlt
        have k0 : (0 : Int) ≤ (k : Int) := by omega
        have k1 : (k : Int) < (n : Int) := by omega
        have E0 := hide e0
        have E1 := hide e1
        have F0 := hide f0
        have F1 := hide f1
        have HBb := hide hB
        have HBc := hide hB'
        obtain ⟨xc, xr⟩ := x
        obtain ⟨yc, yr⟩ := y
        simp only at e0 f0 e2 f2
        by_cases hcc : xc = yc
        · have q : (xc != yc) = false := by simp [hcc]
          have HCC := hide hcc
          clear hcc
          go_wp2
          go_region_held3 (fun V => V.cell? ⟨b, off + k * 2, none⟩ = some (.int .i64 xc) ∧ V.cell? ⟨b, off + k * 2 + 1, none⟩ = some (.slice A3 n3 c3) ∧ V.cell? ⟨b', off' + k * 2, none⟩ = some (.int .i64 yc) ∧ V.cell? ⟨b', off' + k * 2 + 1, none⟩ = some (.slice A4 n4 c4))
            (first | exact ⟨e0, e1, f0, f1⟩ | exact ⟨bat HB2.out HBb.out E0.out, bat HB2.out HBb.out E1.out, bat HB2.out HBc.out F0.out, bat HB2.out HBc.out F1.out⟩)
            (first | (go_at_call 18; refine (sameEnts_any _ A3 A4 n3 n4 c3 c4 xr yr (by exact e2.below (Below.refl _ _).drew) (by exact f2.below (Below.refl _ _).drew)).mono ?_; rintro e w2 ⟨⟨r, rfl, hr⟩, hb2⟩; have HR := hide hr; have HB2 := hide (below_undrew hb2); clear hb2 hr))
          have HBX := hide (below_trans HB.out HB2.out)
          cases r
          · have HN : Hid (xs ≠ ys) := hide (drop_ne HX.out HY.out fun e => by have := HR.out.2 (part_eq.1 e).1; cases this)
            go_wp2
            all_goals (try (exfalso; go_light; simp_all; done))
            go_ret
            exact ⟨⟨false, rfl, (fun h => by cases h), fun h => absurd h HN.out⟩, HBX.out⟩
          · have HN : Hid (xs.take (k + 1) = ys.take (k + 1)) := hide (take_step HE.out HX.out (by rw [part_eq.2 ⟨HR.out.1 rfl, HCC.out⟩]; exact HY.out))
            go_wp2
            all_goals (try (exfalso; go_light; simp_all; done))
            go_roundw
            case rel => exact ⟨k + 1, by omega, by go_num, HN.out, HBX.out⟩
            case measure => simp [intOf]; omega
        · have HN : Hid (xs ≠ ys) := hide (drop_ne HX.out HY.out fun e => hcc (part_eq.1 e).2)
          have q : (xc != yc) = true := by simpa using hcc
          clear hcc
          go_wp2
          go_quiet (fail)
          go_wp2
          all_goals (try (exfalso; go_light; simp_all; done))
          go_ret
          exact ⟨⟨false, rfl, (fun h => by cases h), fun h => absurd h HN.out⟩, below_any HB.out⟩
      · have HN := hide (take_all (n := k) HE.out (by rw [hlx.out]; omega) (by rw [hly.out]; omega))
        go_wp2
        go_ret
        exact ⟨⟨true, rfl, fun _ => HN.out, fun _ => rfl⟩, HB.out⟩
  · have HN : Hid (xs ≠ ys) := hide fun e => hl (by rw [← hlx.out, ← hly.out, e])
    have q : ((n : Int) != (n2 : Int)) = true := by simp; omega
    clear hl
    go_enter Tryz.func15, Tryz.ntmps15
    go_wp2
    all_goals (try (exfalso; go_light; simp_all; done))
    go_ret
    exact ⟨⟨false, rfl, (fun h => by cases h), fun h => absurd h HN.out⟩, Below.refl _ _⟩
end Go.Proofs.YtlbhnfnecfllkaaGreat
