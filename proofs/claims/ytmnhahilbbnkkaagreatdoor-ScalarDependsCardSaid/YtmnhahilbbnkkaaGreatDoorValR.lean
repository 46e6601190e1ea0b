/-
  warehouseref9.Value: it returns valLoop. (Printed by gen_valR.py.)
-/
import Derived.Test.YtmnhahilbbnkkaaGreatDoorVal9
import Derived.Test.YtmnhahilbbnkkaaGreatDoorTypR
import Derived.Test.YtmnhahilbbnkkaaGreatDoorEvA
namespace Go.Proofs.YtmnhahilbbnkkaaGreatDoor
open Go.RowKit
set_option linter.unusedSimpArgs false
set_option linter.unusedVariables false

/-- The cells of a node. -/
theorem set_far3 {w : World} {b o g : Nat} {u v0 v1 v2 : Value} (h : w.cell? ⟨b, o, none⟩ = some u) (hne : b ≠ g) : (((w.setCell ⟨g, 0, none⟩ v0).setCell ⟨g, 1, none⟩ v1).setCell ⟨g, 2, none⟩ v2).cell? ⟨b, o, none⟩ = some u :=
  set_far (set_far (set_far h (.inl hne)) (.inl hne)) (.inl hne)
set_option maxHeartbeats 40000000 in
set_option maxRecDepth 100000 in
theorem valL_ref (w : World) (A : Option Addr) (n c : Nat) (es : List Node) (hx : In w A n c es) (A1 : Option Addr) (n1 c1 : Nat) (cols : List Col) (hc : In w A1 n1 c1 cols)
    (A3 : Option Addr) (n3 c3 : Nat) (row : List Val) (hr : In w A3 n3 c3 row) (A2 : Option Addr) (n2 c2 : Nat) (zs : List Zone) (hz : In w A2 n2 c2 zs) (ht : (typeS es cols zs).1 = 0) (hro : rowErr cols row = 0) :
    Calls Tryz.prog 50 #[.slice A n c, .slice A1 n1 c1, .slice A3 n3 c3, .slice A2 n2 c2] w fun e w' => e = .returned (.agg (valLoop cols row zs [] es).cells.toArray) ∧ Below w.heap.size w w' := by
  have h63 := hx.le
  have hnn : n3 = n1 := by have := row_len hro; rw [hc.len, hr.len] at this; exact this
  subst hnn
  have HS := hide (Run.short (row := row) (es := es) (cols := cols) (zs := zs) ht)
  have HRUN := hide (Run.start (row := row) (es := es) (cols := cols) (zs := zs) ht)
  have hn256 : n ≤ 256 := by have := HS.out.1; rw [hx.len] at this; exact this
  have HRO := hide hro
  clear ht hro
  obtain ⟨i0, hi, hy0, hy1, hy2⟩ := info_parts val_info
  go_enter Tryz.func50, Tryz.ntmps50
  go_wp2
  go_loopw [9, 10] (fun v i wr => ∃ (k d : Nat) (hs : List Int) (ks : List Kd) (st : List Val) (B : Option Addr) (cb : Nat), k ≤ n ∧ d ≤ k ∧ i = .int .i64 k ∧ v = .slice B d cb ∧ Run cols row zs es k d hs ks st ∧ VSt 41 w wr st d B cb ∧ Zr wr w.heap.size) (fun _ i _ => n - (intOf i).toNat)
  case atStart => exact ⟨0, 0, [], [], [], none, 0, Nat.zero_le _, Nat.zero_le _, rfl, rfl, HRUN.out, ⟨Stk.nil_ _ _ _, rfl, below_alloc⟩, Zr.made w _⟩
  case round =>
    obtain ⟨k, d, hs, ks, st, B, cb, hk, hdk, rfl, rfl, hrun, hst, hzr⟩ := hrel
    have HR := hide hrun
    have HST := hide hst
    have Z := hide hzr
    clear hrun hst hzr
    by_cases hlt : k < n
    · obtain ⟨b, off, x, rfl, hB, HX, f0, f1, f2, f3, f4, f5, hok⟩ := (hx.below HST.out.below).node hlt
      obtain ⟨m, r, hs', ks', rfl, hsp, hrun2⟩ := HR.out.step HS.out.2 HRO.out HX.out
      have SP := hide hsp
      have HR2 := hide hrun2
      have hm8 : m ≤ 8 := hsp.m8
      have HIX : Hid (x.op = 1 → 0 ≤ index cols x.name ∧ index cols x.name < n3) := hide (fun h1 => by have h := SP.out.col h1; rw [hc.len] at h; exact h.2)
      clear hsp hrun2 hok
      go_wp2_with fail
      refine (arity_ref x _).mono ?_
      rintro e w2 ⟨rfl, hb2⟩
      rw [SP.out.ar]
      have f0 := bat hb2 hB f0
      have f1 := bat hb2 hB f1
      have f2 := bat hb2 hB f2
      have f3 := bat hb2 hB f3
      have f4 := bat hb2 hB f4
      have f5 := bat hb2 hB f5
      have hB2 := Nat.lt_of_lt_of_le hB hb2.size
      have HST2 := hide (HST.out.keep hb2)
      have Z2 := hide (Z.out.below hb2)
      clear hb2
      have hc2 := hc.below HST2.out.below
      have hr2 := hr.below HST2.out.below
      have hz2 := hz.below HST2.out.below
      have r0 : (0 : Int) ≤ (r : Int) := by omega
      have r2 : (r : Int) ≤ (r : Int) + (m : Int) := by omega
      obtain ⟨⟨kk, kn, ku⟩, hnk⟩ : ∃ q, nodeV cols row zs x (st.drop r) = q := ⟨_, rfl⟩
      have HNK := hide hnk
      have HKI : Hid (Flat.ok (α := Val) ⟨kk, kn, ku⟩) := hide (by have h := valid_ok SP.out.new; rw [HNK.out] at h; exact h)
      clear hnk
      rcases ops_of HST2.out.stk HST2.out.len with ⟨rfl, hm0⟩ | ⟨hcb, g, rfl, hin⟩
      · have hVB : Below w2.heap.size w2 (w2.alloc (.cells #[.int .i64 0, .int .i64 0, .string ⟨#[]⟩] 41)).drew := ((Below.refl _ _).alloc (Nat.le_refl _) _).drew
        have HIN : Hid (In (w2.alloc (.cells #[.int .i64 0, .int .i64 0, .string ⟨#[]⟩] 41)).drew B m 0 (st.drop r)) := hide (by rw [List.drop_eq_nil_of_le (by rw [HST.out.len]; omega), hm0]; exact Sl.empty (by omega) (fun _ => rfl))
        have HIN2 : Hid (In w2.drew B m 0 (st.drop r)) := hide (by rw [List.drop_eq_nil_of_le (by rw [HST.out.len]; omega), hm0]; exact Sl.empty (by omega) (fun _ => rfl))
        clear hm0
        have hGv : w2.heap.size < (w2.alloc (.cells #[.int .i64 0, .int .i64 0, .string ⟨#[]⟩] 41)).drew.heap.size := by simp
        have hBv : b < (w2.alloc (.cells #[.int .i64 0, .int .i64 0, .string ⟨#[]⟩] 41)).drew.heap.size := by simp; omega
        have hbg : b ≠ w2.heap.size := by omega
        have Zv : Hid (Zr (w2.alloc (.cells #[.int .i64 0, .int .i64 0, .string ⟨#[]⟩] 41)).drew w2.heap.size) := hide (Zr.drew (Zr.made w2 _))
        obtain ⟨u0, u1, u2, F0, F1, F2, _⟩ := Zv.out
        have d0 := bat hVB hB2 f0
        have d1 := bat hVB hB2 f1
        have d2 := bat hVB hB2 f2
        have d3 := bat hVB hB2 f3
        have d4 := bat hVB hB2 f4
        have d5 := bat hVB hB2 f5
        go_wp2
        go_region_held3 (fun V => V.cell? ⟨b, off + k * 6, none⟩ = some (.int .i64 x.op) ∧ V.cell? ⟨b, off + k * 6 + 1, none⟩ = some (.int .i64 x.value.kind) ∧ V.cell? ⟨b, off + k * 6 + 2, none⟩ = some (.int .i64 x.value.num) ∧ V.cell? ⟨b, off + k * 6 + 3, none⟩ = some (.string x.value.str) ∧ V.cell? ⟨b, off + k * 6 + 4, none⟩ = some (.string x.name) ∧ V.cell? ⟨b, off + k * 6 + 5, none⟩ = some (.int .i64 x.arity)) (first | exact ⟨f0, f1, f2, f3, f4, f5⟩ | exact ⟨f0', f1', f2', f3', f4', f5'⟩ | exact ⟨d0, d1, d2, d3, d4, d5⟩ | exact ⟨set_far3 f0' hbg, set_far3 f1' hbg, set_far3 f2' hbg, set_far3 f3' hbg, set_far3 f4' hbg, set_far3 f5' hbg⟩ | exact ⟨bat (b := b) (below_alloc (w := w5)) hB5 f0', bat (b := b) (below_alloc (w := w5)) hB5 f1', bat (b := b) (below_alloc (w := w5)) hB5 f2', bat (b := b) (below_alloc (w := w5)) hB5 f3', bat (b := b) (below_alloc (w := w5)) hB5 f4', bat (b := b) (below_alloc (w := w5)) hB5 f5'⟩ | exact ⟨set_far3 (bat (b := b) (below_alloc (w := w5)) hB5 f0') hb5n, set_far3 (bat (b := b) (below_alloc (w := w5)) hB5 f1') hb5n, set_far3 (bat (b := b) (below_alloc (w := w5)) hB5 f2') hb5n, set_far3 (bat (b := b) (below_alloc (w := w5)) hB5 f3') hb5n, set_far3 (bat (b := b) (below_alloc (w := w5)) hB5 f4') hb5n, set_far3 (bat (b := b) (below_alloc (w := w5)) hB5 f5') hb5n⟩) (first | (go_at_call 83; refine (value_ref zs x SP.out.sh SP.out.n21 m SP.out.ar _ _ _ (st.drop r) HIN.out SP.out.val _ _ _ cols (hc2.below hVB) _ _ _ row (hr2.below hVB) HIX.out _ _ _ (hz2.below hVB)).mono ?_; rintro e w5 ⟨rfl, hb5⟩; rw [HNK.out]; simp only [Val.cells]; have hQ : Hid (w2.heap.size = w2.heap.size) := hide rfl; have f0' := bat hb5 hBv d0; have f1' := bat hb5 hBv d1; have f2' := bat hb5 hBv d2; have f3' := bat hb5 hBv d3; have f4' := bat hb5 hBv d4; have f5' := bat hb5 hBv d5; have u0' := bat hb5 hGv u0; have u1' := bat hb5 hGv u1; have u2' := bat hb5 hGv u2; have F0' := ((bcell hb5).2 _ _ hGv).trans F0; have F1' := ((bcell hb5).2 _ _ hGv).trans F1; have F2' := ((bcell hb5).2 _ _ hGv).trans F2; have HB5 : Below w2.heap.size w2 w5 := hVB.trans (hb5.mono hVB.size); have hB5 : b < w5.heap.size := Nat.lt_of_lt_of_le hB2 HB5.size; have hb5n : b ≠ w5.heap.size := (by omega); clear hb5 u0 u1 u2 F0 F1 F2) | (go_at_call 83; refine (value_ref zs x SP.out.sh SP.out.n21 m SP.out.ar _ _ _ (st.drop r) HIN2.out SP.out.val _ _ _ cols (hc2.below (Below.refl _ _).drew) _ _ _ row (hr2.below (Below.refl _ _).drew) HIX.out _ _ _ (hz2.below (Below.refl _ _).drew)).mono ?_; rintro e w5 ⟨rfl, hb5⟩; rw [HNK.out]; simp only [Val.cells]; have f0' := bat (below_undrew hb5) hB2 f0; have f1' := bat (below_undrew hb5) hB2 f1; have f2' := bat (below_undrew hb5) hB2 f2; have f3' := bat (below_undrew hb5) hB2 f3; have f4' := bat (below_undrew hb5) hB2 f4; have f5' := bat (below_undrew hb5) hB2 f5; have HB5 : Below w2.heap.size w2 w5 := below_undrew hb5; have hB5 : b < w5.heap.size := Nat.lt_of_lt_of_le hB2 HB5.size; have hb5n : b ≠ w5.heap.size := (by omega); clear hb5 u0 u1 u2 F0 F1 F2))
        · obtain ⟨w4, hw4⟩ : ∃ w4, w4 = w5.alloc (.cells #[.int .i64 kk, .int .i64 kn, .string ku] 41) := ⟨_, rfl⟩
          have hx4 : Below w2.heap.size w2 w4 := by rw [hw4]; exact HB5.alloc HB5.size _
          have u0 : w4.cell? ⟨w5.heap.size, 0, none⟩ = some (.int .i64 kk) := by rw [hw4]; simp [go_sem]
          have u1 : w4.cell? ⟨w5.heap.size, 1, none⟩ = some (.int .i64 kn) := by rw [hw4]; simp [go_sem]
          have u2 : w4.cell? ⟨w5.heap.size, 2, none⟩ = some (.string ku) := by rw [hw4]; simp [go_sem]
          rw [← hw4]
          obtain ⟨G, hG⟩ : ∃ G, w5.heap.size = G := ⟨_, rfl⟩
          rw [hG] at u0 u1 u2
          rw [hG]
          clear hw4 hG f0 f1 f2 f3 f4 f5 f0' f1' f2' f3' f4' f5' d0 d1 d2 d3 d4 d5 HIN HIN2 HB5 hVB hGv hBv hB5 hb5n
          have HSTW := hide (HST2.out.keep hx4)
          have ZW := hide (Z2.out.below hx4)
          have HLE : Hid (r ≤ st.length) := hide (by rw [HST.out.len]; omega)
          have hszW : w.heap.size ≤ w4.heap.size := HSTW.out.below.size
          have hG4 : G < w4.heap.size := lt_of_cell u0
          have r1 : (r : Int) ≤ (r : Int) := by have h1 := HST.out.stk.cap.1; have h2 := HST.out.len; omega
          clear hx4
          go_wp2
          go_region_held3 (fun V => V.cell? ⟨G, 0, none⟩ = some (.int .i64 kk) ∧ V.cell? ⟨G, 1, none⟩ = some (.int .i64 kn) ∧ V.cell? ⟨G, 2, none⟩ = some (.string ku)) (first | exact ⟨u0, u1, u2⟩ | exact ⟨bat ((Below.refl _ _).drew.alloc (Nat.le_refl _) _) hG4 u0, bat ((Below.refl _ _).drew.alloc (Nat.le_refl _) _) hG4 u1, bat ((Below.refl _ _).drew.alloc (Nat.le_refl _) _) hG4 u2⟩ | exact ⟨bat hb7 hG7 (bat ((Below.refl _ _).drew.alloc (Nat.le_refl _) _) hG4 u0), bat hb7 hG7 (bat ((Below.refl _ _).drew.alloc (Nat.le_refl _) _) hG4 u1), bat hb7 hG7 (bat ((Below.refl _ _).drew.alloc (Nat.le_refl _) _) hG4 u2)⟩) (first | (refine step_pushN (α := Val) _ rfl (.tmp 41) (.tmp 43) 33 rfl w.heap.size 41 i0 _ 32 Tryz.underlying33 hi hy0 hy1 hy2 rfl (by decide) B r r st (HSTW.out.stk.keep ((Below.refl _ _).drew.alloc (Nat.le_refl _) _)) HLE.out rfl ⟨kk, kn, ku⟩ HKI.out w4.heap.size rfl (oneAt_new _ _ _ _ rfl) (by omega) (by simp; omega) ?_; intro A' c' w7 hst7 hb7; have hG7 : G < (World.alloc w4.drew (.cells #[.int .i64 kk, .int .i64 kn, .string ku] 41)).heap.size := (by simp; omega); have HP : Hid (VSt 41 w w7 (st.take r ++ [⟨kk, kn, ku⟩]) (r + 1) A' c') := hide ⟨hst7, (by rw [List.length_append, List.length_take, Nat.min_eq_left HLE.out]; rfl), (HSTW.out.below.drew.alloc (by simp; omega) _).trans (hb7.mono (by simp; omega))⟩; have HZ7 : Hid (Zr w7 w.heap.size) := hide ((ZW.out.drew.below below_alloc).below hb7)))
          go_wp2
          go_roundw
          case rel => exact ⟨k + 1, r + 1, hs', ks', _, A', c', by omega, by omega, by go_num, rfl, by rw [← HNK.out]; exact HR2.out, HP.out, HZ7.out⟩
          case measure => simp [intOf]; omega
        · obtain ⟨w4, hw4⟩ : ∃ w4, w4 = ((w5.setCell ⟨w2.heap.size, 0, none⟩ (.int .i64 kk)).setCell ⟨w2.heap.size, 1, none⟩ (.int .i64 kn)).setCell ⟨w2.heap.size, 2, none⟩ (.string ku) := ⟨_, rfl⟩
          have hx4 : Below w2.heap.size w2 w4 := by rw [hw4]; exact below_set3 HB5 (Nat.le_refl _) _ _ _
          have hS := set_three (v0 := .int .i64 kk) (v1 := .int .i64 kn) (v2 := .string ku) u0' u1' u2'
          rw [← hw4] at hS
          have u0 := hS 0 _ rfl
          have u1 := hS 1 _ rfl
          have u2 := hS 2 _ rfl
          rw [← hw4]
          obtain ⟨G, hG⟩ : ∃ G, w2.heap.size = G := ⟨_, rfl⟩
          rw [hG] at u0 u1 u2
          rw [hG]
          clear hS u0' u1' u2' F0' F1' F2'
          clear hw4 hG f0 f1 f2 f3 f4 f5 f0' f1' f2' f3' f4' f5' d0 d1 d2 d3 d4 d5 HIN HIN2 HB5 hVB hGv hBv hB5 hb5n
          have HSTW := hide (HST2.out.keep hx4)
          have ZW := hide (Z2.out.below hx4)
          have HLE : Hid (r ≤ st.length) := hide (by rw [HST.out.len]; omega)
          have hszW : w.heap.size ≤ w4.heap.size := HSTW.out.below.size
          have hG4 : G < w4.heap.size := lt_of_cell u0
          have r1 : (r : Int) ≤ (r : Int) := by have h1 := HST.out.stk.cap.1; have h2 := HST.out.len; omega
          clear hx4
          go_wp2
          go_region_held3 (fun V => V.cell? ⟨G, 0, none⟩ = some (.int .i64 kk) ∧ V.cell? ⟨G, 1, none⟩ = some (.int .i64 kn) ∧ V.cell? ⟨G, 2, none⟩ = some (.string ku)) (first | exact ⟨u0, u1, u2⟩ | exact ⟨bat ((Below.refl _ _).drew.alloc (Nat.le_refl _) _) hG4 u0, bat ((Below.refl _ _).drew.alloc (Nat.le_refl _) _) hG4 u1, bat ((Below.refl _ _).drew.alloc (Nat.le_refl _) _) hG4 u2⟩ | exact ⟨bat hb7 hG7 (bat ((Below.refl _ _).drew.alloc (Nat.le_refl _) _) hG4 u0), bat hb7 hG7 (bat ((Below.refl _ _).drew.alloc (Nat.le_refl _) _) hG4 u1), bat hb7 hG7 (bat ((Below.refl _ _).drew.alloc (Nat.le_refl _) _) hG4 u2)⟩) (first | (refine step_pushN (α := Val) _ rfl (.tmp 41) (.tmp 43) 33 rfl w.heap.size 41 i0 _ 32 Tryz.underlying33 hi hy0 hy1 hy2 rfl (by decide) B r r st (HSTW.out.stk.keep ((Below.refl _ _).drew.alloc (Nat.le_refl _) _)) HLE.out rfl ⟨kk, kn, ku⟩ HKI.out w4.heap.size rfl (oneAt_new _ _ _ _ rfl) (by omega) (by simp; omega) ?_; intro A' c' w7 hst7 hb7; have hG7 : G < (World.alloc w4.drew (.cells #[.int .i64 kk, .int .i64 kn, .string ku] 41)).heap.size := (by simp; omega); have HP : Hid (VSt 41 w w7 (st.take r ++ [⟨kk, kn, ku⟩]) (r + 1) A' c') := hide ⟨hst7, (by rw [List.length_append, List.length_take, Nat.min_eq_left HLE.out]; rfl), (HSTW.out.below.drew.alloc (by simp; omega) _).trans (hb7.mono (by simp; omega))⟩; have HZ7 : Hid (Zr w7 w.heap.size) := hide ((ZW.out.drew.below below_alloc).below hb7)))
          go_wp2
          go_roundw
          case rel => exact ⟨k + 1, r + 1, hs', ks', _, A', c', by omega, by omega, by go_num, rfl, by rw [← HNK.out]; exact HR2.out, HP.out, HZ7.out⟩
          case measure => simp [intOf]; omega
      · have hVB : Below w2.heap.size w2 (w2.alloc (.cells #[.int .i64 0, .int .i64 0, .string ⟨#[]⟩] 41)).drew := ((Below.refl _ _).alloc (Nat.le_refl _) _).drew
        have HIN : Hid (In (w2.alloc (.cells #[.int .i64 0, .int .i64 0, .string ⟨#[]⟩] 41)).drew (some ⟨g, r * 3, none⟩) m (cb - r) (st.drop r)) := hide (hin.below hVB)
        have HIN2 : Hid (In w2.drew (some ⟨g, r * 3, none⟩) m (cb - r) (st.drop r)) := hide (hin.below (Below.refl _ _).drew)
        clear hin
        have hGv : w2.heap.size < (w2.alloc (.cells #[.int .i64 0, .int .i64 0, .string ⟨#[]⟩] 41)).drew.heap.size := by simp
        have hBv : b < (w2.alloc (.cells #[.int .i64 0, .int .i64 0, .string ⟨#[]⟩] 41)).drew.heap.size := by simp; omega
        have hbg : b ≠ w2.heap.size := by omega
        have Zv : Hid (Zr (w2.alloc (.cells #[.int .i64 0, .int .i64 0, .string ⟨#[]⟩] 41)).drew w2.heap.size) := hide (Zr.drew (Zr.made w2 _))
        obtain ⟨u0, u1, u2, F0, F1, F2, _⟩ := Zv.out
        have d0 := bat hVB hB2 f0
        have d1 := bat hVB hB2 f1
        have d2 := bat hVB hB2 f2
        have d3 := bat hVB hB2 f3
        have d4 := bat hVB hB2 f4
        have d5 := bat hVB hB2 f5
        go_wp2
        go_region_held3 (fun V => V.cell? ⟨b, off + k * 6, none⟩ = some (.int .i64 x.op) ∧ V.cell? ⟨b, off + k * 6 + 1, none⟩ = some (.int .i64 x.value.kind) ∧ V.cell? ⟨b, off + k * 6 + 2, none⟩ = some (.int .i64 x.value.num) ∧ V.cell? ⟨b, off + k * 6 + 3, none⟩ = some (.string x.value.str) ∧ V.cell? ⟨b, off + k * 6 + 4, none⟩ = some (.string x.name) ∧ V.cell? ⟨b, off + k * 6 + 5, none⟩ = some (.int .i64 x.arity)) (first | exact ⟨f0, f1, f2, f3, f4, f5⟩ | exact ⟨f0', f1', f2', f3', f4', f5'⟩ | exact ⟨d0, d1, d2, d3, d4, d5⟩ | exact ⟨set_far3 f0' hbg, set_far3 f1' hbg, set_far3 f2' hbg, set_far3 f3' hbg, set_far3 f4' hbg, set_far3 f5' hbg⟩ | exact ⟨bat (b := b) (below_alloc (w := w5)) hB5 f0', bat (b := b) (below_alloc (w := w5)) hB5 f1', bat (b := b) (below_alloc (w := w5)) hB5 f2', bat (b := b) (below_alloc (w := w5)) hB5 f3', bat (b := b) (below_alloc (w := w5)) hB5 f4', bat (b := b) (below_alloc (w := w5)) hB5 f5'⟩ | exact ⟨set_far3 (bat (b := b) (below_alloc (w := w5)) hB5 f0') hb5n, set_far3 (bat (b := b) (below_alloc (w := w5)) hB5 f1') hb5n, set_far3 (bat (b := b) (below_alloc (w := w5)) hB5 f2') hb5n, set_far3 (bat (b := b) (below_alloc (w := w5)) hB5 f3') hb5n, set_far3 (bat (b := b) (below_alloc (w := w5)) hB5 f4') hb5n, set_far3 (bat (b := b) (below_alloc (w := w5)) hB5 f5') hb5n⟩) (first | (go_at_call 83; refine (value_ref zs x SP.out.sh SP.out.n21 m SP.out.ar _ _ _ (st.drop r) HIN.out SP.out.val _ _ _ cols (hc2.below hVB) _ _ _ row (hr2.below hVB) HIX.out _ _ _ (hz2.below hVB)).mono ?_; rintro e w5 ⟨rfl, hb5⟩; rw [HNK.out]; simp only [Val.cells]; have hQ : Hid (w2.heap.size = w2.heap.size) := hide rfl; have f0' := bat hb5 hBv d0; have f1' := bat hb5 hBv d1; have f2' := bat hb5 hBv d2; have f3' := bat hb5 hBv d3; have f4' := bat hb5 hBv d4; have f5' := bat hb5 hBv d5; have u0' := bat hb5 hGv u0; have u1' := bat hb5 hGv u1; have u2' := bat hb5 hGv u2; have F0' := ((bcell hb5).2 _ _ hGv).trans F0; have F1' := ((bcell hb5).2 _ _ hGv).trans F1; have F2' := ((bcell hb5).2 _ _ hGv).trans F2; have HB5 : Below w2.heap.size w2 w5 := hVB.trans (hb5.mono hVB.size); have hB5 : b < w5.heap.size := Nat.lt_of_lt_of_le hB2 HB5.size; have hb5n : b ≠ w5.heap.size := (by omega); clear hb5 u0 u1 u2 F0 F1 F2) | (go_at_call 83; refine (value_ref zs x SP.out.sh SP.out.n21 m SP.out.ar _ _ _ (st.drop r) HIN2.out SP.out.val _ _ _ cols (hc2.below (Below.refl _ _).drew) _ _ _ row (hr2.below (Below.refl _ _).drew) HIX.out _ _ _ (hz2.below (Below.refl _ _).drew)).mono ?_; rintro e w5 ⟨rfl, hb5⟩; rw [HNK.out]; simp only [Val.cells]; have f0' := bat (below_undrew hb5) hB2 f0; have f1' := bat (below_undrew hb5) hB2 f1; have f2' := bat (below_undrew hb5) hB2 f2; have f3' := bat (below_undrew hb5) hB2 f3; have f4' := bat (below_undrew hb5) hB2 f4; have f5' := bat (below_undrew hb5) hB2 f5; have HB5 : Below w2.heap.size w2 w5 := below_undrew hb5; have hB5 : b < w5.heap.size := Nat.lt_of_lt_of_le hB2 HB5.size; have hb5n : b ≠ w5.heap.size := (by omega); clear hb5 u0 u1 u2 F0 F1 F2))
        · obtain ⟨w4, hw4⟩ : ∃ w4, w4 = w5.alloc (.cells #[.int .i64 kk, .int .i64 kn, .string ku] 41) := ⟨_, rfl⟩
          have hx4 : Below w2.heap.size w2 w4 := by rw [hw4]; exact HB5.alloc HB5.size _
          have u0 : w4.cell? ⟨w5.heap.size, 0, none⟩ = some (.int .i64 kk) := by rw [hw4]; simp [go_sem]
          have u1 : w4.cell? ⟨w5.heap.size, 1, none⟩ = some (.int .i64 kn) := by rw [hw4]; simp [go_sem]
          have u2 : w4.cell? ⟨w5.heap.size, 2, none⟩ = some (.string ku) := by rw [hw4]; simp [go_sem]
          rw [← hw4]
          obtain ⟨G, hG⟩ : ∃ G, w5.heap.size = G := ⟨_, rfl⟩
          rw [hG] at u0 u1 u2
          rw [hG]
          clear hw4 hG f0 f1 f2 f3 f4 f5 f0' f1' f2' f3' f4' f5' d0 d1 d2 d3 d4 d5 HIN HIN2 HB5 hVB hGv hBv hB5 hb5n
          have HSTW := hide (HST2.out.keep hx4)
          have ZW := hide (Z2.out.below hx4)
          have HLE : Hid (r ≤ st.length) := hide (by rw [HST.out.len]; omega)
          have hszW : w.heap.size ≤ w4.heap.size := HSTW.out.below.size
          have hG4 : G < w4.heap.size := lt_of_cell u0
          have r1 : (r : Int) ≤ (cb : Int) := by have h1 := HST.out.stk.cap.1; have h2 := HST.out.len; omega
          clear hx4
          go_wp2
          go_region_held3 (fun V => V.cell? ⟨G, 0, none⟩ = some (.int .i64 kk) ∧ V.cell? ⟨G, 1, none⟩ = some (.int .i64 kn) ∧ V.cell? ⟨G, 2, none⟩ = some (.string ku)) (first | exact ⟨u0, u1, u2⟩ | exact ⟨bat ((Below.refl _ _).drew.alloc (Nat.le_refl _) _) hG4 u0, bat ((Below.refl _ _).drew.alloc (Nat.le_refl _) _) hG4 u1, bat ((Below.refl _ _).drew.alloc (Nat.le_refl _) _) hG4 u2⟩ | exact ⟨bat hb7 hG7 (bat ((Below.refl _ _).drew.alloc (Nat.le_refl _) _) hG4 u0), bat hb7 hG7 (bat ((Below.refl _ _).drew.alloc (Nat.le_refl _) _) hG4 u1), bat hb7 hG7 (bat ((Below.refl _ _).drew.alloc (Nat.le_refl _) _) hG4 u2)⟩) (first | (refine step_pushN (α := Val) _ rfl (.tmp 41) (.tmp 43) 33 rfl w.heap.size 41 i0 _ 32 Tryz.underlying33 hi hy0 hy1 hy2 rfl (by decide) (some ⟨g, 0, none⟩) cb r st (HSTW.out.stk.keep ((Below.refl _ _).drew.alloc (Nat.le_refl _) _)) HLE.out rfl ⟨kk, kn, ku⟩ HKI.out w4.heap.size rfl (oneAt_new _ _ _ _ rfl) (by omega) (by simp; omega) ?_; intro A' c' w7 hst7 hb7; have hG7 : G < (World.alloc w4.drew (.cells #[.int .i64 kk, .int .i64 kn, .string ku] 41)).heap.size := (by simp; omega); have HP : Hid (VSt 41 w w7 (st.take r ++ [⟨kk, kn, ku⟩]) (r + 1) A' c') := hide ⟨hst7, (by rw [List.length_append, List.length_take, Nat.min_eq_left HLE.out]; rfl), (HSTW.out.below.drew.alloc (by simp; omega) _).trans (hb7.mono (by simp; omega))⟩; have HZ7 : Hid (Zr w7 w.heap.size) := hide ((ZW.out.drew.below below_alloc).below hb7)))
          go_wp2
          go_roundw
          case rel => exact ⟨k + 1, r + 1, hs', ks', _, A', c', by omega, by omega, by go_num, rfl, by rw [← HNK.out]; exact HR2.out, HP.out, HZ7.out⟩
          case measure => simp [intOf]; omega
        · obtain ⟨w4, hw4⟩ : ∃ w4, w4 = ((w5.setCell ⟨w2.heap.size, 0, none⟩ (.int .i64 kk)).setCell ⟨w2.heap.size, 1, none⟩ (.int .i64 kn)).setCell ⟨w2.heap.size, 2, none⟩ (.string ku) := ⟨_, rfl⟩
          have hx4 : Below w2.heap.size w2 w4 := by rw [hw4]; exact below_set3 HB5 (Nat.le_refl _) _ _ _
          have hS := set_three (v0 := .int .i64 kk) (v1 := .int .i64 kn) (v2 := .string ku) u0' u1' u2'
          rw [← hw4] at hS
          have u0 := hS 0 _ rfl
          have u1 := hS 1 _ rfl
          have u2 := hS 2 _ rfl
          rw [← hw4]
          obtain ⟨G, hG⟩ : ∃ G, w2.heap.size = G := ⟨_, rfl⟩
          rw [hG] at u0 u1 u2
          rw [hG]
          clear hS u0' u1' u2' F0' F1' F2'
          clear hw4 hG f0 f1 f2 f3 f4 f5 f0' f1' f2' f3' f4' f5' d0 d1 d2 d3 d4 d5 HIN HIN2 HB5 hVB hGv hBv hB5 hb5n
          have HSTW := hide (HST2.out.keep hx4)
          have ZW := hide (Z2.out.below hx4)
          have HLE : Hid (r ≤ st.length) := hide (by rw [HST.out.len]; omega)
          have hszW : w.heap.size ≤ w4.heap.size := HSTW.out.below.size
          have hG4 : G < w4.heap.size := lt_of_cell u0
          have r1 : (r : Int) ≤ (cb : Int) := by have h1 := HST.out.stk.cap.1; have h2 := HST.out.len; omega
          clear hx4
          go_wp2
          go_region_held3 (fun V => V.cell? ⟨G, 0, none⟩ = some (.int .i64 kk) ∧ V.cell? ⟨G, 1, none⟩ = some (.int .i64 kn) ∧ V.cell? ⟨G, 2, none⟩ = some (.string ku)) (first | exact ⟨u0, u1, u2⟩ | exact ⟨bat ((Below.refl _ _).drew.alloc (Nat.le_refl _) _) hG4 u0, bat ((Below.refl _ _).drew.alloc (Nat.le_refl _) _) hG4 u1, bat ((Below.refl _ _).drew.alloc (Nat.le_refl _) _) hG4 u2⟩ | exact ⟨bat hb7 hG7 (bat ((Below.refl _ _).drew.alloc (Nat.le_refl _) _) hG4 u0), bat hb7 hG7 (bat ((Below.refl _ _).drew.alloc (Nat.le_refl _) _) hG4 u1), bat hb7 hG7 (bat ((Below.refl _ _).drew.alloc (Nat.le_refl _) _) hG4 u2)⟩) (first | (refine step_pushN (α := Val) _ rfl (.tmp 41) (.tmp 43) 33 rfl w.heap.size 41 i0 _ 32 Tryz.underlying33 hi hy0 hy1 hy2 rfl (by decide) (some ⟨g, 0, none⟩) cb r st (HSTW.out.stk.keep ((Below.refl _ _).drew.alloc (Nat.le_refl _) _)) HLE.out rfl ⟨kk, kn, ku⟩ HKI.out w4.heap.size rfl (oneAt_new _ _ _ _ rfl) (by omega) (by simp; omega) ?_; intro A' c' w7 hst7 hb7; have hG7 : G < (World.alloc w4.drew (.cells #[.int .i64 kk, .int .i64 kn, .string ku] 41)).heap.size := (by simp; omega); have HP : Hid (VSt 41 w w7 (st.take r ++ [⟨kk, kn, ku⟩]) (r + 1) A' c') := hide ⟨hst7, (by rw [List.length_append, List.length_take, Nat.min_eq_left HLE.out]; rfl), (HSTW.out.below.drew.alloc (by simp; omega) _).trans (hb7.mono (by simp; omega))⟩; have HZ7 : Hid (Zr w7 w.heap.size) := hide ((ZW.out.drew.below below_alloc).below hb7)))
          go_wp2
          go_roundw
          case rel => exact ⟨k + 1, r + 1, hs', ks', _, A', c', by omega, by omega, by go_num, rfl, by rw [← HNK.out]; exact HR2.out, HP.out, HZ7.out⟩
          case measure => simp [intOf]; omega
    · have HX := hide (drop_end hx.len (show n ≤ k by omega))
      obtain ⟨rfl, v, rfl, hval⟩ := HR.out.last HX.out
      have HV := hide hval
      clear hval
      have HIN : Hid (In wr B 1 cb [v]) := hide (by have := HST.out.stk.inn; rw [HST.out.len] at this; exact this)
      obtain ⟨b3, off3, y, rfl, hB3, HY, y0, y1, y2, _⟩ := HIN.out.val (show 0 < 1 by omega)
      have hy : v = y := by have := HY.out; rw [List.drop_zero] at this; injection this with this _
      subst hy
      obtain ⟨vk, vn, vs⟩ := v
      simp only [Nat.zero_mul, Nat.add_zero] at y0 y1 y2
      have k0 : (0 : Int) < (1 : Int) := by omega
      obtain ⟨z0, z1, z2, F0, F1, F2, _⟩ := Z.out
      have hbb := HST.out.below
      go_wp2
      refine bodyPost_ret (v := .agg (Val.cells ⟨vk, vn, vs⟩).toArray) (results_cells (cs := Val.cells ⟨vk, vn, vs⟩) rfl _ _ w.heap.size _ rfl (set_three Z.out.c0 Z.out.c1 Z.out.c2) Tryz.underlying41 rfl (by kernel_rfl)) rfl ⟨by rw [HV.out], below_set3 hbb (Nat.le_refl _) _ _ _⟩
end Go.Proofs.YtmnhahilbbnkkaaGreatDoor
