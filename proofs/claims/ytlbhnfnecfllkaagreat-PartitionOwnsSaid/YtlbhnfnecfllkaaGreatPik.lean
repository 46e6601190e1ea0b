/-
  partition.Pick, warehouseref22.Pick.
-/
import Derived.Test.YtlbhnfnecfllkaaGreatGag
import Derived.Test.YtlbhnfnecfllkaaGreatGae
import Derived.Test.YtlbhnfnecfllkaaGreatGaf
namespace Go.Proofs.YtlbhnfnecfllkaaGreat
open Go.RowKit
set_option linter.unusedSimpArgs false
set_option linter.unusedVariables false

/-- Index's answer: not negative if the number is there. -/
def IdxOf (e : Ending) (xs : List Int) (v : Int) : Prop := ∃ r : Int, e = .returned (.int .i64 r) ∧ (0 ≤ r ↔ v ∈ xs)
theorem indexI_any (w : World) (A : Option Addr) (n c : Nat) (xs : List Int) (hx : In w A n c xs) (v : Int) :
    Calls Tryz.prog 70 #[.slice A n c, .int .i64 v] w fun e w' => IdxOf e xs v ∧ Below w.heap.size w w' := by
  have h63 := hx.le
  have HX0 := hide hx
  go_enter Tryz.func70, Tryz.ntmps70
  go_wp2
  go_loop [8] (fun i => ∃ k : Nat, k ≤ n ∧ i = .int .i64 k ∧ ¬ v ∈ xs.take k) (fun i => n - (RowKit.intOf i).toNat)
  case atStart => exact ⟨0, Nat.zero_le _, rfl, by simp⟩
  case round =>
    obtain ⟨k, hk, rfl, hn⟩ := hrel
    have HN := hide hn
    clear hn
    by_cases hlt : k < n
    · obtain ⟨b, off, x, rfl, hBb, HX, e0, e1⟩ := HX0.out.int hlt
      have k0 : (0 : Int) ≤ (k : Int) := by omega
      have k1 : (k : Int) < (n : Int) := by omega
      by_cases he : v = x
      · have HE : Hid (v ∈ xs) := hide (by rw [he]; exact mem_of_drop HX.out)
        have d1 : (v == x) = true := by simpa using he
        clear he
        go_wp2
        all_goals (try (exfalso; go_light; simp_all; done))
        go_ret
        exact ⟨⟨k, rfl, fun _ => HE.out, fun _ => k0⟩, Below.refl _ _⟩
      · have d1 : (v == x) = false := by simpa using he
        have HN2 : Hid (¬ v ∈ xs.take (k + 1)) := hide (by rw [take_snoc HX.out]; simp only [List.mem_append, List.mem_singleton]; exact fun h => h.elim HN.out he)
        go_wp2
        all_goals (try (exfalso; go_light; simp_all; done))
        go_round
        case rel => exact ⟨k + 1, by omega, by go_num, HN2.out⟩
        case measure => simp [RowKit.intOf]; omega
    · have HE : Hid (¬ v ∈ xs) := hide (by
        have := HN.out
        rw [List.take_of_length_le (by rw [HX0.out.len]; omega)] at this
        exact this)
      go_wp2
      go_ret
      exact ⟨⟨-1, rfl, fun h => absurd h (by omega), fun h => absurd h HE.out⟩, Below.refl _ _⟩
theorem containsI_any (w : World) (A : Option Addr) (n c : Nat) (xs : List Int) (hx : In w A n c xs) (v : Int) :
    Calls Tryz.prog 43 #[.slice A n c, .int .i64 v] w fun e w' => e = .returned (.bool (xs.contains v)) ∧ Below w.heap.size w w' := by
  go_enter Tryz.func43, Tryz.ntmps43
  go_wp2_with fail
  refine (indexI_any _ A n c xs hx v).mono ?_
  rintro e w1 ⟨⟨r, rfl, hr⟩, hb1⟩
  have LST2 := hide hb1
  have SG2 := hide hb1
  clear hb1
  have HR : Hid (decide (0 ≤ r) = xs.contains v) := hide (by
    by_cases q : v ∈ xs
    · simp [q, hr.2 q]
    · have q2 : ¬ 0 ≤ r := fun h => q (hr.1 h)
      simp only [q2, decide_false]
      simpa using q)
  clear hr
  go_wp2
  go_ret
  exact ⟨ret_bool HR.out, SG2.out⟩
theorem pickS_err {cols : List Col} {col : ByteArray} {z : Zone} {rows : List Ent} {days : List Int} (h : schemeErr cols col z rows ≠ 0) : pickS cols col z rows days = (schemeErr cols col z rows, []) := by rw [pickS, if_pos h]
theorem pickS_ok {cols : List Col} {col : ByteArray} {z : Zone} {rows : List Ent} {days : List Int} (h : schemeErr cols col z rows = 0) : pickS cols col z rows days = (0, pickR (findS cols col z).1 z rows days) := by rw [pickS, if_neg (by simpa using h)]
set_option maxHeartbeats 4000000 in
set_option maxRecDepth 100000 in
theorem pickP_any (w : World) (A1 : Option Addr) (n1 c1 : Nat) (cols : List Col) (hc : In w A1 n1 c1 cols) (col : ByteArray) (A : Option Addr) (n c : Nat) (z : Zone) (hx : In w A n c z.shifts) (ho : I64 z.offset) (A2 : Option Addr) (n2 c2 : Nat) (rows : List Ent) (hr : In w A2 n2 c2 rows) (A3 : Option Addr) (n3 c3 : Nat) (days : List Int) (hd : In w A3 n3 c3 days) :
    Calls Tryz.prog 16 #[.slice A1 n1 c1, .string col, .agg #[.string z.name, .int .i64 z.offset, .slice A n c], .slice A2 n2 c2, .slice A3 n3 c3] w
      fun e w' => (∃ v, e = .returned (.tuple #[v, .int .i64 (pickS cols col z rows days).1]) ∧ OL 63 w.heap.size (fun _ => False) [65] w' v (pickS cols col z rows days).2) ∧ Below w.heap.size w w' := by
  have HFIT := hide (scheme_fit (cols := cols) (col := col) (z := z) (rows := rows))
  have HP1 := hide (pickS_err (cols := cols) (col := col) (z := z) (rows := rows) (days := days))
  have HP2 := hide (pickS_ok (cols := cols) (col := col) (z := z) (rows := rows) (days := days))
  obtain ⟨PK, hPK⟩ : ∃ PK, pickS cols col z rows days = PK := ⟨_, rfl⟩
  rw [hPK] at HP1 HP2 ⊢
  obtain ⟨E, hE⟩ : ∃ E, schemeErr cols col z rows = E := ⟨_, rfl⟩
  have HEE := hide hE
  rw [hE] at HP1 HP2
  clear hE hPK
  go_enter Tryz.func16, Tryz.ntmps16
  go_wp2_with fail
  refine (checkP_any _ _ _ _ cols (hc.below below_alloc) col A n c z (hx.below below_alloc) ho _ _ _ rows (hr.below below_alloc)).mono ?_
  rintro e w1 ⟨rfl, hb1⟩
  have hbb := below_trans below_alloc hb1
  have g0 := bat (b := w.heap.size) (o := 0) (v := .string z.name) hb1 (by simp) (by simp [go_sem])
  have g1 := bat (b := w.heap.size) (o := 1) (v := .int .i64 z.offset) hb1 (by simp) (by simp [go_sem])
  have g2 := bat (b := w.heap.size) (o := 2) (v := .slice A n c) hb1 (by simp) (by simp [go_sem])
  clear hb1
  rw [HEE.out]
  by_cases h0 : E = 0
  · subst h0
    obtain ⟨hf1, hf2, hf3⟩ := HFIT.out HEE.out
    obtain ⟨at_, hat⟩ : ∃ at_, (findS cols col z).1 = at_ := ⟨_, rfl⟩
    rw [hat] at hf1 HP2 ⊢
    have HF1 := hide hf1
    have HF2 := hide hf2
    obtain rfl := HP2.out rfl
    have hn2 := hr.len
    have hn4 : n2 ≤ 4096 := by omega
    clear hf1 hf2 hf3 HP1 HP2 hat
    have HZ := hide hx
    clear hx
    have HR := hide hr
    clear hr
    have HD := hide hd
    clear hd
    have hbb' := hbb
    have HZ := hide (HZ.out.below hbb)
    have HR := hide (HR.out.below hbb)
    have HD := hide (HD.out.below hbb)
    have LST3 := hide hbb
    have SG3 := hide hbb
    clear hbb
    have LZ := lt_of_cell g0
    go_upto_region 4 with (fail)
    go_wp2
    go_loopw [14, 30] (fun o i wr => ∃ k : Nat, k ≤ n2 ∧ i = .int .i64 k ∧ OL 63 w1.heap.size (fun _ => False) [65] wr o (pickR at_ z (rows.take k) days) ∧ Below w1.heap.size w1 wr) (fun _ i _ => n2 - (RowKit.intOf i).toNat)
    case atStart => exact ⟨0, Nat.zero_le _, rfl, OL.nil (Nat.le_refl _), Below.refl _ _⟩
    case round =>
      obtain ⟨k, hk, rfl, hol, hb⟩ := hrel
      have HLE : Hid ((pickR at_ z (rows.take k) days).length ≤ k) := hide (Nat.le_trans (List.length_filter_le _ _) (by rw [List.length_take]; omega))
      have HZ := hide (HZ.out.below hb)
      have HR := hide (HR.out.below hb)
      have HD := hide (HD.out.below hb)
      have g0 := bat hb LZ g0
      have g1 := bat hb LZ g1
      have g2 := bat hb LZ g2
      have LZ := lt_of_cell g0
      have LST4 := hide hb
      have SG4 := hide hb
      clear hb
      have HO := hide hol
      clear hol
      by_cases hlt : k < n2
      · obtain ⟨b, off, x, rfl, hBb, HX, Ax, An, Ac, e0, e1, e2, e3⟩ := HR.out.ent hlt
        have k0 : (0 : Int) ≤ (k : Int) := by omega
        have k1 : (k : Int) < (n2 : Int) := by omega
        have HXM := hide (mem_of_drop HX.out)
        have HAX : Hid (at_ < (An : Int)) := hide (by have h := HF1.out x HXM.out; have h2 := e2.len; omega)
        have HAN : Hid (An ≤ 4096) := hide (by have h := HF2.out x HXM.out; have h2 := e2.len; omega)
        have HTK : Hid (pickR at_ z (rows.take (k + 1)) days = pickR at_ z (rows.take k) days ++ (if days.contains (dayRow at_ z x.row) then [x] else [])) := hide (filter_snoc HX.out)
        obtain ⟨zs, hzs⟩ : ∃ zs, pickR at_ z (rows.take k) days = zs := ⟨_, rfl⟩
        rw [hzs] at HO HLE HTK
        obtain ⟨d, hdd⟩ : ∃ d, dayRow at_ z x.row = d := ⟨_, rfl⟩
        have HDD := hide hdd
        rw [hdd] at HTK
        obtain ⟨cb, hcb⟩ : ∃ cb, days.contains d = cb := ⟨_, rfl⟩
        have HCB := hide hcb
        rw [hcb] at HTK
        have hle := HLE.out
        clear hzs hdd hcb
        go_wp2_with fail
        refine (dayP_any _ A n c z (HZ.out.below below_alloc) ho _ _ _ x.row (e2.below below_alloc) at_ HAX.out).mono ?_
        rintro e w2 ⟨rfl, hb2⟩
        rw [HDD.out]
        have x0 := bat (b := wr.heap.size) (o := 0) (v := .slice Ax An Ac) hb2 (by simp) (by simp [go_sem])
        have x1 := bat (b := wr.heap.size) (o := 1) (v := .int .i64 x.count) hb2 (by simp) (by simp [go_sem])
        have hq2 := below_trans below_alloc hb2
        clear hb2
        have HE := hide e2
        clear e2
        have HZ := hide (HZ.out.below hq2)
        have HR := hide (HR.out.below hq2)
        have HD := hide (HD.out.below hq2)
        have HO := hide (HO.out.below hq2)
        have HE := hide (HE.out.below hq2)
        have g0 := bat hq2 LZ g0
        have g1 := bat hq2 LZ g1
        have g2 := bat hq2 LZ g2
        have LZ := lt_of_cell g0
        have LST5 := hide hq2
        have SG5 := hide (below_trans SG4.out hq2)
        clear hq2
        have LX := lt_of_cell x0
        go_wp2_with fail
        refine (containsI_any _ _ _ _ days HD.out d).mono ?_
        rintro e w6 ⟨rfl, hb6⟩
        have HZ := hide (HZ.out.below hb6)
        have HR := hide (HR.out.below hb6)
        have HD := hide (HD.out.below hb6)
        have HO := hide (HO.out.below hb6)
        have HE := hide (HE.out.below hb6)
        have g0 := bat hb6 LZ g0
        have g1 := bat hb6 LZ g1
        have g2 := bat hb6 LZ g2
        have LZ := lt_of_cell g0
        have x0 := bat hb6 LX x0
        have x1 := bat hb6 LX x1
        have LX := lt_of_cell x0
        have LST7 := hide hb6
        have SG7 := hide (below_trans SG5.out hb6)
        clear hb6
        rw [HCB.out]
        cases cb
        · go_wp2
          go_roundw
          case rel => exact ⟨k + 1, by omega, by go_num, by rw [HTK.out]; simpa using HO.out, SG7.out⟩
          case measure => simp [RowKit.intOf]; omega
        · have hsz3 := SG7.out.size
          go_wp2_with fail
          refine (copied_any _ x Ax An Ac HE.out (by have := HAN.out; omega) e3).mono ?_
          rintro e w8 ⟨⟨A6, c6, rfl, hs6⟩, hb8⟩
          have HZ := hide (HZ.out.below hb8)
          have HR := hide (HR.out.below hb8)
          have HD := hide (HD.out.below hb8)
          have HO := hide (HO.out.below hb8)
          have HE := hide (HE.out.below hb8)
          have g0 := bat hb8 LZ g0
          have g1 := bat hb8 LZ g1
          have g2 := bat hb8 LZ g2
          have LZ := lt_of_cell g0
          have x0 := bat hb8 LX x0
          have x1 := bat hb8 LX x1
          have LX := lt_of_cell x0
          have LST9 := hide hb8
          have SG9 := hide (below_trans SG7.out hb8)
          clear hb8
          have HS6 := hide (hs6.mono fun k hk => new_bs (B := w1.heap.size) (O := fun _ => False) (T := [65]) hsz3 (by simp) hk)
          clear hs6
          go_wp2_with (at_builtin; refine wpList_push_OL _ rfl _ _ _ rfl elem_ents (by decide) _ _ rfl HO.out rfl rfl x ⟨_, _, _, rfl, HS6.out, e3⟩ (by simp only [maxLen]; omega) (by omega) ?_; intro v1 w9 ho9 hb9 hg9 hat9)
          have HO9 := hide ho9
          have HB9 := hide (SG9.out.trans hb9)
          clear ho9 hb9 hg9 hat9
          go_wp2
          go_roundw
          case rel => exact ⟨k + 1, by omega, by go_num, by rw [HTK.out]; simpa using HO9.out, HB9.out⟩
          case measure => simp [RowKit.intOf]; omega
      · have HF : Hid (rows.take k = rows) := hide (List.take_of_length_le (by omega))
        rw [HF.out] at HO
        go_wp2
        go_ret2
        exact ⟨⟨_, rfl, HO.out.rebase hbb'.size⟩, (below_trans SG3.out SG4.out)⟩
  · have q : (E != 0) = true := by simpa using h0
    obtain rfl := HP1.out h0
    clear h0
    go_wp2
    all_goals (try (exfalso; go_light; simp_all; done))
    go_ret2
    exact ⟨⟨_, rfl, OL.nil hbb.size⟩, hbb⟩

theorem mem_takeS {xs : List Int} {k : Nat} {x v : Int} {l : List Int} (h : xs.drop k = x :: l) : (xs.take (k + 1)).contains v = ((xs.take k).contains v || x == v) := by
  rw [take_snoc h]
  rw [Bool.eq_iff_iff]
  simp only [List.contains_iff_mem, List.mem_append, List.mem_singleton, Bool.or_eq_true, beq_iff_eq]
  exact ⟨fun q => q.imp id Eq.symm, fun q => q.imp id Eq.symm⟩
set_option maxHeartbeats 4000000 in
set_option maxRecDepth 100000 in
theorem pickR_ref (w : World) (A1 : Option Addr) (n1 c1 : Nat) (cols : List Col) (hc : In w A1 n1 c1 cols) (col : ByteArray) (A : Option Addr) (n c : Nat) (z : Zone) (hx : In w A n c z.shifts) (ho : I64 z.offset) (A2 : Option Addr) (n2 c2 : Nat) (rows : List Ent) (hr : In w A2 n2 c2 rows) (A3 : Option Addr) (n3 c3 : Nat) (days : List Int) (hd : In w A3 n3 c3 days) :
    Calls Tryz.prog 17 #[.slice A1 n1 c1, .string col, .agg #[.string z.name, .int .i64 z.offset, .slice A n c], .slice A2 n2 c2, .slice A3 n3 c3] w
      fun e w' => (∃ v, e = .returned (.tuple #[v, .int .i64 (pickS cols col z rows days).1]) ∧ OL 63 w.heap.size (fun _ => False) [65] w' v (pickS cols col z rows days).2) ∧ Below w.heap.size w w' := by
  have HFIT := hide (scheme_fit (cols := cols) (col := col) (z := z) (rows := rows))
  have HP1 := hide (pickS_err (cols := cols) (col := col) (z := z) (rows := rows) (days := days))
  have HP2 := hide (pickS_ok (cols := cols) (col := col) (z := z) (rows := rows) (days := days))
  have hdays := days_ref (w.alloc (.cells #[.string z.name, .int .i64 z.offset, .slice A n c] 25)) A1 n1 c1 cols (hc.below below_alloc) col A n c z (hx.below below_alloc) ho A2 n2 c2 rows (hr.below below_alloc)
  obtain ⟨PK, hPK⟩ : ∃ PK, pickS cols col z rows days = PK := ⟨_, rfl⟩
  rw [hPK] at HP1 HP2 ⊢
  obtain ⟨E, hE⟩ : ∃ E, schemeErr cols col z rows = E := ⟨_, rfl⟩
  have HEE := hide hE
  rw [hE] at HP1 HP2 hdays
  clear hE hPK
  go_enter Tryz.func17, Tryz.ntmps17
  go_wp2_with fail
  refine hdays.mono ?_
  rintro e w1 ⟨⟨B, d, ds, rfl, hds, hdd⟩, hb1⟩
  have hbb := below_trans below_alloc hb1
  have HDD := hide hdd
  clear hb1 hdays hdd
  by_cases h0 : E = 0
  · subst h0
    obtain ⟨hf1, hf2, hf3⟩ := HFIT.out HEE.out
    obtain ⟨at_, hat⟩ : ∃ at_, (findS cols col z).1 = at_ := ⟨_, rfl⟩
    rw [hat] at hf1 HP2 HDD
    have HF1 := hide hf1
    have HF2 := hide hf2
    obtain rfl := HP2.out rfl
    have HDS := hide (HDD.out rfl)
    have hn2 := hr.len
    have hn4 : n2 ≤ 4096 := by omega
    have hnd : ds.length = n2 := by rw [HDS.out, daysR, List.length_map, hn2]
    rw [hnd] at hds
    have HND := hide hnd
    have h63 := hd.le
    clear hf1 hf2 hf3 HP1 HP2 hat hnd HDD
    have HRW := hide (hr.below hbb)
    have hbb' := hbb
    have HR := hide hr
    clear hr
    have HD := hide hd
    clear hd
    have HR := hide (HR.out.below hbb)
    have HD := hide (HD.out.below hbb)
    have LST10 := hide hbb
    have SG10 := hide hbb
    clear hbb
    have HI := hide hds
    clear hds
    rw [HND.out]
    go_upto_region 4 with (fail)
    go_wp2
    go_loopw [14, 15] (fun o i wr => ∃ k : Nat, k ≤ n2 ∧ i = .int .i64 k ∧ OL 63 w1.heap.size (fun _ => True) [] wr o (pickR at_ z (rows.take k) days) ∧ Below w1.heap.size w1 wr) (fun _ i _ => n2 - (RowKit.intOf i).toNat)
    case atStart => exact ⟨0, Nat.zero_le _, rfl, OL.nil (Nat.le_refl _), Below.refl _ _⟩
    case round =>
      obtain ⟨wo, rfl⟩ : ∃ wo, wo = wr := ⟨wr, rfl⟩
      obtain ⟨k, hk, rfl, hol, hb⟩ := hrel
      have HLE : Hid ((pickR at_ z (rows.take k) days).length ≤ k) := hide (Nat.le_trans (List.length_filter_le _ _) (by rw [List.length_take]; omega))
      have HSM := hide (Same.below hb)
      by_cases hlt : k < n2
      · obtain ⟨b, off, x, rfl, hBb, HX, Ax, An, Ac, e0, e1, e2, e3⟩ := HRW.out.ent hlt
        replace e0 := bat hb hBb e0
        replace e1 := bat hb hBb e1
        have HE : Hid (Sl wo (BS w1.heap.size (fun _ => True) [] wo) Ax An Ac x.row) := hide ((e2.keep HSM.out).mono fun k hk => .inl ⟨trivial, hk⟩)
        have HR := hide (HR.out.below hb)
        have HD := hide (HD.out.below hb)
        have HI := hide (HI.out.below hb)
        have LST11 := hide hb
        have SG11 := hide hb
        clear hb
        have HO := hide hol
        clear hol
        obtain ⟨b2, off2, y, rfl, hBb2, HY, f0, f1⟩ := HI.out.int hlt
        have k0 : (0 : Int) ≤ (k : Int) := by omega
        have k1 : (k : Int) < (n2 : Int) := by omega
        have HXY : Hid (y = dayRow at_ z x.row) := hide (by
          have h1 := HY.out
          rw [HDS.out, daysR, ← List.map_drop, HX.out, List.map_cons] at h1
          injection h1 with h1
          exact h1.symm)
        have HTK : Hid (pickR at_ z (rows.take (k + 1)) days = pickR at_ z (rows.take k) days ++ (if days.contains y then [x] else [])) := hide (by rw [HXY.out]; exact filter_snoc HX.out)
        obtain ⟨zs, hzs⟩ : ∃ zs, pickR at_ z (rows.take k) days = zs := ⟨_, rfl⟩
        rw [hzs] at HO HLE HTK
        have hle := HLE.out
        clear hzs e2
        go_wp2
        go_loopw [16, 17] (fun bv i wq => ∃ q : Nat, q ≤ n3 ∧ i = .int .i64 q ∧ bv = .bool ((days.take q).contains y) ∧ Below wo.heap.size wo wq) (fun _ i _ => n3 - (RowKit.intOf i).toNat)
        case atStart => exact ⟨0, Nat.zero_le _, rfl, by simp, Below.refl _ _⟩
        case round =>
          obtain ⟨q, hq, rfl, rfl, hb2⟩ := hrel
          have HE2 : Hid (Sl wr (BS w1.heap.size (fun _ => True) [] wr) Ax An Ac x.row) := hide ((HE.out.keep fun k hk => hb2.block k (hk.lt SG11.out.size)).mono fun k hk => hk.below SG11.out.size hb2)
          replace e0 := bat hb2 (lt_of_cell e0) e0
          replace e1 := bat hb2 (lt_of_cell e1) e1
          replace f0 := bat hb2 hBb2 f0
          replace hBb2 := lt_of_cell f0
          have HR := hide (HR.out.below hb2)
          have HD := hide (HD.out.below hb2)
          have HI := hide (HI.out.below hb2)
          have HO := hide (HO.out.below hb2)
          have LST12 := hide hb2
          have SG12 := hide hb2
          clear hb2
          by_cases hlt2 : q < n3
          · obtain ⟨b3, off3, u, rfl, hBb3, HU, i0, i1⟩ := HD.out.int hlt2
            have q0 : (0 : Int) ≤ (q : Int) := by omega
            have q1 : (q : Int) < (n3 : Int) := by omega
            have HS := hide (mem_takeS (v := y) HU.out)
            obtain ⟨bb, hbb⟩ : ∃ bb, (days.take q).contains y = bb := ⟨_, rfl⟩
            rw [hbb] at HS ⊢
            clear hbb
            obtain ⟨ub, hub⟩ : ∃ ub, (u == y) = ub := ⟨_, rfl⟩
            rw [hub] at HS
            cases bb
            · go_wp2
              go_quiet (fail)
              go_wp2
              go_roundw
              case rel => exact ⟨q + 1, by omega, by go_num, by rw [HS.out]; simp [hub], below_any SG12.out⟩
              case measure => simp [RowKit.intOf]; omega
            · go_wp2
              go_quiet (fail)
              go_wp2
              go_roundw
              case rel => exact ⟨q + 1, by omega, by go_num, by rw [HS.out]; rfl, below_any SG12.out⟩
              case measure => simp [RowKit.intOf]; omega
          · have HCQ : Hid ((days.take q).contains y = days.contains y) := hide (by rw [List.take_of_length_le (by have := HD.out.len; omega)])
            rw [HCQ.out]
            obtain ⟨cb, hcb⟩ : ∃ cb, days.contains y = cb := ⟨_, rfl⟩
            rw [hcb] at HTK ⊢
            clear hcb HCQ
            cases cb
            · go_wp2
              go_roundw
              case rel => exact ⟨k + 1, by omega, by go_num, by rw [HTK.out]; simpa using HO.out, (below_trans SG11.out SG12.out)⟩
              case measure => simp [RowKit.intOf]; omega
            · go_wp2_with (at_builtin; refine wpList_push_OL _ rfl _ _ _ rfl elem_ents (by simp) _ _ rfl HO.out rfl rfl x ⟨_, _, _, rfl, HE2.out, e3⟩ (by simp only [maxLen]; omega) (by omega) ?_; intro v1 w9 ho9 hb9 hg9 hat9)
              have HO9 := hide ho9
              have HB9 := hide ((below_trans SG11.out SG12.out).trans hb9)
              clear ho9 hb9 hg9 hat9
              go_wp2
              go_roundw
              case rel => exact ⟨k + 1, by omega, by go_num, by rw [HTK.out]; simpa using HO9.out, HB9.out⟩
              case measure => simp [RowKit.intOf]; omega
      · have HR := hide (HR.out.below hb)
        have HD := hide (HD.out.below hb)
        have HI := hide (HI.out.below hb)
        have LST13 := hide hb
        have SG13 := hide hb
        clear hb
        have HO := hide hol
        clear hol
        have HF : Hid (rows.take k = rows) := hide (List.take_of_length_le (by omega))
        rw [HF.out] at HO HLE
        have HPR : Hid (∀ y ∈ pickR at_ z rows days, y.row.length ≤ 4096) := hide (fun y hy => HF2.out y (List.mem_filter.1 hy).1)
        obtain ⟨A6, c6, hv, hin⟩ := HO.out.inn
        subst hv
        have hle := HLE.out
        have hbz := (below_trans SG10.out SG13.out).size
        go_wp2_with fail
        refine (copyEnts_ref _ A6 _ c6 _ hin (by omega) HPR.out).mono ?_
        rintro e w14 ⟨⟨v6, rfl, hf6⟩, hb14⟩
        have HR := hide (HR.out.below hb14)
        have HD := hide (HD.out.below hb14)
        have HI := hide (HI.out.below hb14)
        have HO := hide (HO.out.below hb14)
        have LST15 := hide hb14
        have SG15 := hide (below_trans SG13.out hb14)
        clear hb14
        have HO6 := hide ((hf6.ol LST15.out.size).rebase hbz)
        clear hf6
        go_wp2
        go_ret2
        exact ⟨⟨_, rfl, HO6.out⟩, (below_trans SG10.out SG15.out)⟩
  · have q : (E != 0) = true := by simpa using h0
    obtain rfl := HP1.out h0
    clear h0
    go_wp2
    all_goals (try (exfalso; go_light; simp_all; done))
    go_ret2
    exact ⟨⟨_, rfl, OL.nil hbb.size⟩, hbb⟩
end Go.Proofs.YtlbhnfnecfllkaaGreat
