/-
  schema.IsName and warehouseref5.IsName. schema.Index (slices.IndexFunc over columns) and warehouseref5.Index. schema.Validate and warehouseref5.Validate. Package warehouseref1: Valid, Compare, CompareRows. Package value: Valid, Compare, CompareRows; package cmp's Or and Compare. expr.Arity and warehouseref8.Arity: both return arity. warehousebase: At, Moment, Value, Cell, Row: what they build is well-formed. warehousebase: Cell and Row: they fit their columns. schema.CheckRow and warehouseref5.CheckRow. warehousebase.Row: the row fits the columns and lies in a new block. Checked arithmetic: package exact's and the reference's, at integers from -2^30 to 2^30 (larger ones never come in); truth values. bag.formed and warehouseref6.fits. slices.CompareFunc over values, value.CompareRows. bag.Validate, bag.IsTable; warehouseref6.Validate, positive, IsTable. bag.IsTable; warehouseref6.Validate, positive, IsTable. scalar.logic and warehouseref9.logic: they return logicV; a result block of three cells. (Printed by gen_logic.py.) warehouseworld.Within: a list of entries is small.
-/
import Derived.Test.YtodapiholjeehaaGreatDoorProg
import Derived.Test.YtodapiholjeehaaGreatDoorKit
import Derived.Test.YtodapiholjeehaaGreatDoorGaa
namespace Go.Proofs.YtodapiholjeehaaGreatDoor
open Go.RowKit
set_option linter.unusedSimpArgs false
set_option linter.unusedVariables false
theorem byteAt_eq (s : ByteArray) (i : Nat) (h : i < s.size) : byteAt s i = (s[i]'h).toNat := by
  have h' : i < s.data.toList.length := by simpa using h
  have : s.data.toList.getD i 0 = s[i]'h := by rw [List.getD, List.getElem?_eq_getElem h']; rfl
  rw [byteAt, this]
theorem next_rune (P : Program) (w : World) (s : ByteArray) (pos : Nat) (h : pos < s.size) :
    ∃ c wd : Nat, (∀ ty, (Instr.next (.pointer (some ⟨w.heap.size, 0, none⟩)) true ty).run P (w.iter s pos) = .ok (.tuple #[.bool true, .int .i64 pos, .int .i32 (c : Int)]) (w.iter s (pos + wd))) ∧
      (c < 128 → c = byteAt s pos ∧ wd = 1) ∧ (128 ≤ c → 128 ≤ byteAt s pos) ∧ c ≤ 2147483647 := by
  refine ⟨_, _, fun ty => run_next_any w s pos ty h, fun hc => ?_, fun hc => ?_, decode_le s pos⟩
  · by_cases ha : (s[pos]'h).toNat < 128
    · rw [decode_ascii s pos h ha, byteAt_eq s pos h]
      exact ⟨rfl, rfl⟩
    · have := (decode_high s pos h (by omega)).1
      omega
  · by_cases ha : (s[pos]'h).toNat < 128
    · rw [decode_ascii s pos h ha] at hc
      have : 128 ≤ (s[pos]'h).toNat := hc
      omega
    · rw [byteAt_eq s pos h]
      omega
theorem nameFrom_step (s : ByteArray) (i : Nat) (h : i < s.size) : nameFrom s (s.size - i) i = (nameOk (byteAt s i) i && nameFrom s (s.size - (i + 1)) (i + 1)) := by
  rw [show s.size - i = (s.size - (i + 1)) + 1 from by omega, nameFrom]
theorem nameFrom_bad (s : ByteArray) (i : Nat) (h : i < s.size) (hb : nameOk (byteAt s i) i = false) : nameFrom s (s.size - i) i = false := by
  rw [nameFrom_step s i h, hb]; rfl
theorem nameFrom_good (s : ByteArray) (i : Nat) (h : i < s.size) (hb : nameOk (byteAt s i) i = true) : nameFrom s (s.size - i) i = nameFrom s (s.size - (i + 1)) (i + 1) := by
  rw [nameFrom_step s i h, hb]; rfl
theorem nameOk_high (c i : Nat) (h : 128 ≤ c) : nameOk c i = false := by
  have h1 : ¬ c ≤ 122 := by omega
  have h2 : ¬ c = 95 := by omega
  have h3 : ¬ c ≤ 57 := by omega
  simp [nameOk, h1, h2, h3]
theorem nameOk_iff (c i : Nat) : nameOk c i = true ↔ (97 ≤ c ∧ c ≤ 122) ∨ (0 < i ∧ (c = 95 ∨ (48 ≤ c ∧ c ≤ 57))) := by simp only [nameOk, Bool.or_eq_true, Bool.and_eq_true, decide_eq_true_eq]
theorem nonempty_iff (s : ByteArray) : (!s.toList.isEmpty) = decide (0 < s.size) := by
  rw [ByteArray.toList_eq]
  have : s.size = s.data.toList.length := rfl
  rw [this]
  cases s.data.toList <;> simp
set_option maxRecDepth 100000 in
theorem isName_any (s : ByteArray) (hs : Str s) (w : World) :
    Calls Tryz.prog 111 #[.string s] w fun e w' => e = .returned (.bool (isName s)) ∧ Below w.heap.size w w' := by
  unfold Str at hs
  go_enter Tryz.func111, Tryz.ntmps111
  by_cases hl : s.size ≤ 24
  · go_wp2
    go_loopw [3] (fun _ wr => ∃ pos : Nat, pos ≤ s.size ∧ wr = w.iter s pos ∧ nameFrom s s.size 0 = nameFrom s (s.size - pos) pos) (fun _ wr => s.size - wr.iterPos w.heap.size)
    case atStart => exact ⟨0, by omega, rfl, rfl⟩
    case round =>
      obtain ⟨pos, hpos, rfl, heq⟩ := hrel
      have HE := hide heq
      clear heq
      by_cases hp : pos < s.size
      · obtain ⟨c, wd, hnx, h1, h2, h3⟩ := next_rune Tryz.prog w s pos hp
        have H1 := hide h1
        clear h1
        cases hA : decide ((97 : Int) ≤ (c : Int))
        · cases hC : ((pos : Int) == 0)
          · cases hD : ((c : Int) == 95)
            · cases hE : decide ((c : Int) < 48)
              · cases hF : decide ((57 : Int) < (c : Int))
                · go_wp2
                  all_goals (try (exfalso; go_light; (try simp only [decide_eq_true_eq, decide_eq_false_iff_not, beq_iff_eq, beq_eq_false_iff_ne, ne_eq, Bool.not_eq_true', Bool.not_eq_false'] at *); omega))
                  all_goals
                    go_roundw
                    case rel =>
                      go_light
                      (try simp only [decide_eq_true_eq, decide_eq_false_iff_not, beq_iff_eq, beq_eq_false_iff_ne, ne_eq] at *)
                      obtain ⟨e1, rfl⟩ := H1.out (by omega)
                      refine ⟨pos + 1, by omega, rfl, ?_⟩
                      rw [HE.out]
                      exact nameFrom_good s pos hp (by rw [← e1]; exact (nameOk_iff c pos).2 (by omega))
                    case measure =>
                      go_light
                      (try simp only [decide_eq_true_eq, decide_eq_false_iff_not, beq_iff_eq, beq_eq_false_iff_ne, ne_eq] at *)
                      obtain ⟨e1, rfl⟩ := H1.out (by omega)
                      simp
                      omega
                · go_wp2
                  all_goals (try (exfalso; go_light; (try simp only [decide_eq_true_eq, decide_eq_false_iff_not, beq_iff_eq, beq_eq_false_iff_ne, ne_eq, Bool.not_eq_true', Bool.not_eq_false'] at *); omega))
                  all_goals
                    go_ret
                    refine ⟨ret_bool ?_, below_alloc⟩
                    go_light
                    have hbad : nameOk (byteAt s pos) pos = false := by
                      by_cases hc : c < 128
                      · rw [← (H1.out hc).1]
                        refine Bool.eq_false_iff.2 fun h => ?_
                        have h' := (nameOk_iff c pos).1 h
                        (try simp only [decide_eq_true_eq, decide_eq_false_iff_not, beq_iff_eq, beq_eq_false_iff_ne, ne_eq] at *) <;> omega
                      · exact nameOk_high _ _ (h2 (by omega))
                    rw [isName, HE.out, nameFrom_bad s pos hp hbad]
                    simp
              · go_wp2
                all_goals (try (exfalso; go_light; (try simp only [decide_eq_true_eq, decide_eq_false_iff_not, beq_iff_eq, beq_eq_false_iff_ne, ne_eq, Bool.not_eq_true', Bool.not_eq_false'] at *); omega))
                all_goals
                  go_ret
                  refine ⟨ret_bool ?_, below_alloc⟩
                  go_light
                  have hbad : nameOk (byteAt s pos) pos = false := by
                    by_cases hc : c < 128
                    · rw [← (H1.out hc).1]
                      refine Bool.eq_false_iff.2 fun h => ?_
                      have h' := (nameOk_iff c pos).1 h
                      (try simp only [decide_eq_true_eq, decide_eq_false_iff_not, beq_iff_eq, beq_eq_false_iff_ne, ne_eq] at *) <;> omega
                    · exact nameOk_high _ _ (h2 (by omega))
                  rw [isName, HE.out, nameFrom_bad s pos hp hbad]
                  simp
            · go_wp2
              all_goals (try (exfalso; go_light; (try simp only [decide_eq_true_eq, decide_eq_false_iff_not, beq_iff_eq, beq_eq_false_iff_ne, ne_eq, Bool.not_eq_true', Bool.not_eq_false'] at *); omega))
              all_goals
                go_roundw
                case rel =>
                  go_light
                  (try simp only [decide_eq_true_eq, decide_eq_false_iff_not, beq_iff_eq, beq_eq_false_iff_ne, ne_eq] at *)
                  obtain ⟨e1, rfl⟩ := H1.out (by omega)
                  refine ⟨pos + 1, by omega, rfl, ?_⟩
                  rw [HE.out]
                  exact nameFrom_good s pos hp (by rw [← e1]; exact (nameOk_iff c pos).2 (by omega))
                case measure =>
                  go_light
                  (try simp only [decide_eq_true_eq, decide_eq_false_iff_not, beq_iff_eq, beq_eq_false_iff_ne, ne_eq] at *)
                  obtain ⟨e1, rfl⟩ := H1.out (by omega)
                  simp
                  omega
          · go_wp2
            all_goals (try (exfalso; go_light; (try simp only [decide_eq_true_eq, decide_eq_false_iff_not, beq_iff_eq, beq_eq_false_iff_ne, ne_eq, Bool.not_eq_true', Bool.not_eq_false'] at *); omega))
            all_goals
              go_ret
              refine ⟨ret_bool ?_, below_alloc⟩
              go_light
              have hbad : nameOk (byteAt s pos) pos = false := by
                by_cases hc : c < 128
                · rw [← (H1.out hc).1]
                  refine Bool.eq_false_iff.2 fun h => ?_
                  have h' := (nameOk_iff c pos).1 h
                  (try simp only [decide_eq_true_eq, decide_eq_false_iff_not, beq_iff_eq, beq_eq_false_iff_ne, ne_eq] at *) <;> omega
                · exact nameOk_high _ _ (h2 (by omega))
              rw [isName, HE.out, nameFrom_bad s pos hp hbad]
              simp
        · cases hB : decide ((c : Int) ≤ 122)
          · cases hC : ((pos : Int) == 0)
            · cases hD : ((c : Int) == 95)
              · cases hE : decide ((c : Int) < 48)
                · cases hF : decide ((57 : Int) < (c : Int))
                  · go_wp2
                    all_goals (try (exfalso; go_light; (try simp only [decide_eq_true_eq, decide_eq_false_iff_not, beq_iff_eq, beq_eq_false_iff_ne, ne_eq, Bool.not_eq_true', Bool.not_eq_false'] at *); omega))
                    all_goals
                      go_roundw
                      case rel =>
                        go_light
                        (try simp only [decide_eq_true_eq, decide_eq_false_iff_not, beq_iff_eq, beq_eq_false_iff_ne, ne_eq] at *)
                        obtain ⟨e1, rfl⟩ := H1.out (by omega)
                        refine ⟨pos + 1, by omega, rfl, ?_⟩
                        rw [HE.out]
                        exact nameFrom_good s pos hp (by rw [← e1]; exact (nameOk_iff c pos).2 (by omega))
                      case measure =>
                        go_light
                        (try simp only [decide_eq_true_eq, decide_eq_false_iff_not, beq_iff_eq, beq_eq_false_iff_ne, ne_eq] at *)
                        obtain ⟨e1, rfl⟩ := H1.out (by omega)
                        simp
                        omega
                  · go_wp2
                    all_goals (try (exfalso; go_light; (try simp only [decide_eq_true_eq, decide_eq_false_iff_not, beq_iff_eq, beq_eq_false_iff_ne, ne_eq, Bool.not_eq_true', Bool.not_eq_false'] at *); omega))
                    all_goals
                      go_ret
                      refine ⟨ret_bool ?_, below_alloc⟩
                      go_light
                      have hbad : nameOk (byteAt s pos) pos = false := by
                        by_cases hc : c < 128
                        · rw [← (H1.out hc).1]
                          refine Bool.eq_false_iff.2 fun h => ?_
                          have h' := (nameOk_iff c pos).1 h
                          (try simp only [decide_eq_true_eq, decide_eq_false_iff_not, beq_iff_eq, beq_eq_false_iff_ne, ne_eq] at *) <;> omega
                        · exact nameOk_high _ _ (h2 (by omega))
                      rw [isName, HE.out, nameFrom_bad s pos hp hbad]
                      simp
                · go_wp2
                  all_goals (try (exfalso; go_light; (try simp only [decide_eq_true_eq, decide_eq_false_iff_not, beq_iff_eq, beq_eq_false_iff_ne, ne_eq, Bool.not_eq_true', Bool.not_eq_false'] at *); omega))
                  all_goals
                    go_ret
                    refine ⟨ret_bool ?_, below_alloc⟩
                    go_light
                    have hbad : nameOk (byteAt s pos) pos = false := by
                      by_cases hc : c < 128
                      · rw [← (H1.out hc).1]
                        refine Bool.eq_false_iff.2 fun h => ?_
                        have h' := (nameOk_iff c pos).1 h
                        (try simp only [decide_eq_true_eq, decide_eq_false_iff_not, beq_iff_eq, beq_eq_false_iff_ne, ne_eq] at *) <;> omega
                      · exact nameOk_high _ _ (h2 (by omega))
                    rw [isName, HE.out, nameFrom_bad s pos hp hbad]
                    simp
              · go_wp2
                all_goals (try (exfalso; go_light; (try simp only [decide_eq_true_eq, decide_eq_false_iff_not, beq_iff_eq, beq_eq_false_iff_ne, ne_eq, Bool.not_eq_true', Bool.not_eq_false'] at *); omega))
                all_goals
                  go_roundw
                  case rel =>
                    go_light
                    (try simp only [decide_eq_true_eq, decide_eq_false_iff_not, beq_iff_eq, beq_eq_false_iff_ne, ne_eq] at *)
                    obtain ⟨e1, rfl⟩ := H1.out (by omega)
                    refine ⟨pos + 1, by omega, rfl, ?_⟩
                    rw [HE.out]
                    exact nameFrom_good s pos hp (by rw [← e1]; exact (nameOk_iff c pos).2 (by omega))
                  case measure =>
                    go_light
                    (try simp only [decide_eq_true_eq, decide_eq_false_iff_not, beq_iff_eq, beq_eq_false_iff_ne, ne_eq] at *)
                    obtain ⟨e1, rfl⟩ := H1.out (by omega)
                    simp
                    omega
            · go_wp2
              all_goals (try (exfalso; go_light; (try simp only [decide_eq_true_eq, decide_eq_false_iff_not, beq_iff_eq, beq_eq_false_iff_ne, ne_eq, Bool.not_eq_true', Bool.not_eq_false'] at *); omega))
              all_goals
                go_ret
                refine ⟨ret_bool ?_, below_alloc⟩
                go_light
                have hbad : nameOk (byteAt s pos) pos = false := by
                  by_cases hc : c < 128
                  · rw [← (H1.out hc).1]
                    refine Bool.eq_false_iff.2 fun h => ?_
                    have h' := (nameOk_iff c pos).1 h
                    (try simp only [decide_eq_true_eq, decide_eq_false_iff_not, beq_iff_eq, beq_eq_false_iff_ne, ne_eq] at *) <;> omega
                  · exact nameOk_high _ _ (h2 (by omega))
                rw [isName, HE.out, nameFrom_bad s pos hp hbad]
                simp
          · go_wp2
            all_goals (try (exfalso; go_light; (try simp only [decide_eq_true_eq, decide_eq_false_iff_not, beq_iff_eq, beq_eq_false_iff_ne, ne_eq, Bool.not_eq_true', Bool.not_eq_false'] at *); omega))
            all_goals
              go_roundw
              case rel =>
                go_light
                (try simp only [decide_eq_true_eq, decide_eq_false_iff_not, beq_iff_eq, beq_eq_false_iff_ne, ne_eq] at *)
                obtain ⟨e1, rfl⟩ := H1.out (by omega)
                refine ⟨pos + 1, by omega, rfl, ?_⟩
                rw [HE.out]
                exact nameFrom_good s pos hp (by rw [← e1]; exact (nameOk_iff c pos).2 (by omega))
              case measure =>
                go_light
                (try simp only [decide_eq_true_eq, decide_eq_false_iff_not, beq_iff_eq, beq_eq_false_iff_ne, ne_eq] at *)
                obtain ⟨e1, rfl⟩ := H1.out (by omega)
                simp
                omega
      · have hnx : ∀ ty, (Instr.next (.pointer (some ⟨w.heap.size, 0, none⟩)) true ty).run Tryz.prog (w.iter s pos) = _ := fun ty => run_next_end w s pos ty hp
        go_wp2
        go_ret
        refine ⟨ret_bool ?_, below_alloc⟩
        go_light
        have : pos = s.size := by omega
        subst this
        rw [isName, HE.out, Nat.sub_self, nameFrom]
        rw [nonempty_iff]
        simp [hl]
  · go_wp2
    go_ret
    exact ⟨ret_bool (by simp [isName, hl]), Below.refl _ _⟩
set_option maxRecDepth 100000 in
theorem isName_ref (s : ByteArray) (hs : Str s) (w : World) :
    Calls Tryz.prog 116 #[.string s] w fun e w' => e = .returned (.bool (isName s)) ∧ w = w' := by
  unfold Str at hs
  go_enter Tryz.func116, Tryz.ntmps116
  obtain hl | hl | hl : s.size < 1 ∨ 24 < s.size ∨ (1 ≤ s.size ∧ s.size ≤ 24) := by omega
  · go_wp2
    all_goals (try (exfalso; go_light; (try simp only [decide_eq_true_eq, decide_eq_false_iff_not, beq_iff_eq, beq_eq_false_iff_ne, ne_eq, Bool.not_eq_true', Bool.not_eq_false'] at *); omega))
    all_goals
      go_ret
      refine ⟨ret_bool ?_, rfl⟩
      go_light
      have h0 : ¬ 0 < s.size := by omega
      simp [isName, h0]
  · go_wp2
    all_goals (try (exfalso; go_light; (try simp only [decide_eq_true_eq, decide_eq_false_iff_not, beq_iff_eq, beq_eq_false_iff_ne, ne_eq, Bool.not_eq_true', Bool.not_eq_false'] at *); omega))
    all_goals
      go_ret
      refine ⟨ret_bool ?_, rfl⟩
      go_light
      have h0 : ¬ s.size ≤ 24 := by omega
      simp [isName, h0]
  · obtain ⟨hl1, hl2⟩ := hl
    have hz : 0 < s.size := by omega
    obtain ⟨d, hd⟩ : ∃ d, (s[0]'hz).toNat = d := ⟨_, rfl⟩
    have HD : Hid (d = byteAt s 0) := hide (by rw [byteAt_eq s 0 hz, hd])
    have early : (d < 97 ∨ 122 < d) → isName s = false := fun h => by
      have hbad : nameOk (byteAt s 0) 0 = false := by
        rw [← HD.out]
        refine Bool.eq_false_iff.2 fun h' => ?_
        have := (nameOk_iff d 0).1 h'
        omega
      have := nameFrom_bad s 0 hz hbad
      rw [Nat.sub_zero] at this
      rw [isName, this]
      simp
    cases hA0 : decide ((d : Int) < 97)
    · cases hB0 : decide ((122 : Int) < (d : Int))
      · go_wp2
        go_loop [3] (fun i => ∃ pos : Nat, pos ≤ s.size ∧ i = .int .i64 pos ∧ nameFrom s s.size 0 = nameFrom s (s.size - pos) pos) (fun i => s.size - (intOf i).toNat)
        case atStart => exact ⟨0, by omega, rfl, rfl⟩
        case round =>
          obtain ⟨pos, hpos, rfl, heq⟩ := hrel
          have HE := hide heq
          clear heq
          by_cases hp : pos < s.size
          · obtain ⟨c, hc⟩ : ∃ c, (s[pos]'hp).toNat = c := ⟨_, rfl⟩
            have HC : Hid (c = byteAt s pos) := hide (by rw [byteAt_eq s pos hp, hc])
            have h0 : pos = 0 → c = d := by intro h; subst h; rw [HC.out, HD.out]
            cases hA : decide ((97 : Int) ≤ (c : Int))
            · cases hE : decide ((48 : Int) ≤ (c : Int))
              · cases hD : ((c : Int) == 95)
                · go_wp2
                  all_goals (try (exfalso; go_light; (try simp only [decide_eq_true_eq, decide_eq_false_iff_not, beq_iff_eq, beq_eq_false_iff_ne, ne_eq, Bool.not_eq_true', Bool.not_eq_false'] at *); omega))
                  all_goals
                    go_ret
                    refine ⟨ret_bool ?_, rfl⟩
                    go_light
                    have hbad : nameOk (byteAt s pos) pos = false := by
                      rw [← HC.out]
                      refine Bool.eq_false_iff.2 fun h => ?_
                      have h' := (nameOk_iff c pos).1 h
                      (try simp only [decide_eq_true_eq, decide_eq_false_iff_not, beq_iff_eq, beq_eq_false_iff_ne, ne_eq] at *) <;> omega
                    rw [isName, HE.out, nameFrom_bad s pos hp hbad]
                    simp
                · go_wp2
                  all_goals (try (exfalso; go_light; (try simp only [decide_eq_true_eq, decide_eq_false_iff_not, beq_iff_eq, beq_eq_false_iff_ne, ne_eq, Bool.not_eq_true', Bool.not_eq_false'] at *); omega))
                  all_goals
                    go_round
                    case rel =>
                      go_light
                      (try simp only [decide_eq_true_eq, decide_eq_false_iff_not, beq_iff_eq, beq_eq_false_iff_ne, ne_eq] at *)
                      refine ⟨pos + 1, by omega, by go_num, ?_⟩
                      rw [HE.out]
                      exact nameFrom_good s pos hp (by rw [← HC.out]; exact (nameOk_iff c pos).2 (by omega))
                    case measure => simp [intOf]; omega
              · cases hF : decide ((c : Int) ≤ 57)
                · cases hD : ((c : Int) == 95)
                  · go_wp2
                    all_goals (try (exfalso; go_light; (try simp only [decide_eq_true_eq, decide_eq_false_iff_not, beq_iff_eq, beq_eq_false_iff_ne, ne_eq, Bool.not_eq_true', Bool.not_eq_false'] at *); omega))
                    all_goals
                      go_ret
                      refine ⟨ret_bool ?_, rfl⟩
                      go_light
                      have hbad : nameOk (byteAt s pos) pos = false := by
                        rw [← HC.out]
                        refine Bool.eq_false_iff.2 fun h => ?_
                        have h' := (nameOk_iff c pos).1 h
                        (try simp only [decide_eq_true_eq, decide_eq_false_iff_not, beq_iff_eq, beq_eq_false_iff_ne, ne_eq] at *) <;> omega
                      rw [isName, HE.out, nameFrom_bad s pos hp hbad]
                      simp
                  · go_wp2
                    all_goals (try (exfalso; go_light; (try simp only [decide_eq_true_eq, decide_eq_false_iff_not, beq_iff_eq, beq_eq_false_iff_ne, ne_eq, Bool.not_eq_true', Bool.not_eq_false'] at *); omega))
                    all_goals
                      go_round
                      case rel =>
                        go_light
                        (try simp only [decide_eq_true_eq, decide_eq_false_iff_not, beq_iff_eq, beq_eq_false_iff_ne, ne_eq] at *)
                        refine ⟨pos + 1, by omega, by go_num, ?_⟩
                        rw [HE.out]
                        exact nameFrom_good s pos hp (by rw [← HC.out]; exact (nameOk_iff c pos).2 (by omega))
                      case measure => simp [intOf]; omega
                · go_wp2
                  all_goals (try (exfalso; go_light; (try simp only [decide_eq_true_eq, decide_eq_false_iff_not, beq_iff_eq, beq_eq_false_iff_ne, ne_eq, Bool.not_eq_true', Bool.not_eq_false'] at *); omega))
                  all_goals
                    go_round
                    case rel =>
                      go_light
                      (try simp only [decide_eq_true_eq, decide_eq_false_iff_not, beq_iff_eq, beq_eq_false_iff_ne, ne_eq] at *)
                      refine ⟨pos + 1, by omega, by go_num, ?_⟩
                      rw [HE.out]
                      exact nameFrom_good s pos hp (by rw [← HC.out]; exact (nameOk_iff c pos).2 (by omega))
                    case measure => simp [intOf]; omega
            · cases hB : decide ((c : Int) ≤ 122)
              · cases hE : decide ((48 : Int) ≤ (c : Int))
                · cases hD : ((c : Int) == 95)
                  · go_wp2
                    all_goals (try (exfalso; go_light; (try simp only [decide_eq_true_eq, decide_eq_false_iff_not, beq_iff_eq, beq_eq_false_iff_ne, ne_eq, Bool.not_eq_true', Bool.not_eq_false'] at *); omega))
                    all_goals
                      go_ret
                      refine ⟨ret_bool ?_, rfl⟩
                      go_light
                      have hbad : nameOk (byteAt s pos) pos = false := by
                        rw [← HC.out]
                        refine Bool.eq_false_iff.2 fun h => ?_
                        have h' := (nameOk_iff c pos).1 h
                        (try simp only [decide_eq_true_eq, decide_eq_false_iff_not, beq_iff_eq, beq_eq_false_iff_ne, ne_eq] at *) <;> omega
                      rw [isName, HE.out, nameFrom_bad s pos hp hbad]
                      simp
                  · go_wp2
                    all_goals (try (exfalso; go_light; (try simp only [decide_eq_true_eq, decide_eq_false_iff_not, beq_iff_eq, beq_eq_false_iff_ne, ne_eq, Bool.not_eq_true', Bool.not_eq_false'] at *); omega))
                    all_goals
                      go_round
                      case rel =>
                        go_light
                        (try simp only [decide_eq_true_eq, decide_eq_false_iff_not, beq_iff_eq, beq_eq_false_iff_ne, ne_eq] at *)
                        refine ⟨pos + 1, by omega, by go_num, ?_⟩
                        rw [HE.out]
                        exact nameFrom_good s pos hp (by rw [← HC.out]; exact (nameOk_iff c pos).2 (by omega))
                      case measure => simp [intOf]; omega
                · cases hF : decide ((c : Int) ≤ 57)
                  · cases hD : ((c : Int) == 95)
                    · go_wp2
                      all_goals (try (exfalso; go_light; (try simp only [decide_eq_true_eq, decide_eq_false_iff_not, beq_iff_eq, beq_eq_false_iff_ne, ne_eq, Bool.not_eq_true', Bool.not_eq_false'] at *); omega))
                      all_goals
                        go_ret
                        refine ⟨ret_bool ?_, rfl⟩
                        go_light
                        have hbad : nameOk (byteAt s pos) pos = false := by
                          rw [← HC.out]
                          refine Bool.eq_false_iff.2 fun h => ?_
                          have h' := (nameOk_iff c pos).1 h
                          (try simp only [decide_eq_true_eq, decide_eq_false_iff_not, beq_iff_eq, beq_eq_false_iff_ne, ne_eq] at *) <;> omega
                        rw [isName, HE.out, nameFrom_bad s pos hp hbad]
                        simp
                    · go_wp2
                      all_goals (try (exfalso; go_light; (try simp only [decide_eq_true_eq, decide_eq_false_iff_not, beq_iff_eq, beq_eq_false_iff_ne, ne_eq, Bool.not_eq_true', Bool.not_eq_false'] at *); omega))
                      all_goals
                        go_round
                        case rel =>
                          go_light
                          (try simp only [decide_eq_true_eq, decide_eq_false_iff_not, beq_iff_eq, beq_eq_false_iff_ne, ne_eq] at *)
                          refine ⟨pos + 1, by omega, by go_num, ?_⟩
                          rw [HE.out]
                          exact nameFrom_good s pos hp (by rw [← HC.out]; exact (nameOk_iff c pos).2 (by omega))
                        case measure => simp [intOf]; omega
                  · go_wp2
                    all_goals (try (exfalso; go_light; (try simp only [decide_eq_true_eq, decide_eq_false_iff_not, beq_iff_eq, beq_eq_false_iff_ne, ne_eq, Bool.not_eq_true', Bool.not_eq_false'] at *); omega))
                    all_goals
                      go_round
                      case rel =>
                        go_light
                        (try simp only [decide_eq_true_eq, decide_eq_false_iff_not, beq_iff_eq, beq_eq_false_iff_ne, ne_eq] at *)
                        refine ⟨pos + 1, by omega, by go_num, ?_⟩
                        rw [HE.out]
                        exact nameFrom_good s pos hp (by rw [← HC.out]; exact (nameOk_iff c pos).2 (by omega))
                      case measure => simp [intOf]; omega
              · go_wp2
                all_goals (try (exfalso; go_light; (try simp only [decide_eq_true_eq, decide_eq_false_iff_not, beq_iff_eq, beq_eq_false_iff_ne, ne_eq, Bool.not_eq_true', Bool.not_eq_false'] at *); omega))
                all_goals
                  go_round
                  case rel =>
                    go_light
                    (try simp only [decide_eq_true_eq, decide_eq_false_iff_not, beq_iff_eq, beq_eq_false_iff_ne, ne_eq] at *)
                    refine ⟨pos + 1, by omega, by go_num, ?_⟩
                    rw [HE.out]
                    exact nameFrom_good s pos hp (by rw [← HC.out]; exact (nameOk_iff c pos).2 (by omega))
                  case measure => simp [intOf]; omega
          · go_wp2
            go_ret
            refine ⟨ret_bool ?_, rfl⟩
            go_light
            have : pos = s.size := by omega
            subst this
            rw [isName, HE.out, Nat.sub_self, nameFrom]
            simp [hl2, hz]
      · have he := early (.inr (by simp only [decide_eq_true_eq] at hB0; omega))
        go_wp2
        all_goals (go_ret; exact ⟨ret_bool he.symm, rfl⟩)
    · have he := early (.inl (by simp only [decide_eq_true_eq] at hA0; omega))
      go_wp2
      all_goals (go_ret; exact ⟨ret_bool he.symm, rfl⟩)
end Go.Proofs.YtodapiholjeehaaGreatDoor

namespace Go.Proofs.YtodapiholjeehaaGreatDoor
open Go.RowKit
set_option linter.unusedSimpArgs false
set_option linter.unusedVariables false
theorem index_clo (c : Col) (name : ByteArray) (g : Nat) (w : World) (hg : w.cell? ⟨g, 0, none⟩ = some (.string name)) (hlt : g < w.heap.size) :
    Calls Tryz.prog 170 #[.agg c.cells.toArray, .pointer (some ⟨g, 0, none⟩)] w fun e w' => e = .returned (.bool (c.name.toList == name.toList)) ∧ Below w.heap.size w w' := by
  simp only [Col.cells]
  go_enter Tryz.func170, Tryz.ntmps170
  go_wp2
  go_ret
  exact ⟨rfl, below_alloc⟩
set_option maxRecDepth 100000 in
theorem indexFunc_col (w : World) (A : Option Addr) (n c : Nat) (xs : List Col) (hx : In w A n c xs) (name : ByteArray) (g : Nat) (hg : w.cell? ⟨g, 0, none⟩ = some (.string name)) (hlt : g < w.heap.size) :
    Calls Tryz.prog 169 #[.slice A n c, .func (.func 170) #[] #[.pointer (some ⟨g, 0, none⟩)]] w
      fun e w' => e = .returned (.int .i64 (index xs name)) ∧ Below w.heap.size w w' := by
  have h63 := hx.le
  go_enter Tryz.func169, Tryz.ntmps169
  go_wp2
  go_loopw [8] (fun i wr => ∃ k : Nat, k ≤ n ∧ i = .int .i64 k ∧ index xs name = indexFrom name k (xs.drop k) ∧ Below w.heap.size w wr) (fun i _ => n - (intOf i).toNat)
  case atStart => exact ⟨0, Nat.zero_le _, rfl, rfl, Below.refl _ _⟩
  case round =>
    obtain ⟨k, hk, rfl, heq, hb⟩ := hrel
    have HE := hide heq
    clear heq
    by_cases hlt' : k < n
    · obtain ⟨b, off, x, rfl, hB, HX, e0, e1, e2, e3⟩ := (hx.below hb).col hlt'
      go_wp2_with fail
      refine (index_clo x name g _ (bat hb hlt hg) (Nat.lt_of_lt_of_le hlt hb.size)).mono ?_
      rintro e w1 ⟨rfl, hb1⟩
      have hbb := below_trans hb hb1
      clear hb1 e0 e1 e2
      cases hz : (x.name.toList == name.toList)
      · go_wp2
        go_roundw
        case rel => exact ⟨k + 1, by omega, by go_num, by rw [HE.out, HX.out, indexFrom, if_neg (by simp [hz])], hbb⟩
        case measure => simp [intOf]; omega
      · go_wp2
        go_ret
        exact ⟨ret_int (by rw [HE.out, HX.out, indexFrom, if_pos hz]), hbb⟩
    · go_wp2
      go_ret
      exact ⟨ret_int (by rw [HE.out, drop_end hx.len (by omega), indexFrom]), hb⟩
theorem index_any (w : World) (A : Option Addr) (n c : Nat) (xs : List Col) (hx : In w A n c xs) (name : ByteArray) :
    Calls Tryz.prog 112 #[.slice A n c, .string name] w fun e w' => e = .returned (.int .i64 (index xs name)) ∧ Below w.heap.size w w' := by
  go_enter Tryz.func112, Tryz.ntmps112
  go_wp2_with fail
  refine (indexFunc_col _ _ _ _ xs (hx.below below_alloc) name w.heap.size (by simp [go_sem]) (by simp)).mono ?_
  rintro e w1 ⟨rfl, hb1⟩
  have hbb := below_trans below_alloc hb1
  go_wp2
  go_ret
  exact ⟨rfl, hbb⟩
set_option maxRecDepth 100000 in
theorem index_ref (w : World) (A : Option Addr) (n c : Nat) (xs : List Col) (hx : In w A n c xs) (name : ByteArray) :
    Calls Tryz.prog 117 #[.slice A n c, .string name] w fun e w' => e = .returned (.int .i64 (index xs name)) ∧ w = w' := by
  have h63 := hx.le
  go_enter Tryz.func117, Tryz.ntmps117
  go_wp2
  go_loop [5] (fun i => ∃ k : Nat, k ≤ n ∧ i = .int .i64 k ∧ index xs name = indexFrom name k (xs.drop k)) (fun i => n - (intOf i).toNat)
  case atStart => exact ⟨0, Nat.zero_le _, rfl, rfl⟩
  case round =>
    obtain ⟨k, hk, rfl, heq⟩ := hrel
    have HE := hide heq
    clear heq
    by_cases hlt' : k < n
    · obtain ⟨b, off, x, rfl, hB, HX, e0, e1, e2, e3⟩ := hx.col hlt'
      cases hz : (x.name.toList == name.toList)
      · go_wp2
        go_round
        case rel => exact ⟨k + 1, by omega, by go_num, by rw [HE.out, HX.out, indexFrom, if_neg (by simp [hz])]⟩
        case measure => simp [intOf]; omega
      · go_wp2
        go_ret
        exact ⟨ret_int (by rw [HE.out, HX.out, indexFrom, if_pos hz]), rfl⟩
    · go_wp2
      go_ret
      exact ⟨ret_int (by rw [HE.out, drop_end hx.len (by omega), indexFrom]), rfl⟩
end Go.Proofs.YtodapiholjeehaaGreatDoor

namespace Go.Proofs.YtodapiholjeehaaGreatDoor
open Go.RowKit
set_option linter.unusedSimpArgs false
set_option linter.unusedVariables false
theorem firstErr_zero {α : Type} {f : Nat → α → Int} {k : Nat} {x : α} {l : List α} (h : f k x = 0) : firstErr f k (x :: l) = firstErr f (k + 1) l := by simp [firstErr, h]
theorem firstErr_err {α : Type} {f : Nat → α → Int} {k : Nat} {x : α} {l : List α} {e : Int} (h : f k x = e) (he : e ≠ 0) : firstErr f k (x :: l) = e := by simp [firstErr, h, he]
theorem indexFrom_le (name : ByteArray) (l : List Col) : ∀ k i, (h : i < l.length) → (l[i].name.toList == name.toList) = true → 0 ≤ indexFrom name k l ∧ indexFrom name k l ≤ k + i := by
  induction l with
  | nil => intro k i h; simp at h
  | cons c l ih =>
    intro k i h he
    rw [indexFrom]
    split
    · exact ⟨by omega, by omega⟩
    · rename_i hc
      cases i with
      | zero => exact absurd he hc
      | succ i =>
        have := ih (k + 1) i (by simpa using h) (by simpa using he)
        omega
set_option maxRecDepth 100000 in
theorem cols_any (w : World) (A : Option Addr) (n c : Nat) (xs : List Col) (hx : In w A n c xs) :
    Calls Tryz.prog 70 #[.slice A n c] w fun e w' => e = .returned (.int .i64 (colsErr xs)) ∧ Below w.heap.size w w' := by
  have h63 := hx.le
  have hlen := hide hx.len
  go_enter Tryz.func70, Tryz.ntmps70
  by_cases hs : n < 1 ∨ 12 < n
  · have he : Hid (2 = colsErr xs) := hide (by rw [colsErr, hlen.out, if_pos hs])
    rcases hs with hs | hs
    all_goals
      go_wp2
      go_ret
      exact ⟨ret_int he.out, Below.refl _ _⟩
  have HE0 : Hid (colsErr xs = firstErr (colErr xs) 0 xs) := hide (by rw [colsErr, hlen.out, if_neg hs])
  have hs1 : 1 ≤ n := by omega
  have hs2 : n ≤ 12 := by omega
  clear hs
  go_wp2
  go_loopw [15] (fun i wr => ∃ k : Nat, k ≤ n ∧ i = .int .i64 k ∧ firstErr (colErr xs) 0 xs = firstErr (colErr xs) k (xs.drop k) ∧ Below w.heap.size w wr) (fun i _ => n - (intOf i).toNat)
  case atStart => exact ⟨0, Nat.zero_le _, rfl, rfl, Below.refl _ _⟩
  case round =>
    obtain ⟨k, hk, rfl, heq, hb⟩ := hrel
    have HE := hide heq
    clear heq
    by_cases hlt : k < n
    · obtain ⟨b, off, x, rfl, hB, HX, e0, e1, e2, e3⟩ := (hx.below hb).col hlt
      go_wp2_with fail
      refine (isName_any x.name e3.1 _).mono ?_
      rintro e w1 ⟨rfl, hb1⟩
      have hbb := below_trans (below_trans hb below_alloc) hb1
      obtain ⟨hc1, hf1⟩ := bcell hb1
      have hin := hx.below hbb
      clear hb1 e0 e1 e2
      obtain ⟨hk1, hk2⟩ := e3.2
      cases hnm : isName x.name
      · go_wp2
        go_ret
        exact ⟨ret_int (by rw [HE0.out, HE.out, HX.out]; exact (firstErr_err (by simp [colErr, hnm]) (by omega)).symm), hbb⟩
      · by_cases hkd : x.kind < 1 ∨ 4 < x.kind
        · have he : colErr xs k x = 7 := by rw [colErr, if_neg (by simp [hnm]), if_pos hkd]
          have HR : Hid (7 = colsErr xs) := hide (by rw [HE0.out, HE.out, HX.out]; exact (firstErr_err he (by omega)).symm)
          clear he
          rcases hkd with hkd | hkd
          all_goals
            go_wp2
            go_ret
            exact ⟨ret_int HR.out, hbb⟩
        · have hk3 : 1 ≤ x.kind := by omega
          have hk4 : x.kind ≤ 4 := by omega
          have HC : Hid (colErr xs k x = if index xs x.name < k then 6 else 0) := hide (by rw [colErr, if_neg (by simp [hnm]), if_neg hkd])
          clear hkd
          go_wp2_with fail
          refine (index_any _ _ _ _ xs hin x.name).mono ?_
          rintro e w2 ⟨rfl, hb2⟩
          have hbb2 := below_trans hbb hb2
          clear hb2 hc1 hf1
          by_cases hi : index xs x.name < k
          · have HR : Hid (6 = colsErr xs) := hide (by rw [HE0.out, HE.out, HX.out]; exact (firstErr_err (by rw [HC.out, if_pos hi]) (by omega)).symm)
            go_wp2
            go_ret
            exact ⟨ret_int HR.out, hbb2⟩
          · go_wp2
            go_roundw
            case rel => exact ⟨k + 1, by omega, by go_num, by rw [HE.out, HX.out]; exact firstErr_zero (by rw [HC.out, if_neg (by omega)]), hbb2⟩
            case measure => simp [intOf]; omega
    · go_wp2
      go_ret
      exact ⟨ret_int (by rw [HE0.out, HE.out, drop_end hx.len (by omega), firstErr]), hb⟩
theorem index_self {xs : List Col} {k : Nat} {x : Col} {l : List Col} (h : xs.drop k = x :: l) : 0 ≤ index xs x.name ∧ index xs x.name ≤ k := by
  obtain ⟨h1, h2⟩ := drop_get h
  rw [List.getElem?_eq_getElem h2] at h1
  injection h1 with h1
  have := indexFrom_le x.name xs 0 k h2 (by rw [h1]; simp)
  rw [index]
  omega
set_option maxRecDepth 100000 in
theorem cols_ref (w : World) (A : Option Addr) (n c : Nat) (xs : List Col) (hx : In w A n c xs) :
    Calls Tryz.prog 75 #[.slice A n c] w fun e w' => e = .returned (.int .i64 (colsErr xs)) ∧ w = w' := by
  have h63 := hx.le
  have hlen := hide hx.len
  go_enter Tryz.func75, Tryz.ntmps75
  by_cases hs : n < 1 ∨ 12 < n
  · have he : Hid (2 = colsErr xs) := hide (by rw [colsErr, hlen.out, if_pos hs])
    rcases hs with hs | hs
    all_goals
      go_wp2
      go_ret
      exact ⟨ret_int he.out, rfl⟩
  have HE0 : Hid (colsErr xs = firstErr (colErr xs) 0 xs) := hide (by rw [colsErr, hlen.out, if_neg hs])
  have hs1 : 1 ≤ n := by omega
  have hs2 : n ≤ 12 := by omega
  clear hs
  go_wp2
  go_loop [3] (fun i => ∃ k : Nat, k ≤ n ∧ i = .int .i64 k ∧ firstErr (colErr xs) 0 xs = firstErr (colErr xs) k (xs.drop k)) (fun i => n - (intOf i).toNat)
  case atStart => exact ⟨0, Nat.zero_le _, rfl, rfl⟩
  case round =>
    obtain ⟨k, hk, rfl, heq⟩ := hrel
    have HE := hide heq
    clear heq
    by_cases hlt : k < n
    · obtain ⟨b, off, x, rfl, hB, HX, e0, e1, e2, e3⟩ := hx.col hlt
      obtain ⟨hk1, hk2⟩ := e3.2
      cases hnm : isName x.name
      · go_wp2_with (go_at_call 116; refine (isName_ref x.name e3.1 _).mono ?_; rintro e w' ⟨rfl, rfl⟩)
        go_ret
        exact ⟨ret_int (by rw [HE0.out, HE.out, HX.out]; exact (firstErr_err (by simp [colErr, hnm]) (by omega)).symm), rfl⟩
      · by_cases hkd : x.kind < 1 ∨ 4 < x.kind
        · have he : colErr xs k x = 7 := by rw [colErr, if_neg (by simp [hnm]), if_pos hkd]
          have HR : Hid (7 = colsErr xs) := hide (by rw [HE0.out, HE.out, HX.out]; exact (firstErr_err he (by omega)).symm)
          clear he
          rcases hkd with hkd | hkd
          all_goals
            go_wp2_with (go_at_call 116; refine (isName_ref x.name e3.1 _).mono ?_; rintro e w' ⟨rfl, rfl⟩)
            go_ret
            exact ⟨ret_int HR.out, rfl⟩
        · have hk3 : 1 ≤ x.kind := by omega
          have hk4 : x.kind ≤ 4 := by omega
          have HC : Hid (colErr xs k x = if index xs x.name < k then 6 else 0) := hide (by rw [colErr, if_neg (by simp [hnm]), if_neg hkd])
          clear hkd
          obtain ⟨i1, i2⟩ := index_self HX.out
          by_cases hi : index xs x.name = k
          · have HR : Hid (colErr xs k x = 0) := hide (by rw [HC.out, if_neg (by omega)])
            have hz : (index xs x.name == (k : Int)) = true := by simp [hi]
            have HI := hide hi
            clear hi
            go_wp2_with (first | (go_at_call 116; refine (isName_ref x.name e3.1 _).mono ?_; rintro e w' ⟨rfl, rfl⟩) | (go_at_call 117; refine (index_ref _ _ _ _ xs hx x.name).mono ?_; rintro e w' ⟨rfl, rfl⟩))
            all_goals (try (exfalso; go_light; simp_all; done))
            go_round
            case rel => exact ⟨k + 1, by omega, by go_num, by rw [HE.out, HX.out]; exact firstErr_zero HR.out⟩
            case measure => simp [intOf]; omega
          · have HR : Hid (6 = colsErr xs) := hide (by rw [HE0.out, HE.out, HX.out]; exact (firstErr_err (by rw [HC.out, if_pos (by omega)]) (by omega)).symm)
            have hz : (index xs x.name == (k : Int)) = false := by simp [hi]
            go_wp2_with (first | (go_at_call 116; refine (isName_ref x.name e3.1 _).mono ?_; rintro e w' ⟨rfl, rfl⟩) | (go_at_call 117; refine (index_ref _ _ _ _ xs hx x.name).mono ?_; rintro e w' ⟨rfl, rfl⟩))
            all_goals (try (exfalso; go_light; simp_all; done))
            go_ret
            exact ⟨ret_int HR.out, rfl⟩
    · go_wp2
      go_ret
      exact ⟨ret_int (by rw [HE0.out, HE.out, drop_end hx.len (by omega), firstErr]), rfl⟩
end Go.Proofs.YtodapiholjeehaaGreatDoor

namespace Go.Proofs.YtodapiholjeehaaGreatDoor
set_option linter.unusedVariables false
set_option linter.unusedSimpArgs false
open Go.RowKit
set_option maxHeartbeats 400000 in
theorem valid_ref (v : Val) (hv : v.ok) (w : World) :
    Calls Tryz.prog 159 #[.agg v.cells.toArray] w fun e w' => e = .returned (.bool (valid v)) ∧ Below w.heap.size w w' := by
  obtain ⟨k, n, s⟩ := v
  simp only [Val.cells, Val.ok, Str, I64] at *
  obtain ⟨⟨h1, h2⟩, ⟨h3, h4⟩, h5⟩ := hv
  go_enter Tryz.func159, Tryz.ntmps159
  go_wp2
  all_goals
    go_ret
    refine ⟨ret_bool ?_, below_alloc⟩
    go_light
    simp only [beq_iff_eq, beq_eq_false_iff_ne, ne_eq] at *
    try subst k
    simp_all [valid, noStr]
  all_goals (try omega)
  all_goals (try (repeat' split <;> omega))
end Go.Proofs.YtodapiholjeehaaGreatDoor

namespace Go.Proofs.YtodapiholjeehaaGreatDoor
set_option linter.unusedVariables false
set_option linter.unusedSimpArgs false
open Go.RowKit
set_option maxHeartbeats 400000 in
theorem valid_any (v : Val) (hv : v.ok) (w : World) :
    Calls Tryz.prog 166 #[.agg v.cells.toArray] w fun e w' => e = .returned (.bool (valid v)) ∧ Below w.heap.size w w' := by
  obtain ⟨k, n, s⟩ := v
  simp only [Val.cells, Val.ok, Str, I64] at *
  obtain ⟨⟨h1, h2⟩, ⟨h3, h4⟩, h5⟩ := hv
  go_enter Tryz.func166, Tryz.ntmps166
  go_wp2
  all_goals
    go_ret
    refine ⟨ret_bool ?_, below_alloc⟩
    go_light
    simp only [beq_iff_eq, beq_eq_false_iff_ne, ne_eq] at *
    try subst k
    simp_all [valid, noStr]
  all_goals (try omega)
  all_goals (try (repeat' split <;> omega))
theorem isNaN_int (a : Int) (w : World) : Calls Tryz.prog 268 #[.int .i64 a] w fun e w' => e = .returned (.bool false) ∧ w = w' := by
  go_enter Tryz.func268, Tryz.ntmps268
  go_wp2
  all_goals (go_ret; exact ⟨by simp, rfl⟩)
theorem isNaN_str (a : ByteArray) (w : World) : Calls Tryz.prog 269 #[.string a] w fun e w' => e = .returned (.bool false) ∧ w = w' := by
  go_enter Tryz.func269, Tryz.ntmps269
  go_wp2
  all_goals (go_ret; exact ⟨by simp, rfl⟩)
theorem cmp_int (a b : Int) (w : World) : Calls Tryz.prog 208 #[.int .i64 a, .int .i64 b] w fun e w' => e = .returned (.int .i64 (cmpInt a b)) ∧ w = w' := by
  go_enter Tryz.func208, Tryz.ntmps208
  go_wp2_with (go_at_call 268; refine (isNaN_int _ _).mono ?_; rintro e w' ⟨rfl, rfl⟩)
  all_goals (go_ret; refine ⟨ret_int ?_, rfl⟩; go_light; simp only [cmpInt]; (repeat' split) <;> omega)
theorem cmp_str (a b : ByteArray) (w : World) : Calls Tryz.prog 209 #[.string a, .string b] w fun e w' => e = .returned (.int .i64 (cmpStr a b)) ∧ w = w' := by
  go_enter Tryz.func209, Tryz.ntmps209
  go_wp2_with (go_at_call 269; refine (isNaN_str _ _).mono ?_; rintro e w' ⟨rfl, rfl⟩)
  all_goals (go_ret; refine ⟨ret_int ?_, rfl⟩; go_light; simp only [cmpStr]; simp_all)
def or3 (a b c : Int) : Int := if a ≠ 0 then a else if b ≠ 0 then b else c
theorem or_three (a b c : Int) (w : World) (g : Nat) (h0 : w.cell? ⟨g, 0, none⟩ = some (.int .i64 a)) (h1 : w.cell? ⟨g, 1, none⟩ = some (.int .i64 b)) (h2 : w.cell? ⟨g, 2, none⟩ = some (.int .i64 c)) :
    Calls Tryz.prog 207 #[.slice (some ⟨g, 0, none⟩) 3 3] w fun e w' => e = .returned (.int .i64 (or3 a b c)) ∧ w = w' := by
  go_enter Tryz.func207, Tryz.ntmps207
  go_wp2
  go_loop [5, 8] (fun _ i => ∃ k : Nat, k ≤ 3 ∧ i = .int .i64 k ∧ (1 ≤ k → a = 0) ∧ (2 ≤ k → b = 0) ∧ (3 ≤ k → c = 0)) (fun _ i => 3 - (intOf i).toNat)
  case atStart => exact ⟨0, by omega, rfl, by omega, by omega, by omega⟩
  case round =>
    obtain ⟨k, hk, rfl, ha, hb, hc⟩ := hrel
    obtain rfl | rfl | rfl | rfl : k = 0 ∨ k = 1 ∨ k = 2 ∨ k = 3 := by omega
    · clear ha hb hc
      go_wp2
      · go_ret
        exact ⟨ret_int (by go_light; simp_all [or3]), rfl⟩
      · go_round
        case rel => exact ⟨1, by omega, by go_num, (by intro _; go_light; simp_all), by omega, by omega⟩
        case measure => simp [intOf]
    · have ha := ha (by omega)
      subst ha
      clear hb hc
      go_wp2
      · go_ret
        exact ⟨ret_int (by go_light; simp_all [or3]), rfl⟩
      · go_round
        case rel => exact ⟨2, by omega, by go_num, (by first | trivial | (intro _; rfl)), (by intro _; go_light; simp_all), by omega⟩
        case measure => simp [intOf]
    · have ha := ha (by omega)
      have hb := hb (by omega)
      subst ha hb
      clear hc
      go_wp2
      · go_ret
        exact ⟨ret_int (by go_light; simp_all [or3]), rfl⟩
      · go_round
        case rel => exact ⟨3, by omega, by go_num, (by first | trivial | (intro _; rfl)), (by first | trivial | (intro _; rfl)), (by intro _; go_light; simp_all)⟩
        case measure => simp [intOf]
    · have ha := ha (by omega)
      have hb := hb (by omega)
      have hc := hc (by omega)
      subst ha hb hc
      go_wp2
      go_ret
      exact ⟨ret_int (by simp [or3]), rfl⟩
set_option maxRecDepth 100000 in
theorem cmp_val (a b : Val) (w : World) :
    Calls Tryz.prog 153 #[.agg a.cells.toArray, .agg b.cells.toArray] w fun e w' => e = .returned (.int .i64 (cmpVal a b)) ∧ Below w.heap.size w w' := by
  obtain ⟨k, n, s⟩ := a
  obtain ⟨k', n', s'⟩ := b
  simp only [Val.cells]
  go_enter Tryz.func153, Tryz.ntmps153
  go_wp2_with fail
  generalize hW : ((w.alloc _).alloc _) = W
  have c0 : W.cell? ⟨w.heap.size, 0, none⟩ = some (.int .i64 k) := by subst hW; simp [World.cell?_alloc_lt, go_sem]
  have c1 : W.cell? ⟨w.heap.size, 1, none⟩ = some (.int .i64 n) := by subst hW; simp [World.cell?_alloc_lt, go_sem]
  have c2 : W.cell? ⟨w.heap.size, 2, none⟩ = some (.string s) := by subst hW; simp [World.cell?_alloc_lt, go_sem]
  have d0 : W.cell? ⟨w.heap.size + 1, 0, none⟩ = some (.int .i64 k') := by subst hW; simp [go_sem]
  have d1 : W.cell? ⟨w.heap.size + 1, 1, none⟩ = some (.int .i64 n') := by subst hW; simp [go_sem]
  have d2 : W.cell? ⟨w.heap.size + 1, 2, none⟩ = some (.string s') := by subst hW; simp [go_sem]
  have hb : Below w.heap.size w W := by subst hW; exact below_alloc2
  clear hW
  go_region_held3 (fun w' => w'.cell? ⟨w.heap.size, 0, none⟩ = some (.int .i64 k) ∧ w'.cell? ⟨w.heap.size, 1, none⟩ = some (.int .i64 n) ∧ w'.cell? ⟨w.heap.size, 2, none⟩ = some (.string s)
     ∧ w'.cell? ⟨w.heap.size + 1, 0, none⟩ = some (.int .i64 k') ∧ w'.cell? ⟨w.heap.size + 1, 1, none⟩ = some (.int .i64 n') ∧ w'.cell? ⟨w.heap.size + 1, 2, none⟩ = some (.string s')) (go_keep)
    (first | (go_at_call 208; refine (cmp_int _ _ _).mono ?_; rintro e w' ⟨rfl, rfl⟩) | (go_at_call 209; refine (cmp_str _ _ _).mono ?_; rintro e w' ⟨rfl, rfl⟩) | (go_at_call 207; refine (or_three (cmpInt k k') (cmpInt n n') (cmpStr s s') _ _ ?_ ?_ ?_).mono ?_; (simp [go_sem]); (simp [go_sem]); (simp [go_sem]); rintro e w' ⟨rfl, rfl⟩))
  go_wp2
  go_ret
  exact ⟨rfl, (hb.alloc hb.size _).drew⟩
end Go.Proofs.YtodapiholjeehaaGreatDoor

namespace Go.Proofs.YtodapiholjeehaaGreatDoor
open Go.RowKit
set_option linter.unusedSimpArgs false
set_option linter.unusedVariables false
set_option maxHeartbeats 2000000 in
set_option maxRecDepth 100000 in
theorem arity_any (n : Node) (w : World) : Calls Tryz.prog 172 #[.agg n.cells.toArray] w fun e w' => e = .returned (.int .i64 (arity n.op n.arity)) ∧ Below w.heap.size w w' := by
  obtain ⟨op, ⟨kd, nu, st⟩, nm, ar⟩ := n
  simp only [Node.cells]
  go_enter Tryz.func172, Tryz.ntmps172
  go_wp2
  all_goals (go_ret; refine ⟨ret_int ?_, below_alloc⟩; go_light; unfold arity; first | (simp_all; done) | (simp_all; omega) | (repeat' split) <;> omega)
set_option maxHeartbeats 2000000 in
set_option maxRecDepth 100000 in
theorem arity_ref (n : Node) (w : World) : Calls Tryz.prog 120 #[.agg n.cells.toArray] w fun e w' => e = .returned (.int .i64 (arity n.op n.arity)) ∧ Below w.heap.size w w' := by
  obtain ⟨op, ⟨kd, nu, st⟩, nm, ar⟩ := n
  simp only [Node.cells]
  go_enter Tryz.func120, Tryz.ntmps120
  go_wp2
  all_goals (go_ret; refine ⟨ret_int ?_, below_alloc⟩; go_light; unfold arity; first | (simp_all; done) | (simp_all; omega) | (repeat' split) <;> omega)
end Go.Proofs.YtodapiholjeehaaGreatDoor

namespace Go.Proofs.YtodapiholjeehaaGreatDoor
open Go.RowKit
set_option linter.unusedSimpArgs false
set_option linter.unusedVariables false
theorem noStr_mt : noStr ⟨#[]⟩ = true := by rw [noStr, ByteArray.toList_eq]; rfl
end Go.Proofs.YtodapiholjeehaaGreatDoor

namespace Go.Proofs.YtodapiholjeehaaGreatDoor
open Go.RowKit
set_option linter.unusedSimpArgs false
set_option linter.unusedVariables false
def Fits (c : Col) (v : Val) : Prop := v.ok ∧ cellErr c v = 0
end Go.Proofs.YtodapiholjeehaaGreatDoor

namespace Go.Proofs.YtodapiholjeehaaGreatDoor
open Go.RowKit
set_option linter.unusedSimpArgs false
set_option linter.unusedVariables false
theorem getD_drop {α : Type} {xs : List α} {k : Nat} {x d : α} {l : List α} (h : xs.drop k = x :: l) : xs.getD k d = x := by
  rw [List.getD, (drop_get h).1]; rfl
def rowF (cols : List Col) (i : Nat) (v : Val) : Int := cellErr (cols.getD i default) v
theorem rowF_eq {cols : List Col} {k : Nat} {y : Col} {l : List Col} {x : Val} (h : cols.drop k = y :: l) : rowF cols k x = cellErr y x := by rw [rowF, getD_drop h]
set_option maxRecDepth 100000 in
theorem checkRow_any (w : World) (A A' : Option Addr) (n n' c c' : Nat) (cols : List Col) (row : List Val) (hx : In w A n c cols) (hy : In w A' n' c' row) :
    Calls Tryz.prog 184 #[.slice A n c, .slice A' n' c'] w fun e w' => e = .returned (.int .i64 (rowErr cols row)) ∧ Below w.heap.size w w' := by
  have h63 := hx.le
  have h63' := hy.le
  have hlen := hide hx.len
  have hlen' := hide hy.len
  go_enter Tryz.func184, Tryz.ntmps184
  cases hs : ((n' : Int) == (n : Int))
  · have he : Hid (8 = rowErr cols row) := hide (by rw [rowErr, hlen.out, hlen'.out, if_pos (by simp at hs; omega)])
    go_wp2
    all_goals (try (exfalso; go_light; simp_all; done))
    go_ret
    exact ⟨ret_int he.out, Below.refl _ _⟩
  have HE0 : Hid (rowErr cols row = firstErr (rowF cols) 0 row) := hide (by rw [rowErr, hlen.out, hlen'.out, if_neg (by simp at hs; omega)]; rfl)
  have hnn : n = n' := by simp at hs; omega
  go_wp2
  all_goals (try (exfalso; go_light; simp_all; done))
  have HN := hide hnn
  clear hs hnn
  go_loopw [15] (fun i wr => ∃ k : Nat, k ≤ n' ∧ i = .int .i64 k ∧ firstErr (rowF cols) 0 row = firstErr (rowF cols) k (row.drop k) ∧ Below w.heap.size w wr) (fun i _ => n' - (intOf i).toNat)
  case atStart => exact ⟨0, Nat.zero_le _, rfl, rfl, Below.refl _ _⟩
  case round =>
    obtain ⟨k, hk, rfl, heq, hb⟩ := hrel
    have HE := hide heq
    clear heq
    by_cases hlt : k < n'
    · have hltn : k < n := by rw [HN.out]; exact hlt
      obtain ⟨b', off', x, rfl, hB', HX, f0, f1, f2, f3⟩ := (hy.below hb).val hlt
      obtain ⟨b, off, y, rfl, hB, HY, e0, e1, e2, e3⟩ := (hx.below hb).col hltn
      go_wp2_with fail
      refine (valid_any x f3 _).mono ?_
      rintro e w1 ⟨rfl, hb1⟩
      have hbb := below_trans (below_trans (below_trans hb below_alloc) below_alloc) hb1
      obtain ⟨hc1, hf1⟩ := bcell hb1
      clear hb1 e0 e1 e2 f0 f1 f2
      have HC : Hid (firstErr (rowF cols) 0 row = if cellErr y x = 0 then firstErr (rowF cols) (k + 1) (row.drop (k + 1)) else cellErr y x) := hide (by
        rw [HE.out, HX.out]
        by_cases hz : cellErr y x = 0
        · rw [if_pos hz]; exact firstErr_zero (by rw [rowF_eq HY.out, hz])
        · rw [if_neg hz]; exact firstErr_err (rowF_eq HY.out) hz)
      cases hv : valid x
      · have he : Hid (8 = rowErr cols row) := hide (by rw [HE0.out, HC.out]; simp [cellErr, hv])
        go_wp2
        go_ret
        exact ⟨ret_int he.out, hbb⟩
      · cases hz : (x.kind == 0)
        · cases hq : (x.kind == y.kind)
          · have he : Hid (7 = rowErr cols row) := hide (by
              have e1 : ¬ x.kind = 0 := by simpa using hz
              have e2 : ¬ x.kind = y.kind := by simpa using hq
              rw [HE0.out, HC.out]; simp [cellErr, hv, e1, e2])
            go_wp2
            all_goals (try (exfalso; go_light; simp_all; done))
            all_goals
              go_ret
              exact ⟨ret_int he.out, hbb⟩
          · have he : Hid (cellErr y x = 0) := hide (by
              have e1 : ¬ x.kind = 0 := by simpa using hz
              have e2 : x.kind = y.kind := by simpa using hq
              simp [cellErr, hv, ← e2, e1])
            go_wp2
            all_goals (try (exfalso; go_light; simp_all; done))
            all_goals
              go_roundw
              case rel => exact ⟨k + 1, by omega, by go_num, by rw [HC.out, if_pos he.out], hbb⟩
              case measure => simp [intOf]; omega
        · cases hn : y.nullable
          · have he : Hid (7 = rowErr cols row) := hide (by
              have e1 : x.kind = 0 := by simpa using hz
              rw [HE0.out, HC.out]; simp [cellErr, hv, e1, hn])
            go_wp2
            all_goals (try (exfalso; go_light; simp_all; done))
            all_goals
              go_ret
              exact ⟨ret_int he.out, hbb⟩
          · have he : Hid (cellErr y x = 0) := hide (by
              have e1 : x.kind = 0 := by simpa using hz
              simp [cellErr, hv, e1, hn])
            go_wp2
            all_goals (try (exfalso; go_light; simp_all; done))
            all_goals
              go_roundw
              case rel => exact ⟨k + 1, by omega, by go_num, by rw [HC.out, if_pos he.out], hbb⟩
              case measure => simp [intOf]; omega
    · go_wp2
      go_ret
      exact ⟨ret_int (by rw [HE0.out, HE.out, drop_end hy.len (by omega), firstErr]), hb⟩
theorem below_any {B : Nat} {a w : World} (h : Below B a w) {n : Nat} : Below B a (w.drewN n) := below_drewN h n
end Go.Proofs.YtodapiholjeehaaGreatDoor

namespace Go.Proofs.YtodapiholjeehaaGreatDoor
open Go.RowKit
set_option linter.unusedSimpArgs false
set_option linter.unusedVariables false
theorem val_info : (Tryz.prog.info? 85).map (fun i => (i.zero, i.size, i.bytes)) = some (some (.agg #[.int .i64 0, .int .i64 0, .string ⟨#[]⟩]), 3, 32) := by kernel_rfl
def Part (w : World) (g : Nat) (cols : List Col) (vs : List Val) : Prop :=
  (∀ i, (h : i < vs.length) → At w (fun _ => False) g (i * 3) vs[i]) ∧ ∀ i, (h : i < vs.length) → (h' : i < cols.length) → Fits cols[i] vs[i]
theorem Part.below {w w' : World} {g : Nat} {cols : List Col} {vs : List Val} (h : Part w g cols vs) (hg : g < w.heap.size) (hb : Below w.heap.size w w') : Part w' g cols vs :=
  ⟨fun i hi => by
    obtain ⟨cs, hr, hc⟩ := h.1 i hi
    exact ⟨cs, hr, fun j hj => bat hb hg (hc j hj)⟩, h.2⟩
theorem Part.add {w : World} {g : Nat} {cols : List Col} {vs : List Val} {v : Val} {u0 u1 u2 : Value} (h : Part w g cols vs) (hv : v.ok) (hk : vs.length < cols.length) (hf : Fits cols[vs.length] v)
    (h0 : w.cell? ⟨g, vs.length * 3, none⟩ = some u0) (h1 : w.cell? ⟨g, vs.length * 3 + 1, none⟩ = some u1) (h2 : w.cell? ⟨g, vs.length * 3 + 2, none⟩ = some u2) :
    Part (((w.setCell ⟨g, vs.length * 3, none⟩ (.int .i64 v.kind)).setCell ⟨g, vs.length * 3 + 1, none⟩ (.int .i64 v.num)).setCell ⟨g, vs.length * 3 + 2, none⟩ (.string v.str)) g cols (vs ++ [v]) := by
  refine ⟨fun i hi => ?_, fun i hi hi' => ?_⟩
  · rw [List.length_append] at hi
    by_cases hl : i < vs.length
    · obtain ⟨cs, ⟨rfl, hr⟩, hc⟩ := h.1 i hl
      rw [List.getElem_append_left hl]
      refine ⟨_, ⟨rfl, hr⟩, fun j hj => ?_⟩
      have hj3 : j < 3 := hj
      exact set_far (set_far (set_far (hc j hj) (.inr (by omega))) (.inr (by omega))) (.inr (by omega))
    · obtain rfl : i = vs.length := by simp at hi; omega
      rw [List.getElem_append_right (Nat.le_refl _)]
      simp only [Nat.sub_self, List.getElem_cons_zero]
      refine ⟨v.cells, ⟨rfl, hv⟩, fun j hj => ?_⟩
      have hj3 : j < 3 := hj
      obtain rfl | rfl | rfl : j = 0 ∨ j = 1 ∨ j = 2 := by omega
      · exact set_far (set_far (set_same h0) (.inr (by omega))) (.inr (by omega))
      · exact set_far (set_same (set_far h1 (.inr (by omega)))) (.inr (by omega))
      · exact set_same (set_far (set_far h2 (.inr (by omega))) (.inr (by omega)))
  · rw [List.length_append] at hi
    by_cases hl : i < vs.length
    · rw [List.getElem_append_left hl]; exact h.2 i hl hi'
    · obtain rfl : i = vs.length := by simp at hi; omega
      rw [List.getElem_append_right (Nat.le_refl _)]
      simpa using hf
theorem firstErr_none {α : Type} {f : Nat → α → Int} {l : List α} : ∀ k, (∀ i, (h : i < l.length) → f (k + i) l[i] = 0) → firstErr f k l = 0 := by
  induction l with
  | nil => intro k _; rfl
  | cons x l ih =>
    intro k h
    have h0 := h 0 (by simp)
    rw [firstErr_zero (by simpa using h0)]
    exact ih (k + 1) fun i hi => by
      have := h (i + 1) (by simpa using hi)
      rw [show k + 1 + i = k + (i + 1) from by omega]
      simpa using this
end Go.Proofs.YtodapiholjeehaaGreatDoor

namespace Go.Proofs.YtodapiholjeehaaGreatDoor
open Go.RowKit
set_option linter.unusedSimpArgs false
set_option linter.unusedVariables false
theorem small_any (a : Int) (w : World) : Calls Tryz.prog 190 #[.int .i64 a] w fun e w' => e = .returned (.bool (smallI a)) ∧ w = w' := by
  go_enter Tryz.func190, Tryz.ntmps190
  go_wp2
  all_goals (go_ret; refine ⟨ret_bool ?_, rfl⟩; go_light; unfold smallI; first | (simp_all; done) | (simp_all; omega))
def chk (r : Int) : Int × Bool := if smallI r then (r, true) else (0, false)
end Go.Proofs.YtodapiholjeehaaGreatDoor

namespace Go.Proofs.YtodapiholjeehaaGreatDoor
open Go.RowKit
set_option linter.unusedSimpArgs false
set_option linter.unusedVariables false
def valF (_ : Nat) (v : Val) : Int := if valid v then 0 else 8
theorem entErr_def (x : Ent) : entErr x = if 12 < x.row.length ∨ x.count < -65536 ∨ 65536 < x.count then 2 else firstErr valF 0 x.row := rfl
set_option maxRecDepth 100000 in
theorem formed_any (w : World) (A : Option Addr) (n c : Nat) (x : Ent) (hx : In w A n c x.row) (hc : I64 x.count) :
    Calls Tryz.prog 191 #[.agg #[.slice A n c, .int .i64 x.count]] w fun e w' => e = .returned (.int .i64 (entErr x)) ∧ Below w.heap.size w w' := by
  obtain ⟨row, m⟩ := x
  have h63 := hx.le
  have hlen := hide hx.len
  unfold I64 at hc
  obtain ⟨hm1, hm2⟩ := hc
  simp only at hx hlen hm1 hm2 ⊢
  go_enter Tryz.func191, Tryz.ntmps191
  by_cases hs : 12 < n ∨ m < -65536 ∨ 65536 < m
  · have he : Hid (2 = entErr ⟨row, m⟩) := hide (by rw [entErr_def, hlen.out, if_pos hs])
    by_cases h1 : 12 < n
    · go_wp2
      all_goals (go_ret; exact ⟨ret_int he.out, below_alloc⟩)
    · by_cases h2 : m < -65536
      · go_wp2
        all_goals (go_ret; exact ⟨ret_int he.out, below_alloc⟩)
      · have h3 : 65536 < m := by omega
        go_wp2
        all_goals (go_ret; exact ⟨ret_int he.out, below_alloc⟩)
  have HE0 : Hid (entErr ⟨row, m⟩ = firstErr valF 0 row) := hide (by rw [entErr_def, hlen.out, if_neg hs])
  have h1 : n ≤ 12 := by omega
  have h2 : -65536 ≤ m := by omega
  have h3 : m ≤ 65536 := by omega
  clear hs
  go_wp2
  go_loopw [22] (fun i wr => ∃ k : Nat, k ≤ n ∧ i = .int .i64 k ∧ firstErr valF 0 row = firstErr valF k (row.drop k) ∧ Below w.heap.size w wr) (fun i _ => n - (intOf i).toNat)
  case atStart => exact ⟨0, Nat.zero_le _, rfl, rfl, below_alloc⟩
  case round =>
    obtain ⟨k, hk, rfl, heq, hb⟩ := hrel
    have HE := hide heq
    clear heq
    by_cases hlt : k < n
    · obtain ⟨b, off, x, rfl, hB, HX, f0, f1, f2, f3⟩ := (hx.below hb).val hlt
      go_wp2_with fail
      refine (valid_any x f3 _).mono ?_
      rintro e w1 ⟨rfl, hb1⟩
      have hbb := below_trans (below_trans hb below_alloc) hb1
      clear hb1 f0 f1 f2
      cases hv : valid x
      · have he : Hid (8 = entErr ⟨row, m⟩) := hide (by rw [HE0.out, HE.out, HX.out]; exact (firstErr_err (by simp [valF, hv]) (by omega)).symm)
        go_wp2
        go_ret
        exact ⟨ret_int he.out, hbb⟩
      · go_wp2
        go_roundw
        case rel => exact ⟨k + 1, by omega, by go_num, by rw [HE.out, HX.out]; exact firstErr_zero (by simp [valF, hv]), hbb⟩
        case measure => simp [intOf]; omega
    · go_wp2
      go_ret
      exact ⟨ret_int (by rw [HE0.out, HE.out, drop_end hx.len (by omega), firstErr]), hb⟩
end Go.Proofs.YtodapiholjeehaaGreatDoor

namespace Go.Proofs.YtodapiholjeehaaGreatDoor
set_option linter.unusedVariables false
set_option linter.unusedSimpArgs false
open Go.RowKit
set_option maxRecDepth 100000 in
theorem compareFunc_any (w : World) (A A' : Option Addr) (n n' c c' : Nat) (xs ys : List Val) (hx : In w A n c xs) (hy : In w A' n' c' ys) :
    Calls Tryz.prog 152 #[.slice A n c, .slice A' n' c', .func (.func 153) #[] #[]] w
      fun e w' => e = .returned (.int .i64 (cmpRows xs ys)) ∧ Below w.heap.size w w' := by
  have h63 := hx.le
  have h63' := hy.le
  go_enter Tryz.func152, Tryz.ntmps152
  go_wp2
  go_loopw [13] (fun i wr => ∃ k : Nat, k ≤ n ∧ k ≤ n' ∧ i = .int .i64 k ∧ cmpRows xs ys = cmpRows (xs.drop k) (ys.drop k) ∧ Below w.heap.size w wr) (fun i _ => n - (intOf i).toNat)
  case atStart => exact ⟨0, Nat.zero_le _, Nat.zero_le _, rfl, rfl, Below.refl _ _⟩
  case round =>
    obtain ⟨k, hk, hk', rfl, heq, hb⟩ := hrel
    have HE := hide heq
    clear heq
    by_cases hlt : k < n
    · obtain ⟨b, off, x, rfl, hB, HX, e0, e1, e2, e3⟩ := (hx.below hb).val hlt
      by_cases hlt' : k < n'
      · obtain ⟨b', off', y, rfl, hB', HY, f0, f1, f2, f3⟩ := (hy.below hb).val hlt'
        go_wp2_with fail
        refine (cmp_val x y _).mono ?_
        rintro e w1 ⟨rfl, hb1⟩
        have hbb := below_trans (below_trans (below_trans hb below_alloc) below_alloc) hb1
        clear hb1 e0 e1 e2 f0 f1 f2
        by_cases hz : cmpVal x y = 0
        · rw [hz]
          go_wp2
          go_roundw
          case rel => exact ⟨k + 1, by omega, by omega, by go_num, by rw [HE.out, HX.out, HY.out, cmpRows, if_neg (by simp [hz])], hbb⟩
          case measure => simp [intOf]; omega
        · have hz' : (cmpVal x y == 0) = false := by simp [hz]
          go_wp2
          go_ret
          exact ⟨ret_int (by rw [HE.out, HX.out, HY.out, cmpRows, if_pos hz]), hbb⟩
      · go_wp2
        go_ret
        exact ⟨ret_int (by rw [HE.out, HX.out, drop_end hy.len (by omega), cmpRows]), hb.alloc hb.size _⟩
    · have hkn : n ≤ k := by omega
      by_cases hlt' : n < n'
      · go_wp2
        go_ret
        refine ⟨ret_int ?_, hb⟩
        rw [HE.out, drop_end hx.len hkn]
        have : ys.drop k ≠ [] := by intro h; have := congrArg List.length h; rw [List.length_drop, hy.len] at this; simp at this; omega
        match h : ys.drop k with
        | [] => exact absurd h this
        | _ :: _ => rw [cmpRows]
      · go_wp2
        go_ret
        refine ⟨ret_int ?_, hb⟩
        rw [HE.out, drop_end hx.len hkn, drop_end hy.len (by omega), cmpRows]
theorem compareRows_any (w : World) (A A' : Option Addr) (n n' c c' : Nat) (xs ys : List Val) (hx : In w A n c xs) (hy : In w A' n' c' ys) :
    Calls Tryz.prog 94 #[.slice A n c, .slice A' n' c'] w fun e w' => e = .returned (.int .i64 (cmpRows xs ys)) ∧ Below w.heap.size w w' := by
  go_enter Tryz.func94, Tryz.ntmps94
  go_wp2_with fail
  refine (compareFunc_any _ _ _ _ _ _ _ xs ys hx hy).mono ?_
  rintro e w1 ⟨rfl, hb1⟩
  go_wp2
  go_ret
  exact ⟨rfl, hb1⟩
end Go.Proofs.YtodapiholjeehaaGreatDoor

namespace Go.Proofs.YtodapiholjeehaaGreatDoor
open Go.RowKit
set_option linter.unusedSimpArgs false
set_option linter.unusedVariables false
theorem In.prev {w : World} {A : Option Addr} {n c k : Nat} {b : List Ent} (h : In w A n c b) (hk : k < n) (h0 : 0 < k) : ∃ bl off A' n' c' y, A = some ⟨bl, off, none⟩ ∧ bl < w.heap.size ∧
    w.cell? ⟨bl, off + (k - 1) * 2, none⟩ = some (.slice A' n' c') ∧ In w A' n' c' y ∧ Hid ((b.getD (k - 1) default).row = y) := by
  obtain ⟨bl, off, x, e, hb, hx, A', n', c', h1, h2, h3, h4⟩ := h.ent (show k - 1 < n by omega)
  exact ⟨bl, off, A', n', c', x.row, e, hb, h1, h3, hide (by rw [getD_drop hx.out])⟩
theorem bagErr1_def (b : List Ent) (i : Nat) (x : Ent) : bagErr1 b i x = if entErr x ≠ 0 then entErr x else if x.count = 0 then 8 else if 0 < i ∧ 0 ≤ cmpRows (b.getD (i - 1) default).row x.row then 14 else 0 := rfl
set_option maxHeartbeats 2000000 in
set_option maxRecDepth 100000 in
theorem bag_any (w : World) (A : Option Addr) (n c : Nat) (bs : List Ent) (hx : In w A n c bs) :
    Calls Tryz.prog 137 #[.slice A n c] w fun e w' => e = .returned (.int .i64 (bagErr bs)) ∧ Below w.heap.size w w' := by
  have h63 := hx.le
  have hlen := hide hx.len
  go_enter Tryz.func137, Tryz.ntmps137
  by_cases hs : 4096 < n
  · have he : Hid (2 = bagErr bs) := hide (by rw [bagErr, hlen.out, if_pos hs])
    go_wp2
    go_ret
    exact ⟨ret_int he.out, Below.refl _ _⟩
  have HE0 : Hid (bagErr bs = firstErr (bagErr1 bs) 0 bs) := hide (by rw [bagErr, hlen.out, if_neg hs])
  have hs1 : n ≤ 4096 := by omega
  clear hs
  go_wp2
  go_loopw [11] (fun i wr => ∃ k : Nat, k ≤ n ∧ i = .int .i64 k ∧ firstErr (bagErr1 bs) 0 bs = firstErr (bagErr1 bs) k (bs.drop k) ∧ Below w.heap.size w wr) (fun i _ => n - (intOf i).toNat)
  case atStart => exact ⟨0, Nat.zero_le _, rfl, rfl, Below.refl _ _⟩
  case round =>
    obtain ⟨k, hk, rfl, heq, hb⟩ := hrel
    have HE := hide heq
    clear heq
    by_cases hlt : k < n
    · obtain ⟨b, off, x, rfl, hB, HX, A', n', c', e0, e1, e2, e3⟩ := (hx.below hb).ent hlt
      go_wp2_with fail
      refine (formed_any _ A' n' c' x (e2.below below_alloc) e3).mono ?_
      rintro e w1 ⟨rfl, hb1⟩
      have hbb := below_trans (below_trans hb below_alloc) hb1
      have g0 : w1.cell? ⟨wr.heap.size, 0, none⟩ = some (.slice A' n' c') := bat hb1 (by simp) (by simp [go_sem])
      have g1 : w1.cell? ⟨wr.heap.size, 1, none⟩ = some (.int .i64 x.count) := bat hb1 (by simp) (by simp [go_sem])
      have hin1 := e2.below (below_trans below_alloc hb1)
      have hsz : wr.heap.size < w1.heap.size := by have := hb1.size; simp at this; omega
      obtain ⟨hm1, hm2⟩ := e3
      clear hb1 e0 e1 e2
      by_cases hz : entErr x = 0
      · rw [hz]
        have HC : Hid (firstErr (bagErr1 bs) 0 bs = if x.count = 0 then 8 else if 0 < k ∧ 0 ≤ cmpRows (bs.getD (k - 1) default).row x.row then 14 else firstErr (bagErr1 bs) (k + 1) (bs.drop (k + 1))) := hide (by
          rw [HE.out, HX.out]
          by_cases q1 : x.count = 0
          · rw [if_pos q1]; exact firstErr_err (by rw [bagErr1_def, if_neg (by simp [hz]), if_pos q1]) (by omega)
          · by_cases q2 : 0 < k ∧ 0 ≤ cmpRows (bs.getD (k - 1) default).row x.row
            · rw [if_neg q1, if_pos q2]; exact firstErr_err (by rw [bagErr1_def, if_neg (by simp [hz]), if_neg q1, if_pos q2]) (by omega)
            · rw [if_neg q1, if_neg q2]; exact firstErr_zero (by rw [bagErr1_def, if_neg (by simp [hz]), if_neg q1, if_neg q2]))
        clear hz
        cases hq : (x.count == 0)
        · have hq1 : ¬ x.count = 0 := by simpa using hq
          by_cases h0 : 0 < k
          · obtain ⟨bl, off', A0, n0, c0, pr, e, hbl, f0, f1, HP⟩ := In.prev (hx.below hbb) hlt h0
            injection e with e
            injection e with e_1 e_2
            subst e_1 e_2
            have i0 : (0 : Int) < (k : Int) := by omega
            have i1 : (0 : Int) ≤ (k : Int) - 1 := by omega
            have i2 : (k : Int) - 1 < (n : Int) := by omega
            have i3 : ((k : Int) - 1).toNat = k - 1 := by omega
            have i5 : (1 : Int) ≤ (k : Int) := by omega
            have i6 : (k : Int) ≤ (n : Int) := by omega
            have i4 : IntKind.i64.wrap ((k : Int) - 1) = (k : Int) - 1 := IntWalk.i64_in _ (by omega)
            go_wp2_with fail
            go_region_held3 (fun w' => w'.cell? ⟨b, off + (k - 1) * 2, none⟩ = some (.slice A0 n0 c0) ∧ w'.cell? ⟨wr.heap.size, 0, none⟩ = some (.slice A' n' c')) (first | exact ⟨f0, g0⟩ | (have hq := below_undrew hb2; exact ⟨bat hq hbl f0, bat hq hsz g0⟩)) (first | (go_at_call 94; refine (compareRows_any _ A0 A' n0 n' c0 c' pr x.row (by exact f1) (by exact hin1)).mono ?_; rintro e w2 ⟨rfl, hb2⟩))
            have hbb2 := below_trans hbb (below_undrew hb2)
            clear hb2 i4 i3 i2 i1
            by_cases hcmp : 0 ≤ cmpRows pr x.row
            · have he : Hid (14 = bagErr bs) := hide (by rw [HE0.out, HC.out, HP.out, if_neg hq1, if_pos ⟨h0, hcmp⟩])
              have hd : decide (0 ≤ cmpRows pr x.row) = true := by simp; omega
              go_wp2
              all_goals (try (exfalso; go_light; simp_all; done))
              go_ret
              exact ⟨ret_int he.out, hbb2⟩
            · have he : Hid (firstErr (bagErr1 bs) 0 bs = firstErr (bagErr1 bs) (k + 1) (bs.drop (k + 1))) := hide (by rw [HC.out, HP.out, if_neg hq1, if_neg (fun h => hcmp h.2)])
              have hd : decide (0 ≤ cmpRows pr x.row) = false := by simp; omega
              go_wp2
              all_goals (try (exfalso; go_light; simp_all; done))
              go_roundw
              case rel => exact ⟨k + 1, by omega, by go_num, he.out, hbb2⟩
              case measure => simp [intOf]; omega
          · have h0' : k = 0 := by omega
            have he : Hid (firstErr (bagErr1 bs) 0 bs = firstErr (bagErr1 bs) (k + 1) (bs.drop (k + 1))) := hide (by rw [HC.out, if_neg hq1, if_neg (fun h => h0 h.1)])
            subst h0'
            go_wp2
            go_quiet (fail)
            go_wp2
            go_roundw
            case rel => exact ⟨0 + 1, by omega, by go_num, he.out, below_any hbb⟩
            case measure => simp [intOf]; omega
        · have he : Hid (8 = bagErr bs) := hide (by rw [HE0.out, HC.out, if_pos (by simpa using hq)])
          go_wp2
          go_ret
          exact ⟨ret_int he.out, hbb⟩
      · have hz' : (entErr x == 0) = false := by simp [hz]
        have he : Hid (entErr x = bagErr bs) := hide (by rw [HE0.out, HE.out, HX.out]; exact (firstErr_err (by rw [bagErr1_def, if_pos hz]) hz).symm)
        go_wp2
        all_goals (try (exfalso; go_light; simp_all; done))
        go_ret
        exact ⟨ret_int he.out, hbb⟩
    · go_wp2
      go_ret
      exact ⟨ret_int (by rw [HE0.out, HE.out, drop_end hx.len (by omega), firstErr]), hb⟩
end Go.Proofs.YtodapiholjeehaaGreatDoor

namespace Go.Proofs.YtodapiholjeehaaGreatDoor
open Go.RowKit
set_option linter.unusedSimpArgs false
set_option linter.unusedVariables false
def negFrom : Nat → List Ent → Int
  | _, [] => -1
  | k, x :: l => if x.count < 0 then k else negFrom (k + 1) l
theorem negFrom_all (l : List Ent) : ∀ k, (decide (0 ≤ negFrom k l)) = !(l.all fun x => decide (0 ≤ x.count)) := by
  induction l with
  | nil => intro k; rfl
  | cons x l ih =>
    intro k
    rw [negFrom]
    by_cases h : x.count < 0
    · rw [if_pos h]
      have : ¬ 0 ≤ x.count := by omega
      simp [this]
    · rw [if_neg h, ih (k + 1)]
      have : 0 ≤ x.count := by omega
      simp [this]
theorem neg_clo (A : Option Addr) (n c : Nat) (m : Int) (w : World) :
    Calls Tryz.prog 226 #[.agg #[.slice A n c, .int .i64 m]] w fun e w' => e = .returned (.bool (decide (m < 0))) ∧ Below w.heap.size w w' := by
  go_enter Tryz.func226, Tryz.ntmps226
  go_wp2
  go_ret
  exact ⟨rfl, below_alloc⟩
set_option maxRecDepth 100000 in
theorem indexFunc_ent (w : World) (A : Option Addr) (n c : Nat) (xs : List Ent) (hx : In w A n c xs) :
    Calls Tryz.prog 275 #[.slice A n c, .func (.func 226) #[] #[]] w
      fun e w' => e = .returned (.int .i64 (negFrom 0 xs)) ∧ Below w.heap.size w w' := by
  have h63 := hx.le
  go_enter Tryz.func275, Tryz.ntmps275
  go_wp2
  go_loopw [8] (fun i wr => ∃ k : Nat, k ≤ n ∧ i = .int .i64 k ∧ negFrom 0 xs = negFrom k (xs.drop k) ∧ Below w.heap.size w wr) (fun i _ => n - (intOf i).toNat)
  case atStart => exact ⟨0, Nat.zero_le _, rfl, rfl, Below.refl _ _⟩
  case round =>
    obtain ⟨k, hk, rfl, heq, hb⟩ := hrel
    have HE := hide heq
    clear heq
    by_cases hlt' : k < n
    · obtain ⟨b, off, x, rfl, hB, HX, A', n', c', e0, e1, e2, e3⟩ := (hx.below hb).ent hlt'
      go_wp2_with fail
      refine (neg_clo _ _ _ _ _).mono ?_
      rintro e w1 ⟨rfl, hb1⟩
      have hbb := below_trans hb hb1
      clear hb1 e0 e1 e2
      by_cases hz : x.count < 0
      · have hd : decide (x.count < 0) = true := by simp [hz]
        go_wp2
        all_goals (try (exfalso; go_light; simp_all; done))
        go_ret
        exact ⟨ret_int (by rw [HE.out, HX.out, negFrom, if_pos hz]), hbb⟩
      · have hd : decide (x.count < 0) = false := by simp; omega
        go_wp2
        all_goals (try (exfalso; go_light; simp_all; done))
        go_roundw
        case rel => exact ⟨k + 1, by omega, by go_num, by rw [HE.out, HX.out, negFrom, if_neg (by omega)], hbb⟩
        case measure => simp [intOf]; omega
    · go_wp2
      go_ret
      exact ⟨ret_int (by rw [HE.out, drop_end hx.len (by omega), negFrom]), hb⟩
theorem containsFunc_ent (w : World) (A : Option Addr) (n c : Nat) (xs : List Ent) (hx : In w A n c xs) :
    Calls Tryz.prog 225 #[.slice A n c, .func (.func 226) #[] #[]] w
      fun e w' => e = .returned (.bool (decide (0 ≤ negFrom 0 xs))) ∧ Below w.heap.size w w' := by
  go_enter Tryz.func225, Tryz.ntmps225
  go_wp2_with fail
  refine (indexFunc_ent _ _ _ _ xs hx).mono ?_
  rintro e w1 ⟨rfl, hb1⟩
  go_wp2
  go_ret
  exact ⟨rfl, hb1⟩
theorem isTable_any (w : World) (A : Option Addr) (n c : Nat) (xs : List Ent) (hx : In w A n c xs) :
    Calls Tryz.prog 183 #[.slice A n c] w fun e w' => e = .returned (.bool (isTable xs)) ∧ Below w.heap.size w w' := by
  go_enter Tryz.func183, Tryz.ntmps183
  go_wp2_with fail
  refine (bag_any _ _ _ _ xs hx).mono ?_
  rintro e w1 ⟨rfl, hb1⟩
  cases hz : (bagErr xs == 0)
  · go_wp2
    all_goals (try (exfalso; go_light; simp_all; done))
    go_ret
    exact ⟨ret_bool (by rw [isTable, hz]; rfl), hb1⟩
  · go_wp2_with fail
    all_goals (try (exfalso; go_light; simp_all; done))
    refine (containsFunc_ent _ _ _ _ xs (hx.below hb1)).mono ?_
    rintro e w2 ⟨rfl, hb2⟩
    have hbb := below_trans hb1 hb2
    have HN := hide (negFrom_all xs 0)
    clear hb2
    go_wp2
    all_goals (try (exfalso; go_light; simp_all; done))
    go_ret
    refine ⟨ret_bool ?_, hbb⟩
    go_light
    rw [isTable, hz]
    have := HN.out
    cases h : (xs.all fun x => decide (0 ≤ x.count)) <;> rw [h] at this <;> simp_all
def pos (b : List Ent) : Bool := b.all fun x => decide (0 < x.count)
theorem noZero (b : List Ent) (l : List Ent) : ∀ k, firstErr (bagErr1 b) k l = 0 → ∀ x ∈ l, x.count ≠ 0 := by
  induction l with
  | nil => intro k _ x hx; cases hx
  | cons y l ih =>
    intro k h x hx
    by_cases hz : bagErr1 b k y = 0
    · rw [firstErr_zero hz] at h
      cases hx with
      | head =>
        intro h0
        rw [bagErr1_def] at hz
        by_cases h1 : entErr y = 0
        · rw [if_neg (by simp [h1]), if_pos h0] at hz; omega
        · rw [if_pos h1] at hz; exact h1 hz
      | tail _ hx => exact ih _ h x hx
    · rw [firstErr_err rfl hz] at h
      exact absurd h hz
theorem isTable_pos {b : List Ent} (h : bagErr b = 0) : isTable b = pos b := by
  have hz : ∀ x ∈ b, x.count ≠ 0 := by
    rw [bagErr] at h
    by_cases hl : 4096 < b.length
    · rw [if_pos hl] at h; omega
    · rw [if_neg hl] at h; exact noZero b b 0 h
  rw [isTable, h, pos]
  simp only [beq_self_eq_true, Bool.true_and]
  rw [Bool.eq_iff_iff, List.all_eq_true, List.all_eq_true]
  constructor
  · intro h x hx
    have := h x hx
    have := hz x hx
    simp only [decide_eq_true_eq] at *
    omega
  · intro h x hx
    have := h x hx
    simp only [decide_eq_true_eq] at *
    omega
end Go.Proofs.YtodapiholjeehaaGreatDoor

namespace Go.Proofs.YtodapiholjeehaaGreatDoor
open Go.RowKit
set_option linter.unusedSimpArgs false
set_option linter.unusedVariables false
structure Zr (w : World) (g : Nat) : Prop where
  c0 : w.cell? ⟨g, 0, none⟩ = some (.int .i64 0)
  c1 : w.cell? ⟨g, 1, none⟩ = some (.int .i64 0)
  c2 : w.cell? ⟨g, 2, none⟩ = some (.string ⟨#[]⟩)
  f0 : w.frozen? ⟨g, 0, none⟩ = false
  f1 : w.frozen? ⟨g, 1, none⟩ = false
  f2 : w.frozen? ⟨g, 2, none⟩ = false
  lt : g < w.heap.size
theorem Zr.below {w w' : World} {g : Nat} (h : Zr w g) (hb : Below w.heap.size w w') : Zr w' g :=
  ⟨bat hb h.lt h.c0, bat hb h.lt h.c1, bat hb h.lt h.c2, ((bcell hb).2 _ _ h.lt).trans h.f0, ((bcell hb).2 _ _ h.lt).trans h.f1, ((bcell hb).2 _ _ h.lt).trans h.f2, by have := hb.size; have := h.lt; omega⟩
theorem Zr.made (w : World) (t : TypeId) : Zr (w.alloc (.cells #[.int .i64 0, .int .i64 0, .string ⟨#[]⟩] t)) w.heap.size := by
  constructor <;> simp [go_sem]
def V3 (w : World) (b o : Nat) (v : Val) : Prop := w.cell? ⟨b, o, none⟩ = some (.int .i64 v.kind) ∧ w.cell? ⟨b, o + 1, none⟩ = some (.int .i64 v.num) ∧ w.cell? ⟨b, o + 2, none⟩ = some (.string v.str)
theorem V3.below {w w' : World} {b o : Nat} {v : Val} (h : V3 w b o v) (hb : Below w.heap.size w w') (hl : b < w.heap.size) : V3 w' b o v := ⟨bat hb hl h.1, bat hb hl h.2.1, bat hb hl h.2.2⟩
theorem below_alloc3 {w : World} {o o' o'' : Obj} : Below w.heap.size w (((w.alloc o).alloc o').alloc o'') := below_trans below_alloc2 below_alloc
end Go.Proofs.YtodapiholjeehaaGreatDoor

namespace Go.Proofs.YtodapiholjeehaaGreatDoor
open Go.RowKit
set_option linter.unusedSimpArgs false
set_option linter.unusedVariables false
theorem mem_drop {α : Type} {xs : List α} {k : Nat} {P : α → Prop} {x : α} {l : List α} (h : xs.drop k = x :: l) (h1 : ∀ y ∈ xs.take k, P y) (h2 : P x) : ∀ y ∈ xs.take (k + 1), P y := by
  have hk : k < xs.length := by
    by_cases q : k < xs.length
    · exact q
    · rw [List.drop_eq_nil_of_le (by omega)] at h; cases h
  have hx : xs[k] = x := by
    have := List.drop_eq_getElem_cons hk
    rw [h] at this
    injection this with this
    exact this.symm
  intro y hy
  rw [List.take_succ_eq_append_getElem hk] at hy
  rcases List.mem_append.1 hy with hy | hy
  · exact h1 y hy
  · rw [hx] at hy; simp at hy; subst hy; exact h2
def RetB (e : Ending) (P : Prop) : Prop := ∃ r, e = .returned (.bool r) ∧ (r = true → P)
set_option maxHeartbeats 2000000 in
set_option maxRecDepth 100000 in
theorem within_any (w : World) (A : Option Addr) (n c : Nat) (xs : List Ent) (hx : In w A n c xs) (m : Int) :
    Calls Tryz.prog 45 #[.slice A n c, .int .i64 m] w fun e w' => RetB e ((n : Int) ≤ m ∧ ∀ x ∈ xs, x.row.length ≤ 20) ∧ Below w.heap.size w w' := by
  have h63 := hx.le
  have HX0 := hide hx
  by_cases hm : m < (n : Int)
  · go_enter Tryz.func45, Tryz.ntmps45
    go_wp2
    go_ret
    exact ⟨⟨false, rfl, fun h => by cases h⟩, Below.refl _ _⟩
  go_enter Tryz.func45, Tryz.ntmps45
  go_wp2
  go_loop [5] (fun i => ∃ k : Nat, k ≤ n ∧ i = .int .i64 k ∧ ∀ x ∈ xs.take k, x.row.length ≤ 20) (fun i => n - (RowKit.intOf i).toNat)
  case atStart => exact ⟨0, Nat.zero_le _, rfl, by simp⟩
  case round =>
    obtain ⟨k, hk, rfl, hall⟩ := hrel
    have HA := hide hall
    clear hall
    by_cases hlt : k < n
    · obtain ⟨b, off, x, rfl, hBb, HX, Ax, An, Ac, e0, e1, e2, e3⟩ := HX0.out.ent hlt
      have k0 : (0 : Int) ≤ (k : Int) := by omega
      have k1 : (k : Int) < (n : Int) := by omega
      have HE := hide e2
      have hle := e2.le
      have hln := e2.len
      clear e2
      by_cases hs : (20 : Int) < (An : Int)
      · go_wp2
        go_ret
        exact ⟨⟨false, rfl, fun h => by cases h⟩, Below.refl _ _⟩
      have HA2 := hide (mem_drop HX.out HA.out (by omega : x.row.length ≤ 20))
      clear hln
      go_wp2
      go_loop [6] (fun i => ∃ q : Nat, q ≤ An ∧ i = .int .i64 q) (fun i => An - (RowKit.intOf i).toNat)
      case atStart => exact ⟨0, Nat.zero_le _, rfl⟩
      case round =>
        obtain ⟨q, hq, rfl⟩ := hrel
        by_cases hlt2 : q < An
        · obtain ⟨b2, off2, y, rfl, hBb2, HY, f0, f1, f2, f3⟩ := HE.out.val hlt2
          have q0 : (0 : Int) ≤ (q : Int) := by omega
          have q1 : (q : Int) < (An : Int) := by omega
          by_cases hs2 : (200 : Int) < (y.str.size : Int)
          · go_wp2
            go_ret
            exact ⟨⟨false, rfl, fun h => by cases h⟩, Below.refl _ _⟩
          go_wp2
          go_round
          case rel => exact ⟨q + 1, by omega, by go_num⟩
          case measure => simp [RowKit.intOf]; omega
        · go_wp2
          go_round
          case rel => exact ⟨k + 1, by omega, by go_num, HA2.out⟩
          case measure => simp [RowKit.intOf]; omega
    · have HF : Hid (∀ x ∈ xs, x.row.length ≤ 20) := hide (by
        have := HA.out
        rw [List.take_of_length_le (by rw [HX0.out.len]; omega)] at this
        exact this)
      go_wp2
      go_ret
      exact ⟨⟨true, rfl, fun _ => by first | exact ⟨by omega, HF.out⟩ | exact HF.out⟩, Below.refl _ _⟩
end Go.Proofs.YtodapiholjeehaaGreatDoor
