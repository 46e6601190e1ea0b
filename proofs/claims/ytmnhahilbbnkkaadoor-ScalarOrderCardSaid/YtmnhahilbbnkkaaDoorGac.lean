/-
  schema.IsName and warehouseref5.IsName. Package warehouseref1: Valid, Compare, CompareRows. Package value: Valid, Compare, CompareRows; package cmp's Or and Compare. expr.Arity and warehouseref8.Arity: both return arity. Checked arithmetic: package exact's and the reference's, at integers from -2^30 to 2^30 (larger ones never come in); truth values. schema.Index (slices.IndexFunc over columns) and warehouseref5.Index. schema.Validate and warehouseref5.Validate. warehousebase: At, Moment, Value, Cell, Row: what they build is well-formed. Values of conditions, numbers and moments: scalar.boolean, number, moment and the reference's truth, number, moment. Division: exact.divide, Divide, Modulo and the reference's, at integers from -2^30 to 2^30. schema.CheckRow and warehouseref5.CheckRow. warehousebase: Cell and Row: they fit their columns. warehousebase.Row: the row fits the columns and lies in a new block.
-/
import Derived.Test.YtmnhahilbbnkkaaDoorProg
import Derived.Test.YtmnhahilbbnkkaaDoorGab
import Derived.Test.YtmnhahilbbnkkaaDoorGaa
namespace Go.Proofs.YtmnhahilbbnkkaaDoor
open Go.RowKit
set_option linter.unusedSimpArgs false
set_option linter.unusedVariables false

theorem byteAt_eq (s : ByteArray) (i : Nat) (h : i < s.size) : byteAt s i = (s[i]'h).toNat := by
  have h' : i < s.data.toList.length := by simpa using h
  have : s.data.toList.getD i 0 = s[i]'h := by rw [List.getD, List.getElem?_eq_getElem h']; rfl
  rw [byteAt, this]
theorem next_rune (P : Program) (w : World) (s : ByteArray) (pos : Nat) (h : pos < s.size) :
    ∃ c wd : Nat, (∀ ty, (Instr.next (.pointer (some ⟨w.heap.size, 0, none⟩)) true ty).run P (w.iter s pos) = .ok (.tuple #[.bool true, .int .i64 pos, .int .i32 (c : Int)]) (w.iter s (pos + wd))) ∧
      (c < 128 → c = byteAt s pos ∧ wd = 1) ∧ (128 ≤ c → 128 ≤ byteAt s pos) ∧ c ≤ 2147483647 := by
  refine ⟨_, _, fun ty => run_next_any w s pos ty h, fun hc => ?_, fun hc => ?_, decode_le s pos⟩
  · by_cases ha : (s[pos]'h).toNat < 128
    · rw [decode_ascii s pos h ha, byteAt_eq s pos h]
      exact ⟨rfl, rfl⟩
    · have := (decode_high s pos h (by omega)).1
      omega
  · by_cases ha : (s[pos]'h).toNat < 128
    · rw [decode_ascii s pos h ha] at hc
      have : 128 ≤ (s[pos]'h).toNat := hc
      omega
    · rw [byteAt_eq s pos h]
      omega
theorem nameFrom_step (s : ByteArray) (i : Nat) (h : i < s.size) : nameFrom s (s.size - i) i = (nameOk (byteAt s i) i && nameFrom s (s.size - (i + 1)) (i + 1)) := by
  rw [show s.size - i = (s.size - (i + 1)) + 1 from by omega, nameFrom]
theorem nameFrom_bad (s : ByteArray) (i : Nat) (h : i < s.size) (hb : nameOk (byteAt s i) i = false) : nameFrom s (s.size - i) i = false := by
  rw [nameFrom_step s i h, hb]; rfl
theorem nameFrom_good (s : ByteArray) (i : Nat) (h : i < s.size) (hb : nameOk (byteAt s i) i = true) : nameFrom s (s.size - i) i = nameFrom s (s.size - (i + 1)) (i + 1) := by
  rw [nameFrom_step s i h, hb]; rfl
theorem nameOk_high (c i : Nat) (h : 128 ≤ c) : nameOk c i = false := by
  have h1 : ¬ c ≤ 122 := by omega
  have h2 : ¬ c = 95 := by omega
  have h3 : ¬ c ≤ 57 := by omega
  simp [nameOk, h1, h2, h3]

theorem nameOk_iff (c i : Nat) : nameOk c i = true ↔ (97 ≤ c ∧ c ≤ 122) ∨ (0 < i ∧ (c = 95 ∨ (48 ≤ c ∧ c ≤ 57))) := by simp only [nameOk, Bool.or_eq_true, Bool.and_eq_true, decide_eq_true_eq]
theorem nonempty_iff (s : ByteArray) : (!s.toList.isEmpty) = decide (0 < s.size) := by
  rw [ByteArray.toList_eq]
  have : s.size = s.data.toList.length := rfl
  rw [this]
  cases s.data.toList <;> simp

set_option maxRecDepth 100000 in
theorem isName_any (s : ByteArray) (hs : Str s) (w : World) :
    Calls Tryd.prog 68 #[.string s] w fun e w' => e = .returned (.bool (isName s)) ∧ Below w.heap.size w w' := by
  unfold Str at hs
  go_enter Tryd.func68, Tryd.ntmps68
  by_cases hl : s.size ≤ 24
  · go_wp2
    go_loopw [3] (fun _ wr => ∃ pos : Nat, pos ≤ s.size ∧ wr = w.iter s pos ∧ nameFrom s s.size 0 = nameFrom s (s.size - pos) pos) (fun _ wr => s.size - wr.iterPos w.heap.size)
    case atStart => exact ⟨0, by omega, rfl, rfl⟩
    case round =>
      obtain ⟨pos, hpos, rfl, heq⟩ := hrel
      have HE := hide heq
      clear heq
      by_cases hp : pos < s.size
      · obtain ⟨c, wd, hnx, h1, h2, h3⟩ := next_rune Tryd.prog w s pos hp
        have H1 := hide h1
        clear h1
        cases hA : decide ((97 : Int) ≤ (c : Int))
        · cases hC : ((pos : Int) == 0)
          · cases hD : ((c : Int) == 95)
            · cases hE : decide ((c : Int) < 48)
              · cases hF : decide ((57 : Int) < (c : Int))
                · go_wp2
                  all_goals (try (exfalso; go_light; (try simp only [decide_eq_true_eq, decide_eq_false_iff_not, beq_iff_eq, beq_eq_false_iff_ne, ne_eq, Bool.not_eq_true', Bool.not_eq_false'] at *); omega))
                  all_goals
                    go_roundw
                    case rel =>
                      go_light
                      (try simp only [decide_eq_true_eq, decide_eq_false_iff_not, beq_iff_eq, beq_eq_false_iff_ne, ne_eq] at *)
                      obtain ⟨e1, rfl⟩ := H1.out (by omega)
                      refine ⟨pos + 1, by omega, rfl, ?_⟩
                      rw [HE.out]
                      exact nameFrom_good s pos hp (by rw [← e1]; exact (nameOk_iff c pos).2 (by omega))
                    case measure =>
                      go_light
                      (try simp only [decide_eq_true_eq, decide_eq_false_iff_not, beq_iff_eq, beq_eq_false_iff_ne, ne_eq] at *)
                      obtain ⟨e1, rfl⟩ := H1.out (by omega)
                      simp
                      omega
                · go_wp2
                  all_goals (try (exfalso; go_light; (try simp only [decide_eq_true_eq, decide_eq_false_iff_not, beq_iff_eq, beq_eq_false_iff_ne, ne_eq, Bool.not_eq_true', Bool.not_eq_false'] at *); omega))
                  all_goals
                    go_ret
                    refine ⟨ret_bool ?_, below_alloc⟩
                    go_light
                    have hbad : nameOk (byteAt s pos) pos = false := by
                      by_cases hc : c < 128
                      · rw [← (H1.out hc).1]
                        refine Bool.eq_false_iff.2 fun h => ?_
                        have h' := (nameOk_iff c pos).1 h
                        (try simp only [decide_eq_true_eq, decide_eq_false_iff_not, beq_iff_eq, beq_eq_false_iff_ne, ne_eq] at *) <;> omega
                      · exact nameOk_high _ _ (h2 (by omega))
                    rw [isName, HE.out, nameFrom_bad s pos hp hbad]
                    simp
              · go_wp2
                all_goals (try (exfalso; go_light; (try simp only [decide_eq_true_eq, decide_eq_false_iff_not, beq_iff_eq, beq_eq_false_iff_ne, ne_eq, Bool.not_eq_true', Bool.not_eq_false'] at *); omega))
                all_goals
                  go_ret
                  refine ⟨ret_bool ?_, below_alloc⟩
                  go_light
                  have hbad : nameOk (byteAt s pos) pos = false := by
                    by_cases hc : c < 128
                    · rw [← (H1.out hc).1]
                      refine Bool.eq_false_iff.2 fun h => ?_
                      have h' := (nameOk_iff c pos).1 h
                      (try simp only [decide_eq_true_eq, decide_eq_false_iff_not, beq_iff_eq, beq_eq_false_iff_ne, ne_eq] at *) <;> omega
                    · exact nameOk_high _ _ (h2 (by omega))
                  rw [isName, HE.out, nameFrom_bad s pos hp hbad]
                  simp
            · go_wp2
              all_goals (try (exfalso; go_light; (try simp only [decide_eq_true_eq, decide_eq_false_iff_not, beq_iff_eq, beq_eq_false_iff_ne, ne_eq, Bool.not_eq_true', Bool.not_eq_false'] at *); omega))
              all_goals
                go_roundw
                case rel =>
                  go_light
                  (try simp only [decide_eq_true_eq, decide_eq_false_iff_not, beq_iff_eq, beq_eq_false_iff_ne, ne_eq] at *)
                  obtain ⟨e1, rfl⟩ := H1.out (by omega)
                  refine ⟨pos + 1, by omega, rfl, ?_⟩
                  rw [HE.out]
                  exact nameFrom_good s pos hp (by rw [← e1]; exact (nameOk_iff c pos).2 (by omega))
                case measure =>
                  go_light
                  (try simp only [decide_eq_true_eq, decide_eq_false_iff_not, beq_iff_eq, beq_eq_false_iff_ne, ne_eq] at *)
                  obtain ⟨e1, rfl⟩ := H1.out (by omega)
                  simp
                  omega
          · go_wp2
            all_goals (try (exfalso; go_light; (try simp only [decide_eq_true_eq, decide_eq_false_iff_not, beq_iff_eq, beq_eq_false_iff_ne, ne_eq, Bool.not_eq_true', Bool.not_eq_false'] at *); omega))
            all_goals
              go_ret
              refine ⟨ret_bool ?_, below_alloc⟩
              go_light
              have hbad : nameOk (byteAt s pos) pos = false := by
                by_cases hc : c < 128
                · rw [← (H1.out hc).1]
                  refine Bool.eq_false_iff.2 fun h => ?_
                  have h' := (nameOk_iff c pos).1 h
                  (try simp only [decide_eq_true_eq, decide_eq_false_iff_not, beq_iff_eq, beq_eq_false_iff_ne, ne_eq] at *) <;> omega
                · exact nameOk_high _ _ (h2 (by omega))
              rw [isName, HE.out, nameFrom_bad s pos hp hbad]
              simp
        · cases hB : decide ((c : Int) ≤ 122)
          · cases hC : ((pos : Int) == 0)
            · cases hD : ((c : Int) == 95)
              · cases hE : decide ((c : Int) < 48)
                · cases hF : decide ((57 : Int) < (c : Int))
                  · go_wp2
                    all_goals (try (exfalso; go_light; (try simp only [decide_eq_true_eq, decide_eq_false_iff_not, beq_iff_eq, beq_eq_false_iff_ne, ne_eq, Bool.not_eq_true', Bool.not_eq_false'] at *); omega))
                    all_goals
                      go_roundw
                      case rel =>
                        go_light
                        (try simp only [decide_eq_true_eq, decide_eq_false_iff_not, beq_iff_eq, beq_eq_false_iff_ne, ne_eq] at *)
                        obtain ⟨e1, rfl⟩ := H1.out (by omega)
                        refine ⟨pos + 1, by omega, rfl, ?_⟩
                        rw [HE.out]
                        exact nameFrom_good s pos hp (by rw [← e1]; exact (nameOk_iff c pos).2 (by omega))
                      case measure =>
                        go_light
                        (try simp only [decide_eq_true_eq, decide_eq_false_iff_not, beq_iff_eq, beq_eq_false_iff_ne, ne_eq] at *)
                        obtain ⟨e1, rfl⟩ := H1.out (by omega)
                        simp
                        omega
                  · go_wp2
                    all_goals (try (exfalso; go_light; (try simp only [decide_eq_true_eq, decide_eq_false_iff_not, beq_iff_eq, beq_eq_false_iff_ne, ne_eq, Bool.not_eq_true', Bool.not_eq_false'] at *); omega))
                    all_goals
                      go_ret
                      refine ⟨ret_bool ?_, below_alloc⟩
                      go_light
                      have hbad : nameOk (byteAt s pos) pos = false := by
                        by_cases hc : c < 128
                        · rw [← (H1.out hc).1]
                          refine Bool.eq_false_iff.2 fun h => ?_
                          have h' := (nameOk_iff c pos).1 h
                          (try simp only [decide_eq_true_eq, decide_eq_false_iff_not, beq_iff_eq, beq_eq_false_iff_ne, ne_eq] at *) <;> omega
                        · exact nameOk_high _ _ (h2 (by omega))
                      rw [isName, HE.out, nameFrom_bad s pos hp hbad]
                      simp
                · go_wp2
                  all_goals (try (exfalso; go_light; (try simp only [decide_eq_true_eq, decide_eq_false_iff_not, beq_iff_eq, beq_eq_false_iff_ne, ne_eq, Bool.not_eq_true', Bool.not_eq_false'] at *); omega))
                  all_goals
                    go_ret
                    refine ⟨ret_bool ?_, below_alloc⟩
                    go_light
                    have hbad : nameOk (byteAt s pos) pos = false := by
                      by_cases hc : c < 128
                      · rw [← (H1.out hc).1]
                        refine Bool.eq_false_iff.2 fun h => ?_
                        have h' := (nameOk_iff c pos).1 h
                        (try simp only [decide_eq_true_eq, decide_eq_false_iff_not, beq_iff_eq, beq_eq_false_iff_ne, ne_eq] at *) <;> omega
                      · exact nameOk_high _ _ (h2 (by omega))
                    rw [isName, HE.out, nameFrom_bad s pos hp hbad]
                    simp
              · go_wp2
                all_goals (try (exfalso; go_light; (try simp only [decide_eq_true_eq, decide_eq_false_iff_not, beq_iff_eq, beq_eq_false_iff_ne, ne_eq, Bool.not_eq_true', Bool.not_eq_false'] at *); omega))
                all_goals
                  go_roundw
                  case rel =>
                    go_light
                    (try simp only [decide_eq_true_eq, decide_eq_false_iff_not, beq_iff_eq, beq_eq_false_iff_ne, ne_eq] at *)
                    obtain ⟨e1, rfl⟩ := H1.out (by omega)
                    refine ⟨pos + 1, by omega, rfl, ?_⟩
                    rw [HE.out]
                    exact nameFrom_good s pos hp (by rw [← e1]; exact (nameOk_iff c pos).2 (by omega))
                  case measure =>
                    go_light
                    (try simp only [decide_eq_true_eq, decide_eq_false_iff_not, beq_iff_eq, beq_eq_false_iff_ne, ne_eq] at *)
                    obtain ⟨e1, rfl⟩ := H1.out (by omega)
                    simp
                    omega
            · go_wp2
              all_goals (try (exfalso; go_light; (try simp only [decide_eq_true_eq, decide_eq_false_iff_not, beq_iff_eq, beq_eq_false_iff_ne, ne_eq, Bool.not_eq_true', Bool.not_eq_false'] at *); omega))
              all_goals
                go_ret
                refine ⟨ret_bool ?_, below_alloc⟩
                go_light
                have hbad : nameOk (byteAt s pos) pos = false := by
                  by_cases hc : c < 128
                  · rw [← (H1.out hc).1]
                    refine Bool.eq_false_iff.2 fun h => ?_
                    have h' := (nameOk_iff c pos).1 h
                    (try simp only [decide_eq_true_eq, decide_eq_false_iff_not, beq_iff_eq, beq_eq_false_iff_ne, ne_eq] at *) <;> omega
                  · exact nameOk_high _ _ (h2 (by omega))
                rw [isName, HE.out, nameFrom_bad s pos hp hbad]
                simp
          · go_wp2
            all_goals (try (exfalso; go_light; (try simp only [decide_eq_true_eq, decide_eq_false_iff_not, beq_iff_eq, beq_eq_false_iff_ne, ne_eq, Bool.not_eq_true', Bool.not_eq_false'] at *); omega))
            all_goals
              go_roundw
              case rel =>
                go_light
                (try simp only [decide_eq_true_eq, decide_eq_false_iff_not, beq_iff_eq, beq_eq_false_iff_ne, ne_eq] at *)
                obtain ⟨e1, rfl⟩ := H1.out (by omega)
                refine ⟨pos + 1, by omega, rfl, ?_⟩
                rw [HE.out]
                exact nameFrom_good s pos hp (by rw [← e1]; exact (nameOk_iff c pos).2 (by omega))
              case measure =>
                go_light
                (try simp only [decide_eq_true_eq, decide_eq_false_iff_not, beq_iff_eq, beq_eq_false_iff_ne, ne_eq] at *)
                obtain ⟨e1, rfl⟩ := H1.out (by omega)
                simp
                omega
      · have hnx : ∀ ty, (Instr.next (.pointer (some ⟨w.heap.size, 0, none⟩)) true ty).run Tryd.prog (w.iter s pos) = _ := fun ty => run_next_end w s pos ty hp
        go_wp2
        go_ret
        refine ⟨ret_bool ?_, below_alloc⟩
        go_light
        have : pos = s.size := by omega
        subst this
        rw [isName, HE.out, Nat.sub_self, nameFrom]
        rw [nonempty_iff]
        simp [hl]
  · go_wp2
    go_ret
    exact ⟨ret_bool (by simp [isName, hl]), Below.refl _ _⟩

set_option maxRecDepth 100000 in
theorem isName_ref (s : ByteArray) (hs : Str s) (w : World) :
    Calls Tryd.prog 49 #[.string s] w fun e w' => e = .returned (.bool (isName s)) ∧ w = w' := by
  unfold Str at hs
  go_enter Tryd.func49, Tryd.ntmps49
  obtain hl | hl | hl : s.size < 1 ∨ 24 < s.size ∨ (1 ≤ s.size ∧ s.size ≤ 24) := by omega
  · go_wp2
    all_goals (try (exfalso; go_light; (try simp only [decide_eq_true_eq, decide_eq_false_iff_not, beq_iff_eq, beq_eq_false_iff_ne, ne_eq, Bool.not_eq_true', Bool.not_eq_false'] at *); omega))
    all_goals
      go_ret
      refine ⟨ret_bool ?_, rfl⟩
      go_light
      have h0 : ¬ 0 < s.size := by omega
      simp [isName, h0]
  · go_wp2
    all_goals (try (exfalso; go_light; (try simp only [decide_eq_true_eq, decide_eq_false_iff_not, beq_iff_eq, beq_eq_false_iff_ne, ne_eq, Bool.not_eq_true', Bool.not_eq_false'] at *); omega))
    all_goals
      go_ret
      refine ⟨ret_bool ?_, rfl⟩
      go_light
      have h0 : ¬ s.size ≤ 24 := by omega
      simp [isName, h0]
  · obtain ⟨hl1, hl2⟩ := hl
    have hz : 0 < s.size := by omega
    obtain ⟨d, hd⟩ : ∃ d, (s[0]'hz).toNat = d := ⟨_, rfl⟩
    have HD : Hid (d = byteAt s 0) := hide (by rw [byteAt_eq s 0 hz, hd])
    have early : (d < 97 ∨ 122 < d) → isName s = false := fun h => by
      have hbad : nameOk (byteAt s 0) 0 = false := by
        rw [← HD.out]
        refine Bool.eq_false_iff.2 fun h' => ?_
        have := (nameOk_iff d 0).1 h'
        omega
      have := nameFrom_bad s 0 hz hbad
      rw [Nat.sub_zero] at this
      rw [isName, this]
      simp
    cases hA0 : decide ((d : Int) < 97)
    · cases hB0 : decide ((122 : Int) < (d : Int))
      · go_wp2
        go_loop [3] (fun i => ∃ pos : Nat, pos ≤ s.size ∧ i = .int .i64 pos ∧ nameFrom s s.size 0 = nameFrom s (s.size - pos) pos) (fun i => s.size - (intOf i).toNat)
        case atStart => exact ⟨0, by omega, rfl, rfl⟩
        case round =>
          obtain ⟨pos, hpos, rfl, heq⟩ := hrel
          have HE := hide heq
          clear heq
          by_cases hp : pos < s.size
          · obtain ⟨c, hc⟩ : ∃ c, (s[pos]'hp).toNat = c := ⟨_, rfl⟩
            have HC : Hid (c = byteAt s pos) := hide (by rw [byteAt_eq s pos hp, hc])
            have h0 : pos = 0 → c = d := by intro h; subst h; rw [HC.out, HD.out]
            cases hA : decide ((97 : Int) ≤ (c : Int))
            · cases hE : decide ((48 : Int) ≤ (c : Int))
              · cases hD : ((c : Int) == 95)
                · go_wp2
                  all_goals (try (exfalso; go_light; (try simp only [decide_eq_true_eq, decide_eq_false_iff_not, beq_iff_eq, beq_eq_false_iff_ne, ne_eq, Bool.not_eq_true', Bool.not_eq_false'] at *); omega))
                  all_goals
                    go_ret
                    refine ⟨ret_bool ?_, rfl⟩
                    go_light
                    have hbad : nameOk (byteAt s pos) pos = false := by
                      rw [← HC.out]
                      refine Bool.eq_false_iff.2 fun h => ?_
                      have h' := (nameOk_iff c pos).1 h
                      (try simp only [decide_eq_true_eq, decide_eq_false_iff_not, beq_iff_eq, beq_eq_false_iff_ne, ne_eq] at *) <;> omega
                    rw [isName, HE.out, nameFrom_bad s pos hp hbad]
                    simp
                · go_wp2
                  all_goals (try (exfalso; go_light; (try simp only [decide_eq_true_eq, decide_eq_false_iff_not, beq_iff_eq, beq_eq_false_iff_ne, ne_eq, Bool.not_eq_true', Bool.not_eq_false'] at *); omega))
                  all_goals
                    go_round
                    case rel =>
                      go_light
                      (try simp only [decide_eq_true_eq, decide_eq_false_iff_not, beq_iff_eq, beq_eq_false_iff_ne, ne_eq] at *)
                      refine ⟨pos + 1, by omega, by go_num, ?_⟩
                      rw [HE.out]
                      exact nameFrom_good s pos hp (by rw [← HC.out]; exact (nameOk_iff c pos).2 (by omega))
                    case measure => simp [intOf]; omega
              · cases hF : decide ((c : Int) ≤ 57)
                · cases hD : ((c : Int) == 95)
                  · go_wp2
                    all_goals (try (exfalso; go_light; (try simp only [decide_eq_true_eq, decide_eq_false_iff_not, beq_iff_eq, beq_eq_false_iff_ne, ne_eq, Bool.not_eq_true', Bool.not_eq_false'] at *); omega))
                    all_goals
                      go_ret
                      refine ⟨ret_bool ?_, rfl⟩
                      go_light
                      have hbad : nameOk (byteAt s pos) pos = false := by
                        rw [← HC.out]
                        refine Bool.eq_false_iff.2 fun h => ?_
                        have h' := (nameOk_iff c pos).1 h
                        (try simp only [decide_eq_true_eq, decide_eq_false_iff_not, beq_iff_eq, beq_eq_false_iff_ne, ne_eq] at *) <;> omega
                      rw [isName, HE.out, nameFrom_bad s pos hp hbad]
                      simp
                  · go_wp2
                    all_goals (try (exfalso; go_light; (try simp only [decide_eq_true_eq, decide_eq_false_iff_not, beq_iff_eq, beq_eq_false_iff_ne, ne_eq, Bool.not_eq_true', Bool.not_eq_false'] at *); omega))
                    all_goals
                      go_round
                      case rel =>
                        go_light
                        (try simp only [decide_eq_true_eq, decide_eq_false_iff_not, beq_iff_eq, beq_eq_false_iff_ne, ne_eq] at *)
                        refine ⟨pos + 1, by omega, by go_num, ?_⟩
                        rw [HE.out]
                        exact nameFrom_good s pos hp (by rw [← HC.out]; exact (nameOk_iff c pos).2 (by omega))
                      case measure => simp [intOf]; omega
                · go_wp2
                  all_goals (try (exfalso; go_light; (try simp only [decide_eq_true_eq, decide_eq_false_iff_not, beq_iff_eq, beq_eq_false_iff_ne, ne_eq, Bool.not_eq_true', Bool.not_eq_false'] at *); omega))
                  all_goals
                    go_round
                    case rel =>
                      go_light
                      (try simp only [decide_eq_true_eq, decide_eq_false_iff_not, beq_iff_eq, beq_eq_false_iff_ne, ne_eq] at *)
                      refine ⟨pos + 1, by omega, by go_num, ?_⟩
                      rw [HE.out]
                      exact nameFrom_good s pos hp (by rw [← HC.out]; exact (nameOk_iff c pos).2 (by omega))
                    case measure => simp [intOf]; omega
            · cases hB : decide ((c : Int) ≤ 122)
              · cases hE : decide ((48 : Int) ≤ (c : Int))
                · cases hD : ((c : Int) == 95)
                  · go_wp2
                    all_goals (try (exfalso; go_light; (try simp only [decide_eq_true_eq, decide_eq_false_iff_not, beq_iff_eq, beq_eq_false_iff_ne, ne_eq, Bool.not_eq_true', Bool.not_eq_false'] at *); omega))
                    all_goals
                      go_ret
                      refine ⟨ret_bool ?_, rfl⟩
                      go_light
                      have hbad : nameOk (byteAt s pos) pos = false := by
                        rw [← HC.out]
                        refine Bool.eq_false_iff.2 fun h => ?_
                        have h' := (nameOk_iff c pos).1 h
                        (try simp only [decide_eq_true_eq, decide_eq_false_iff_not, beq_iff_eq, beq_eq_false_iff_ne, ne_eq] at *) <;> omega
                      rw [isName, HE.out, nameFrom_bad s pos hp hbad]
                      simp
                  · go_wp2
                    all_goals (try (exfalso; go_light; (try simp only [decide_eq_true_eq, decide_eq_false_iff_not, beq_iff_eq, beq_eq_false_iff_ne, ne_eq, Bool.not_eq_true', Bool.not_eq_false'] at *); omega))
                    all_goals
                      go_round
                      case rel =>
                        go_light
                        (try simp only [decide_eq_true_eq, decide_eq_false_iff_not, beq_iff_eq, beq_eq_false_iff_ne, ne_eq] at *)
                        refine ⟨pos + 1, by omega, by go_num, ?_⟩
                        rw [HE.out]
                        exact nameFrom_good s pos hp (by rw [← HC.out]; exact (nameOk_iff c pos).2 (by omega))
                      case measure => simp [intOf]; omega
                · cases hF : decide ((c : Int) ≤ 57)
                  · cases hD : ((c : Int) == 95)
                    · go_wp2
                      all_goals (try (exfalso; go_light; (try simp only [decide_eq_true_eq, decide_eq_false_iff_not, beq_iff_eq, beq_eq_false_iff_ne, ne_eq, Bool.not_eq_true', Bool.not_eq_false'] at *); omega))
                      all_goals
                        go_ret
                        refine ⟨ret_bool ?_, rfl⟩
                        go_light
                        have hbad : nameOk (byteAt s pos) pos = false := by
                          rw [← HC.out]
                          refine Bool.eq_false_iff.2 fun h => ?_
                          have h' := (nameOk_iff c pos).1 h
                          (try simp only [decide_eq_true_eq, decide_eq_false_iff_not, beq_iff_eq, beq_eq_false_iff_ne, ne_eq] at *) <;> omega
                        rw [isName, HE.out, nameFrom_bad s pos hp hbad]
                        simp
                    · go_wp2
                      all_goals (try (exfalso; go_light; (try simp only [decide_eq_true_eq, decide_eq_false_iff_not, beq_iff_eq, beq_eq_false_iff_ne, ne_eq, Bool.not_eq_true', Bool.not_eq_false'] at *); omega))
                      all_goals
                        go_round
                        case rel =>
                          go_light
                          (try simp only [decide_eq_true_eq, decide_eq_false_iff_not, beq_iff_eq, beq_eq_false_iff_ne, ne_eq] at *)
                          refine ⟨pos + 1, by omega, by go_num, ?_⟩
                          rw [HE.out]
                          exact nameFrom_good s pos hp (by rw [← HC.out]; exact (nameOk_iff c pos).2 (by omega))
                        case measure => simp [intOf]; omega
                  · go_wp2
                    all_goals (try (exfalso; go_light; (try simp only [decide_eq_true_eq, decide_eq_false_iff_not, beq_iff_eq, beq_eq_false_iff_ne, ne_eq, Bool.not_eq_true', Bool.not_eq_false'] at *); omega))
                    all_goals
                      go_round
                      case rel =>
                        go_light
                        (try simp only [decide_eq_true_eq, decide_eq_false_iff_not, beq_iff_eq, beq_eq_false_iff_ne, ne_eq] at *)
                        refine ⟨pos + 1, by omega, by go_num, ?_⟩
                        rw [HE.out]
                        exact nameFrom_good s pos hp (by rw [← HC.out]; exact (nameOk_iff c pos).2 (by omega))
                      case measure => simp [intOf]; omega
              · go_wp2
                all_goals (try (exfalso; go_light; (try simp only [decide_eq_true_eq, decide_eq_false_iff_not, beq_iff_eq, beq_eq_false_iff_ne, ne_eq, Bool.not_eq_true', Bool.not_eq_false'] at *); omega))
                all_goals
                  go_round
                  case rel =>
                    go_light
                    (try simp only [decide_eq_true_eq, decide_eq_false_iff_not, beq_iff_eq, beq_eq_false_iff_ne, ne_eq] at *)
                    refine ⟨pos + 1, by omega, by go_num, ?_⟩
                    rw [HE.out]
                    exact nameFrom_good s pos hp (by rw [← HC.out]; exact (nameOk_iff c pos).2 (by omega))
                  case measure => simp [intOf]; omega
          · go_wp2
            go_ret
            refine ⟨ret_bool ?_, rfl⟩
            go_light
            have : pos = s.size := by omega
            subst this
            rw [isName, HE.out, Nat.sub_self, nameFrom]
            simp [hl2, hz]
      · have he := early (.inr (by simp only [decide_eq_true_eq] at hB0; omega))
        go_wp2
        all_goals (go_ret; exact ⟨ret_bool he.symm, rfl⟩)
    · have he := early (.inl (by simp only [decide_eq_true_eq] at hA0; omega))
      go_wp2
      all_goals (go_ret; exact ⟨ret_bool he.symm, rfl⟩)
end Go.Proofs.YtmnhahilbbnkkaaDoor

namespace Go.Proofs.YtmnhahilbbnkkaaDoor
set_option linter.unusedVariables false
set_option linter.unusedSimpArgs false
open Go.RowKit

set_option maxHeartbeats 400000 in
theorem valid_ref (v : Val) (hv : v.ok) (w : World) :
    Calls Tryd.prog 71 #[.agg v.cells.toArray] w fun e w' => e = .returned (.bool (valid v)) ∧ Below w.heap.size w w' := by
  obtain ⟨k, n, s⟩ := v
  simp only [Val.cells, Val.ok, Str, I64] at *
  obtain ⟨⟨h1, h2⟩, ⟨h3, h4⟩, h5⟩ := hv
  go_enter Tryd.func71, Tryd.ntmps71
  go_wp2
  all_goals
    go_ret
    refine ⟨ret_bool ?_, below_alloc⟩
    go_light
    simp only [beq_iff_eq, beq_eq_false_iff_ne, ne_eq] at *
    try subst k
    simp_all [valid, noStr]
  all_goals (try omega)
  all_goals (try (repeat' split <;> omega))

end Go.Proofs.YtmnhahilbbnkkaaDoor

namespace Go.Proofs.YtmnhahilbbnkkaaDoor
set_option linter.unusedVariables false
set_option linter.unusedSimpArgs false
open Go.RowKit

set_option maxHeartbeats 400000 in
theorem valid_any (v : Val) (hv : v.ok) (w : World) :
    Calls Tryd.prog 57 #[.agg v.cells.toArray] w fun e w' => e = .returned (.bool (valid v)) ∧ Below w.heap.size w w' := by
  obtain ⟨k, n, s⟩ := v
  simp only [Val.cells, Val.ok, Str, I64] at *
  obtain ⟨⟨h1, h2⟩, ⟨h3, h4⟩, h5⟩ := hv
  go_enter Tryd.func57, Tryd.ntmps57
  go_wp2
  all_goals
    go_ret
    refine ⟨ret_bool ?_, below_alloc⟩
    go_light
    simp only [beq_iff_eq, beq_eq_false_iff_ne, ne_eq] at *
    try subst k
    simp_all [valid, noStr]
  all_goals (try omega)
  all_goals (try (repeat' split <;> omega))

theorem isNaN_int (a : Int) (w : World) : Calls Tryd.prog 94 #[.int .i64 a] w fun e w' => e = .returned (.bool false) ∧ w = w' := by
  go_enter Tryd.func94, Tryd.ntmps94
  go_wp2
  all_goals (go_ret; exact ⟨by simp, rfl⟩)
theorem isNaN_str (a : ByteArray) (w : World) : Calls Tryd.prog 95 #[.string a] w fun e w' => e = .returned (.bool false) ∧ w = w' := by
  go_enter Tryd.func95, Tryd.ntmps95
  go_wp2
  all_goals (go_ret; exact ⟨by simp, rfl⟩)
theorem cmp_int (a b : Int) (w : World) : Calls Tryd.prog 79 #[.int .i64 a, .int .i64 b] w fun e w' => e = .returned (.int .i64 (cmpInt a b)) ∧ w = w' := by
  go_enter Tryd.func79, Tryd.ntmps79
  go_wp2_with (go_at_call 94; refine (isNaN_int _ _).mono ?_; rintro e w' ⟨rfl, rfl⟩)
  all_goals (go_ret; refine ⟨ret_int ?_, rfl⟩; go_light; simp only [cmpInt]; (repeat' split) <;> omega)
theorem cmp_str (a b : ByteArray) (w : World) : Calls Tryd.prog 80 #[.string a, .string b] w fun e w' => e = .returned (.int .i64 (cmpStr a b)) ∧ w = w' := by
  go_enter Tryd.func80, Tryd.ntmps80
  go_wp2_with (go_at_call 95; refine (isNaN_str _ _).mono ?_; rintro e w' ⟨rfl, rfl⟩)
  all_goals (go_ret; refine ⟨ret_int ?_, rfl⟩; go_light; simp only [cmpStr]; simp_all)

def or3 (a b c : Int) : Int := if a ≠ 0 then a else if b ≠ 0 then b else c
theorem cmpVal_or (a b : Val) : or3 (cmpInt a.kind b.kind) (cmpInt a.num b.num) (cmpStr a.str b.str) = cmpVal a b := rfl
theorem or_three (a b c : Int) (w : World) (g : Nat) (h0 : w.cell? ⟨g, 0, none⟩ = some (.int .i64 a)) (h1 : w.cell? ⟨g, 1, none⟩ = some (.int .i64 b)) (h2 : w.cell? ⟨g, 2, none⟩ = some (.int .i64 c)) :
    Calls Tryd.prog 78 #[.slice (some ⟨g, 0, none⟩) 3 3] w fun e w' => e = .returned (.int .i64 (or3 a b c)) ∧ w = w' := by
  go_enter Tryd.func78, Tryd.ntmps78
  go_wp2
  go_loop [5, 8] (fun _ i => ∃ k : Nat, k ≤ 3 ∧ i = .int .i64 k ∧ (1 ≤ k → a = 0) ∧ (2 ≤ k → b = 0) ∧ (3 ≤ k → c = 0)) (fun _ i => 3 - (intOf i).toNat)
  case atStart => exact ⟨0, by omega, rfl, by omega, by omega, by omega⟩
  case round =>
    obtain ⟨k, hk, rfl, ha, hb, hc⟩ := hrel
    obtain rfl | rfl | rfl | rfl : k = 0 ∨ k = 1 ∨ k = 2 ∨ k = 3 := by omega
    · clear ha hb hc
      go_wp2
      · go_ret
        exact ⟨ret_int (by go_light; simp_all [or3]), rfl⟩
      · go_round
        case rel => exact ⟨1, by omega, by go_num, (by intro _; go_light; simp_all), by omega, by omega⟩
        case measure => simp [intOf]
    · have ha := ha (by omega)
      subst ha
      clear hb hc
      go_wp2
      · go_ret
        exact ⟨ret_int (by go_light; simp_all [or3]), rfl⟩
      · go_round
        case rel => exact ⟨2, by omega, by go_num, (by first | trivial | (intro _; rfl)), (by intro _; go_light; simp_all), by omega⟩
        case measure => simp [intOf]
    · have ha := ha (by omega)
      have hb := hb (by omega)
      subst ha hb
      clear hc
      go_wp2
      · go_ret
        exact ⟨ret_int (by go_light; simp_all [or3]), rfl⟩
      · go_round
        case rel => exact ⟨3, by omega, by go_num, (by first | trivial | (intro _; rfl)), (by first | trivial | (intro _; rfl)), (by intro _; go_light; simp_all)⟩
        case measure => simp [intOf]
    · have ha := ha (by omega)
      have hb := hb (by omega)
      have hc := hc (by omega)
      subst ha hb hc
      go_wp2
      go_ret
      exact ⟨ret_int (by simp [or3]), rfl⟩

set_option maxRecDepth 100000 in
theorem cmp_val (a b : Val) (w : World) :
    Calls Tryd.prog 64 #[.agg a.cells.toArray, .agg b.cells.toArray] w fun e w' => e = .returned (.int .i64 (cmpVal a b)) ∧ Below w.heap.size w w' := by
  obtain ⟨k, n, s⟩ := a
  obtain ⟨k', n', s'⟩ := b
  simp only [Val.cells]
  go_enter Tryd.func64, Tryd.ntmps64
  go_wp2_with fail
  generalize hW : ((w.alloc _).alloc _) = W
  have c0 : W.cell? ⟨w.heap.size, 0, none⟩ = some (.int .i64 k) := by subst hW; simp [World.cell?_alloc_lt, go_sem]
  have c1 : W.cell? ⟨w.heap.size, 1, none⟩ = some (.int .i64 n) := by subst hW; simp [World.cell?_alloc_lt, go_sem]
  have c2 : W.cell? ⟨w.heap.size, 2, none⟩ = some (.string s) := by subst hW; simp [World.cell?_alloc_lt, go_sem]
  have d0 : W.cell? ⟨w.heap.size + 1, 0, none⟩ = some (.int .i64 k') := by subst hW; simp [go_sem]
  have d1 : W.cell? ⟨w.heap.size + 1, 1, none⟩ = some (.int .i64 n') := by subst hW; simp [go_sem]
  have d2 : W.cell? ⟨w.heap.size + 1, 2, none⟩ = some (.string s') := by subst hW; simp [go_sem]
  have hb : Below w.heap.size w W := by subst hW; exact below_alloc2
  clear hW
  go_region_held3 (fun w' => w'.cell? ⟨w.heap.size, 0, none⟩ = some (.int .i64 k) ∧ w'.cell? ⟨w.heap.size, 1, none⟩ = some (.int .i64 n) ∧ w'.cell? ⟨w.heap.size, 2, none⟩ = some (.string s)
     ∧ w'.cell? ⟨w.heap.size + 1, 0, none⟩ = some (.int .i64 k') ∧ w'.cell? ⟨w.heap.size + 1, 1, none⟩ = some (.int .i64 n') ∧ w'.cell? ⟨w.heap.size + 1, 2, none⟩ = some (.string s')) (go_keep)
    (first | (go_at_call 79; refine (cmp_int _ _ _).mono ?_; rintro e w' ⟨rfl, rfl⟩) | (go_at_call 80; refine (cmp_str _ _ _).mono ?_; rintro e w' ⟨rfl, rfl⟩) | (go_at_call 78; refine (or_three (cmpInt k k') (cmpInt n n') (cmpStr s s') _ _ ?_ ?_ ?_).mono ?_; (simp [go_sem]); (simp [go_sem]); (simp [go_sem]); rintro e w' ⟨rfl, rfl⟩))
  go_wp2
  go_ret
  exact ⟨rfl, (hb.alloc hb.size _).drew⟩
end Go.Proofs.YtmnhahilbbnkkaaDoor

namespace Go.Proofs.YtmnhahilbbnkkaaDoor
open Go.RowKit
set_option linter.unusedSimpArgs false
set_option linter.unusedVariables false

set_option maxHeartbeats 2000000 in
set_option maxRecDepth 100000 in
theorem arity_any (n : Node) (w : World) : Calls Tryd.prog 24 #[.agg n.cells.toArray] w fun e w' => e = .returned (.int .i64 (arity n.op n.arity)) ∧ Below w.heap.size w w' := by
  obtain ⟨op, ⟨kd, nu, st⟩, nm, ar⟩ := n
  simp only [Node.cells]
  go_enter Tryd.func24, Tryd.ntmps24
  go_wp2
  all_goals (go_ret; refine ⟨ret_int ?_, below_alloc⟩; go_light; unfold arity; first | (simp_all; done) | (simp_all; omega) | (repeat' split) <;> omega)
set_option maxHeartbeats 2000000 in
set_option maxRecDepth 100000 in
theorem arity_ref (n : Node) (w : World) : Calls Tryd.prog 6 #[.agg n.cells.toArray] w fun e w' => e = .returned (.int .i64 (arity n.op n.arity)) ∧ Below w.heap.size w w' := by
  obtain ⟨op, ⟨kd, nu, st⟩, nm, ar⟩ := n
  simp only [Node.cells]
  go_enter Tryd.func6, Tryd.ntmps6
  go_wp2
  all_goals (go_ret; refine ⟨ret_int ?_, below_alloc⟩; go_light; unfold arity; first | (simp_all; done) | (simp_all; omega) | (repeat' split) <;> omega)
end Go.Proofs.YtmnhahilbbnkkaaDoor

namespace Go.Proofs.YtmnhahilbbnkkaaDoor
open Go.RowKit
set_option linter.unusedSimpArgs false
set_option linter.unusedVariables false

def Bnd30 (n : Int) : Prop := -1073741824 ≤ n ∧ n ≤ 1073741824
theorem small_any (a : Int) (w : World) : Calls Tryd.prog 76 #[.int .i64 a] w fun e w' => e = .returned (.bool (smallI a)) ∧ w = w' := by
  go_enter Tryd.func76, Tryd.ntmps76
  go_wp2
  all_goals (go_ret; refine ⟨ret_bool ?_, rfl⟩; go_light; unfold smallI; first | (simp_all; done) | (simp_all; omega))
theorem smallI_of {a : Int} (h : Bnd30 a) : smallI a = true := by unfold Bnd30 at h; simp [smallI]; omega
/-- The result r, if it is small. -/
def chk (r : Int) : Int × Bool := if smallI r then (r, true) else (0, false)
theorem addX_chk {a b : Int} (ha : Bnd30 a) (hb : Bnd30 b) : addX a b = chk (a + b) := by simp [addX, chk, smallI_of ha, smallI_of hb]
theorem subX_chk {a b : Int} (ha : Bnd30 a) (hb : Bnd30 b) : subX a b = chk (a - b) := by simp [subX, chk, smallI_of ha, smallI_of hb]
theorem mulX_chk {a b : Int} (ha : Bnd30 a) (hb : Bnd30 b) : mulX a b = chk (a * b) := by simp [mulX, chk, smallI_of ha, smallI_of hb]
theorem checked_any (r : Int) (w : World) : Calls Tryd.prog 77 #[.int .i64 r] w fun e w' => e = .returned (.tuple #[.int .i64 (chk r).1, .bool (chk r).2]) ∧ w = w' := by
  go_enter Tryd.func77, Tryd.ntmps77
  cases h : smallI r
  · go_wp2_with (go_at_call 76; refine (small_any _ _).mono ?_; rintro e w' ⟨rfl, rfl⟩)
    go_ret2
    exact ⟨by simp [chk, h], rfl⟩
  · go_wp2_with (go_at_call 76; refine (small_any _ _).mono ?_; rintro e w' ⟨rfl, rfl⟩)
    go_ret2
    exact ⟨by simp [chk, h], rfl⟩
theorem mul_bd {a b : Int} (ha : Bnd30 a) (hb : Bnd30 b) : -1152921504606846976 ≤ a * b ∧ a * b ≤ 1152921504606846976 := by
  have h : (a * b).natAbs ≤ 1073741824 * 1073741824 := by
    rw [Int.natAbs_mul]
    exact Nat.mul_le_mul (by unfold Bnd30 at ha; omega) (by unfold Bnd30 at hb; omega)
  omega
theorem add_any (a b : Int) (ha : Bnd30 a) (hb : Bnd30 b) (w : World) : Calls Tryd.prog 84 #[.int .i64 a, .int .i64 b] w fun e w' => e = .returned (.tuple #[.int .i64 (addX a b).1, .bool (addX a b).2]) ∧ w = w' := by
  rw [addX_chk ha hb]
  have s1 := smallI_of ha
  have s2 := smallI_of hb
  have hw : IntKind.i64.wrap (a + b) = a + b := IntWalk.i64_in _ (by unfold Bnd30 at ha hb; omega)
  go_enter Tryd.func84, Tryd.ntmps84
  go_wp2_with (first | (go_at_call 76; refine (small_any _ _).mono ?_; rintro e w' ⟨rfl, rfl⟩) | (go_at_call 77; (try rw [hw]); refine (checked_any _ _).mono ?_; rintro e w' ⟨rfl, rfl⟩))
  go_ret2
  exact ⟨rfl, rfl⟩
theorem sub_any (a b : Int) (ha : Bnd30 a) (hb : Bnd30 b) (w : World) : Calls Tryd.prog 63 #[.int .i64 a, .int .i64 b] w fun e w' => e = .returned (.tuple #[.int .i64 (subX a b).1, .bool (subX a b).2]) ∧ w = w' := by
  rw [subX_chk ha hb]
  have s1 := smallI_of ha
  have s2 := smallI_of hb
  have hw : IntKind.i64.wrap (a - b) = a - b := IntWalk.i64_in _ (by unfold Bnd30 at ha hb; omega)
  go_enter Tryd.func63, Tryd.ntmps63
  go_wp2_with (first | (go_at_call 76; refine (small_any _ _).mono ?_; rintro e w' ⟨rfl, rfl⟩) | (go_at_call 77; (try rw [hw]); refine (checked_any _ _).mono ?_; rintro e w' ⟨rfl, rfl⟩))
  go_ret2
  exact ⟨rfl, rfl⟩
theorem mul_any (a b : Int) (ha : Bnd30 a) (hb : Bnd30 b) (w : World) : Calls Tryd.prog 85 #[.int .i64 a, .int .i64 b] w fun e w' => e = .returned (.tuple #[.int .i64 (mulX a b).1, .bool (mulX a b).2]) ∧ w = w' := by
  rw [mulX_chk ha hb]
  have s1 := smallI_of ha
  have s2 := smallI_of hb
  have hm : -1152921504606846976 ≤ a * b ∧ a * b ≤ 1152921504606846976 := mul_bd ha hb
  have hw : IntKind.i64.wrap (a * b) = a * b := IntWalk.i64_in _ (by unfold Bnd30 at ha hb; omega)
  go_enter Tryd.func85, Tryd.ntmps85
  go_wp2_with (first | (go_at_call 76; refine (small_any _ _).mono ?_; rintro e w' ⟨rfl, rfl⟩) | (go_at_call 77; (try rw [hw]); refine (checked_any _ _).mono ?_; rintro e w' ⟨rfl, rfl⟩))
  go_ret2
  exact ⟨rfl, rfl⟩
theorem truth_any (v : Val) (hv : v.ok) (w : World) : Calls Tryd.prog 60 #[.agg v.cells.toArray] w fun e w' => e = .returned (.int .i64 (truth v)) ∧ Below w.heap.size w w' := by
  obtain ⟨k, n, s⟩ := v
  have hv' := hv
  simp only [Val.cells]
  by_cases h1 : k = 1
  · subst h1
    have HT : Hid (truth ⟨1, n, s⟩ = if valid ⟨1, n, s⟩ = true then n else -1) := hide (by simp [truth])
    cases hvd : valid ⟨1, n, s⟩
    all_goals
      rw [hvd] at HT
      go_enter Tryd.func60, Tryd.ntmps60
      go_wp2_with fail
      refine (valid_any ⟨1, n, s⟩ hv' _).mono ?_
      rintro e w1 ⟨rfl, hb1⟩
      have hbb := below_trans below_alloc hb1
      have g1 := bat (b := w.heap.size) (o := 1) (v := .int .i64 n) hb1 (by simp) (by simp [go_sem])
      clear hb1
      rw [hvd]
      go_wp2
      go_ret
      exact ⟨ret_int (by rw [HT.out]; simp), hbb⟩
  · have HT : Hid (truth ⟨k, n, s⟩ = -1) := hide (by simp [truth, h1])
    have q : (k != 1) = true := by simpa using h1
    clear h1
    go_enter Tryd.func60, Tryd.ntmps60
    go_wp2
    go_ret
    exact ⟨ret_int HT.out.symm, below_alloc⟩
end Go.Proofs.YtmnhahilbbnkkaaDoor

namespace Go.Proofs.YtmnhahilbbnkkaaDoor
open Go.RowKit
set_option linter.unusedSimpArgs false
set_option linter.unusedVariables false

theorem index_clo (c : Col) (name : ByteArray) (g : Nat) (w : World) (hg : w.cell? ⟨g, 0, none⟩ = some (.string name)) (hlt : g < w.heap.size) :
    Calls Tryd.prog 40 #[.agg c.cells.toArray, .pointer (some ⟨g, 0, none⟩)] w fun e w' => e = .returned (.bool (c.name.toList == name.toList)) ∧ Below w.heap.size w w' := by
  simp only [Col.cells]
  go_enter Tryd.func40, Tryd.ntmps40
  go_wp2
  go_ret
  exact ⟨rfl, below_alloc⟩

set_option maxRecDepth 100000 in
theorem indexFunc_col (w : World) (A : Option Addr) (n c : Nat) (xs : List Col) (hx : In w A n c xs) (name : ByteArray) (g : Nat) (hg : w.cell? ⟨g, 0, none⟩ = some (.string name)) (hlt : g < w.heap.size) :
    Calls Tryd.prog 39 #[.slice A n c, .func (.func 40) #[] #[.pointer (some ⟨g, 0, none⟩)]] w
      fun e w' => e = .returned (.int .i64 (index xs name)) ∧ Below w.heap.size w w' := by
  have h63 := hx.le
  go_enter Tryd.func39, Tryd.ntmps39
  go_wp2
  go_loopw [8] (fun i wr => ∃ k : Nat, k ≤ n ∧ i = .int .i64 k ∧ index xs name = indexFrom name k (xs.drop k) ∧ Below w.heap.size w wr) (fun i _ => n - (intOf i).toNat)
  case atStart => exact ⟨0, Nat.zero_le _, rfl, rfl, Below.refl _ _⟩
  case round =>
    obtain ⟨k, hk, rfl, heq, hb⟩ := hrel
    have HE := hide heq
    clear heq
    by_cases hlt' : k < n
    · obtain ⟨b, off, x, rfl, hB, HX, e0, e1, e2, e3⟩ := (hx.below hb).col hlt'
      go_wp2_with fail
      refine (index_clo x name g _ (bat hb hlt hg) (Nat.lt_of_lt_of_le hlt hb.size)).mono ?_
      rintro e w1 ⟨rfl, hb1⟩
      have hbb := below_trans hb hb1
      clear hb1 e0 e1 e2
      cases hz : (x.name.toList == name.toList)
      · go_wp2
        go_roundw
        case rel => exact ⟨k + 1, by omega, by go_num, by rw [HE.out, HX.out, indexFrom, if_neg (by simp [hz])], hbb⟩
        case measure => simp [intOf]; omega
      · go_wp2
        go_ret
        exact ⟨ret_int (by rw [HE.out, HX.out, indexFrom, if_pos hz]), hbb⟩
    · go_wp2
      go_ret
      exact ⟨ret_int (by rw [HE.out, drop_end hx.len (by omega), indexFrom]), hb⟩

theorem index_any (w : World) (A : Option Addr) (n c : Nat) (xs : List Col) (hx : In w A n c xs) (name : ByteArray) :
    Calls Tryd.prog 25 #[.slice A n c, .string name] w fun e w' => e = .returned (.int .i64 (index xs name)) ∧ Below w.heap.size w w' := by
  go_enter Tryd.func25, Tryd.ntmps25
  go_wp2_with fail
  refine (indexFunc_col _ _ _ _ xs (hx.below below_alloc) name w.heap.size (by simp [go_sem]) (by simp)).mono ?_
  rintro e w1 ⟨rfl, hb1⟩
  have hbb := below_trans below_alloc hb1
  go_wp2
  go_ret
  exact ⟨rfl, hbb⟩

set_option maxRecDepth 100000 in
theorem index_ref (w : World) (A : Option Addr) (n c : Nat) (xs : List Col) (hx : In w A n c xs) (name : ByteArray) :
    Calls Tryd.prog 50 #[.slice A n c, .string name] w fun e w' => e = .returned (.int .i64 (index xs name)) ∧ w = w' := by
  have h63 := hx.le
  go_enter Tryd.func50, Tryd.ntmps50
  go_wp2
  go_loop [5] (fun i => ∃ k : Nat, k ≤ n ∧ i = .int .i64 k ∧ index xs name = indexFrom name k (xs.drop k)) (fun i => n - (intOf i).toNat)
  case atStart => exact ⟨0, Nat.zero_le _, rfl, rfl⟩
  case round =>
    obtain ⟨k, hk, rfl, heq⟩ := hrel
    have HE := hide heq
    clear heq
    by_cases hlt' : k < n
    · obtain ⟨b, off, x, rfl, hB, HX, e0, e1, e2, e3⟩ := hx.col hlt'
      cases hz : (x.name.toList == name.toList)
      · go_wp2
        go_round
        case rel => exact ⟨k + 1, by omega, by go_num, by rw [HE.out, HX.out, indexFrom, if_neg (by simp [hz])]⟩
        case measure => simp [intOf]; omega
      · go_wp2
        go_ret
        exact ⟨ret_int (by rw [HE.out, HX.out, indexFrom, if_pos hz]), rfl⟩
    · go_wp2
      go_ret
      exact ⟨ret_int (by rw [HE.out, drop_end hx.len (by omega), indexFrom]), rfl⟩
end Go.Proofs.YtmnhahilbbnkkaaDoor

namespace Go.Proofs.YtmnhahilbbnkkaaDoor
open Go.RowKit
set_option linter.unusedSimpArgs false
set_option linter.unusedVariables false

theorem firstErr_zero {α : Type} {f : Nat → α → Int} {k : Nat} {x : α} {l : List α} (h : f k x = 0) : firstErr f k (x :: l) = firstErr f (k + 1) l := by simp [firstErr, h]
theorem firstErr_err {α : Type} {f : Nat → α → Int} {k : Nat} {x : α} {l : List α} {e : Int} (h : f k x = e) (he : e ≠ 0) : firstErr f k (x :: l) = e := by simp [firstErr, h, he]
theorem indexFrom_ge (name : ByteArray) (l : List Col) : ∀ k, indexFrom name k l = -1 ∨ (k : Int) ≤ indexFrom name k l := by
  induction l with
  | nil => intro k; exact .inl rfl
  | cons c l ih =>
    intro k
    rw [indexFrom]
    split
    · exact .inr (Int.le_refl _)
    · rcases ih (k + 1) with h | h
      · exact .inl h
      · exact .inr (by omega)
/-- Index is at most the number of a column that has the name. -/
theorem indexFrom_le (name : ByteArray) (l : List Col) : ∀ k i, (h : i < l.length) → (l[i].name.toList == name.toList) = true → 0 ≤ indexFrom name k l ∧ indexFrom name k l ≤ k + i := by
  induction l with
  | nil => intro k i h; simp at h
  | cons c l ih =>
    intro k i h he
    rw [indexFrom]
    split
    · exact ⟨by omega, by omega⟩
    · rename_i hc
      cases i with
      | zero => exact absurd he hc
      | succ i =>
        have := ih (k + 1) i (by simpa using h) (by simpa using he)
        omega

set_option maxRecDepth 100000 in
theorem cols_any (w : World) (A : Option Addr) (n c : Nat) (xs : List Col) (hx : In w A n c xs) :
    Calls Tryd.prog 37 #[.slice A n c] w fun e w' => e = .returned (.int .i64 (colsErr xs)) ∧ Below w.heap.size w w' := by
  have h63 := hx.le
  have hlen := hide hx.len
  go_enter Tryd.func37, Tryd.ntmps37
  by_cases hs : n < 1 ∨ 12 < n
  · have he : Hid (2 = colsErr xs) := hide (by rw [colsErr, hlen.out, if_pos hs])
    rcases hs with hs | hs
    all_goals
      go_wp2
      go_ret
      exact ⟨ret_int he.out, Below.refl _ _⟩
  have HE0 : Hid (colsErr xs = firstErr (colErr xs) 0 xs) := hide (by rw [colsErr, hlen.out, if_neg hs])
  have hs1 : 1 ≤ n := by omega
  have hs2 : n ≤ 12 := by omega
  clear hs
  go_wp2
  go_loopw [15] (fun i wr => ∃ k : Nat, k ≤ n ∧ i = .int .i64 k ∧ firstErr (colErr xs) 0 xs = firstErr (colErr xs) k (xs.drop k) ∧ Below w.heap.size w wr) (fun i _ => n - (intOf i).toNat)
  case atStart => exact ⟨0, Nat.zero_le _, rfl, rfl, Below.refl _ _⟩
  case round =>
    obtain ⟨k, hk, rfl, heq, hb⟩ := hrel
    have HE := hide heq
    clear heq
    by_cases hlt : k < n
    · obtain ⟨b, off, x, rfl, hB, HX, e0, e1, e2, e3⟩ := (hx.below hb).col hlt
      go_wp2_with fail
      refine (isName_any x.name e3.1 _).mono ?_
      rintro e w1 ⟨rfl, hb1⟩
      have hbb := below_trans (below_trans hb below_alloc) hb1
      obtain ⟨hc1, hf1⟩ := bcell hb1
      have hin := hx.below hbb
      clear hb1 e0 e1 e2
      obtain ⟨hk1, hk2⟩ := e3.2
      cases hnm : isName x.name
      · go_wp2
        go_ret
        exact ⟨ret_int (by rw [HE0.out, HE.out, HX.out]; exact (firstErr_err (by simp [colErr, hnm]) (by omega)).symm), hbb⟩
      · by_cases hkd : x.kind < 1 ∨ 4 < x.kind
        · have he : colErr xs k x = 7 := by rw [colErr, if_neg (by simp [hnm]), if_pos hkd]
          have HR : Hid (7 = colsErr xs) := hide (by rw [HE0.out, HE.out, HX.out]; exact (firstErr_err he (by omega)).symm)
          clear he
          rcases hkd with hkd | hkd
          all_goals
            go_wp2
            go_ret
            exact ⟨ret_int HR.out, hbb⟩
        · have hk3 : 1 ≤ x.kind := by omega
          have hk4 : x.kind ≤ 4 := by omega
          have HC : Hid (colErr xs k x = if index xs x.name < k then 6 else 0) := hide (by rw [colErr, if_neg (by simp [hnm]), if_neg hkd])
          clear hkd
          go_wp2_with fail
          refine (index_any _ _ _ _ xs hin x.name).mono ?_
          rintro e w2 ⟨rfl, hb2⟩
          have hbb2 := below_trans hbb hb2
          clear hb2 hc1 hf1
          by_cases hi : index xs x.name < k
          · have HR : Hid (6 = colsErr xs) := hide (by rw [HE0.out, HE.out, HX.out]; exact (firstErr_err (by rw [HC.out, if_pos hi]) (by omega)).symm)
            go_wp2
            go_ret
            exact ⟨ret_int HR.out, hbb2⟩
          · go_wp2
            go_roundw
            case rel => exact ⟨k + 1, by omega, by go_num, by rw [HE.out, HX.out]; exact firstErr_zero (by rw [HC.out, if_neg (by omega)]), hbb2⟩
            case measure => simp [intOf]; omega
    · go_wp2
      go_ret
      exact ⟨ret_int (by rw [HE0.out, HE.out, drop_end hx.len (by omega), firstErr]), hb⟩

theorem index_self {xs : List Col} {k : Nat} {x : Col} {l : List Col} (h : xs.drop k = x :: l) : 0 ≤ index xs x.name ∧ index xs x.name ≤ k := by
  obtain ⟨h1, h2⟩ := drop_get h
  rw [List.getElem?_eq_getElem h2] at h1
  injection h1 with h1
  have := indexFrom_le x.name xs 0 k h2 (by rw [h1]; simp)
  rw [index]
  omega

set_option maxRecDepth 100000 in
theorem cols_ref (w : World) (A : Option Addr) (n c : Nat) (xs : List Col) (hx : In w A n c xs) :
    Calls Tryd.prog 29 #[.slice A n c] w fun e w' => e = .returned (.int .i64 (colsErr xs)) ∧ w = w' := by
  have h63 := hx.le
  have hlen := hide hx.len
  go_enter Tryd.func29, Tryd.ntmps29
  by_cases hs : n < 1 ∨ 12 < n
  · have he : Hid (2 = colsErr xs) := hide (by rw [colsErr, hlen.out, if_pos hs])
    rcases hs with hs | hs
    all_goals
      go_wp2
      go_ret
      exact ⟨ret_int he.out, rfl⟩
  have HE0 : Hid (colsErr xs = firstErr (colErr xs) 0 xs) := hide (by rw [colsErr, hlen.out, if_neg hs])
  have hs1 : 1 ≤ n := by omega
  have hs2 : n ≤ 12 := by omega
  clear hs
  go_wp2
  go_loop [3] (fun i => ∃ k : Nat, k ≤ n ∧ i = .int .i64 k ∧ firstErr (colErr xs) 0 xs = firstErr (colErr xs) k (xs.drop k)) (fun i => n - (intOf i).toNat)
  case atStart => exact ⟨0, Nat.zero_le _, rfl, rfl⟩
  case round =>
    obtain ⟨k, hk, rfl, heq⟩ := hrel
    have HE := hide heq
    clear heq
    by_cases hlt : k < n
    · obtain ⟨b, off, x, rfl, hB, HX, e0, e1, e2, e3⟩ := hx.col hlt
      obtain ⟨hk1, hk2⟩ := e3.2
      cases hnm : isName x.name
      · go_wp2_with (go_at_call 49; refine (isName_ref x.name e3.1 _).mono ?_; rintro e w' ⟨rfl, rfl⟩)
        go_ret
        exact ⟨ret_int (by rw [HE0.out, HE.out, HX.out]; exact (firstErr_err (by simp [colErr, hnm]) (by omega)).symm), rfl⟩
      · by_cases hkd : x.kind < 1 ∨ 4 < x.kind
        · have he : colErr xs k x = 7 := by rw [colErr, if_neg (by simp [hnm]), if_pos hkd]
          have HR : Hid (7 = colsErr xs) := hide (by rw [HE0.out, HE.out, HX.out]; exact (firstErr_err he (by omega)).symm)
          clear he
          rcases hkd with hkd | hkd
          all_goals
            go_wp2_with (go_at_call 49; refine (isName_ref x.name e3.1 _).mono ?_; rintro e w' ⟨rfl, rfl⟩)
            go_ret
            exact ⟨ret_int HR.out, rfl⟩
        · have hk3 : 1 ≤ x.kind := by omega
          have hk4 : x.kind ≤ 4 := by omega
          have HC : Hid (colErr xs k x = if index xs x.name < k then 6 else 0) := hide (by rw [colErr, if_neg (by simp [hnm]), if_neg hkd])
          clear hkd
          obtain ⟨i1, i2⟩ := index_self HX.out
          by_cases hi : index xs x.name = k
          · have HR : Hid (colErr xs k x = 0) := hide (by rw [HC.out, if_neg (by omega)])
            have hz : (index xs x.name == (k : Int)) = true := by simp [hi]
            have HI := hide hi
            clear hi
            go_wp2_with (first | (go_at_call 49; refine (isName_ref x.name e3.1 _).mono ?_; rintro e w' ⟨rfl, rfl⟩) | (go_at_call 50; refine (index_ref _ _ _ _ xs hx x.name).mono ?_; rintro e w' ⟨rfl, rfl⟩))
            all_goals (try (exfalso; go_light; simp_all; done))
            go_round
            case rel => exact ⟨k + 1, by omega, by go_num, by rw [HE.out, HX.out]; exact firstErr_zero HR.out⟩
            case measure => simp [intOf]; omega
          · have HR : Hid (6 = colsErr xs) := hide (by rw [HE0.out, HE.out, HX.out]; exact (firstErr_err (by rw [HC.out, if_pos (by omega)]) (by omega)).symm)
            have hz : (index xs x.name == (k : Int)) = false := by simp [hi]
            go_wp2_with (first | (go_at_call 49; refine (isName_ref x.name e3.1 _).mono ?_; rintro e w' ⟨rfl, rfl⟩) | (go_at_call 50; refine (index_ref _ _ _ _ xs hx x.name).mono ?_; rintro e w' ⟨rfl, rfl⟩))
            all_goals (try (exfalso; go_light; simp_all; done))
            go_ret
            exact ⟨ret_int HR.out, rfl⟩
    · go_wp2
      go_ret
      exact ⟨ret_int (by rw [HE0.out, HE.out, drop_end hx.len (by omega), firstErr]), rfl⟩
end Go.Proofs.YtmnhahilbbnkkaaDoor

namespace Go.Proofs.YtmnhahilbbnkkaaDoor
open Go.RowKit
set_option linter.unusedSimpArgs false
set_option linter.unusedVariables false

theorem and_ex (x : Int) (m : Nat) (hm : m < 9223372036854775808) : ∃ v, bits .and .i64 x (m : Int) = v ∧ 0 ≤ v ∧ v ≤ (m : Int) := ⟨_, rfl, (and_i64_range x m hm).1, (and_i64_range x m hm).2⟩

set_option maxRecDepth 100000 in
theorem at_any (w : World) (A : Option Addr) (n c : Nat) (l : List Int) (hx : In w A n c l) (i : Int) :
    Calls Tryd.prog 22 #[.slice A n c, .int .i64 i] w fun e w' => (∃ v, e = .returned (.int .i64 v) ∧ 0 ≤ v ∧ v ≤ 131070) ∧ Below w.heap.size w w' := by
  have h63 := hx.le
  obtain ⟨j, hj, hj0, hj1⟩ := and_ex i 65535 (by omega)
  have hj' : bits BinOp.and IntKind.i64 i 65535 = j := hj
  go_enter Tryd.func22, Tryd.ntmps22
  by_cases h0 : n = 0
  · subst h0
    go_wp2
    go_ret
    exact ⟨⟨j, rfl, hj0, by omega⟩, Below.refl _ _⟩
  · obtain ⟨r, hr, hrn⟩ : ∃ r : Nat, j.tmod (n : Int) = (r : Int) ∧ r < n := by
      have h1 := Int.emod_lt_of_pos j (show (0 : Int) < n by omega)
      have h2 := Int.emod_nonneg j (show (n : Int) ≠ 0 by omega)
      have h3 : j.tmod (n : Int) = j % (n : Int) := Int.tmod_eq_emod_of_nonneg hj0
      exact ⟨(j % (n : Int)).toNat, by omega, by omega⟩
    obtain ⟨b, off, x, rfl, hB, HX, e0, e1⟩ := hx.int hrn
    obtain ⟨v, hv, hv0, hv1⟩ := and_ex x 65535 (by omega)
    have hv' : bits BinOp.and IntKind.i64 x 65535 = v := hv
    obtain ⟨q, hq, hq0, hq1⟩ : ∃ q, j.tdiv (n : Int) = q ∧ 0 ≤ q ∧ q ≤ 65535 := by
      refine ⟨_, rfl, ?_, ?_⟩
      · rw [Int.tdiv_eq_ediv_of_nonneg hj0]; exact Int.ediv_nonneg hj0 (by omega)
      · rw [Int.tdiv_eq_ediv_of_nonneg hj0]
        exact Int.le_trans (Int.ediv_le_self _ hj0) hj1
    have hq2 : IntKind.i64.wrap q = q := IntWalk.i64_in _ (by omega)
    have hs : IntKind.i64.wrap (v + q) = v + q := IntWalk.i64_in _ (by omega)
    have hz : ((n : Int) == 0) = false := by simp; omega
    have hn : (0 : Int) < (n : Int) := by omega
    have hr0 : (0 : Int) ≤ (r : Int) := by omega
    have hr1 : (r : Int) < (n : Int) := by omega
    clear hj hv
    go_wp2
    go_quiet (fail)
    go_wp2
    go_ret
    exact ⟨⟨v + q, rfl, by omega, by omega⟩, below_drewN (Below.refl _ _) _⟩

set_option maxRecDepth 100000 in
theorem moment_any (w : World) (i : Int) :
    Calls Tryd.prog 20 #[.int .i64 i] w fun e w' => (∃ v, e = .returned (.int .i64 v) ∧ 0 ≤ v ∧ v ≤ 575999999) ∧ Below w.heap.size w w' := by
  obtain ⟨j, hj, hj0, hj1⟩ := and_ex i 65535 (by omega)
  have hj' : bits BinOp.and IntKind.i64 i 65535 = j := hj
  clear hj
  obtain ⟨a, ha, ha0, ha1⟩ := and_ex (j / 256) 15 (by omega)
  have ha' : bits BinOp.and IntKind.i64 (j / 256) 15 = a := ha
  obtain ⟨b, hb, hb0, hb1⟩ := and_ex (j / 8) 3 (by omega)
  have hb' : bits BinOp.and IntKind.i64 (j / 8) 3 = b := hb
  obtain ⟨d, hd, hd0, hd1⟩ := and_ex (j / 32) 1 (by omega)
  have hd' : bits BinOp.and IntKind.i64 (j / 32) 1 = d := hd
  clear ha hb hd
  cases hz : (a == 0)
  · go_enter Tryd.func20, Tryd.ntmps20
    go_wp2
    all_goals (try (exfalso; go_light; simp_all; done))
    go_ret
    refine ⟨⟨_, rfl, ?_, ?_⟩, Below.refl _ _⟩
    all_goals (go_light; omega)
  · obtain h6 | h6 | h6 | h6 | h6 | h6 : j % 6 = 0 ∨ j % 6 = 1 ∨ j % 6 = 2 ∨ j % 6 = 3 ∨ j % 6 = 4 ∨ j % 6 = 5 := by omega
    all_goals
      go_enter Tryd.func20, Tryd.ntmps20
      go_wp2
      all_goals (try (exfalso; go_light; simp_all; done))
      go_ret
      exact ⟨⟨_, rfl, by omega, by omega⟩, below_alloc⟩

/-- What Value builds. -/
def Made (kind : Int) (v : Val) : Prop := valid v = true ∧ v.ok ∧ (1 ≤ kind → kind ≤ 4 → v.kind = kind) ∧ (kind < 1 ∨ 4 < kind → v.kind = 0)
theorem noStr_mt : noStr ⟨#[]⟩ = true := by rw [noStr, ByteArray.toList_eq]; rfl
theorem made_bool {d : Int} (h0 : 0 ≤ d) (h1 : d ≤ 1) : Made 1 ⟨1, d, ⟨#[]⟩⟩ := by
  refine ⟨?_, ⟨⟨by simp only; omega, by simp only; omega⟩, ⟨by simp only; omega, by simp only; omega⟩, by simp [Str, ByteArray.size]⟩, fun _ _ => rfl, fun h => by omega⟩
  obtain rfl | rfl : d = 0 ∨ d = 1 := by omega
  all_goals simp [valid, noStr_mt]
theorem made_int {d : Int} (h0 : -1073741824 ≤ d) (h1 : d ≤ 1073741824) : Made 2 ⟨2, d, ⟨#[]⟩⟩ := by
  refine ⟨?_, ⟨⟨by simp only; omega, by simp only; omega⟩, ⟨by simp only; omega, by simp only; omega⟩, by simp [Str, ByteArray.size]⟩, fun _ _ => rfl, fun h => by omega⟩
  simp [valid, noStr_mt, h0, h1]
theorem made_text {s : ByteArray} (h : s.size ≤ 64) : Made 3 ⟨3, 0, s⟩ := by
  refine ⟨?_, ⟨⟨by simp only; omega, by simp only; omega⟩, ⟨by simp only; omega, by simp only; omega⟩, by unfold Str; simp only; omega⟩, fun _ _ => rfl, fun h => by omega⟩
  simp [valid, h]
theorem made_time {d : Int} (h0 : 0 ≤ d) (h1 : d ≤ 575999999) : Made 4 ⟨4, d, ⟨#[]⟩⟩ := by
  refine ⟨?_, ⟨⟨by simp only; omega, by simp only; omega⟩, ⟨by simp only; omega, by simp only; omega⟩, by simp [Str, ByteArray.size]⟩, fun _ _ => rfl, fun h => by omega⟩
  simp [valid, noStr_mt, h0, h1]
theorem made_null {k : Int} (h : k < 1 ∨ 4 < k) : Made k ⟨0, 0, ⟨#[]⟩⟩ := by
  refine ⟨?_, ⟨⟨by simp only; omega, by simp only; omega⟩, ⟨by simp only; omega, by simp only; omega⟩, by simp [Str, ByteArray.size]⟩, fun _ _ => by omega, fun _ => rfl⟩
  simp [valid, noStr_mt]
set_option maxRecDepth 100000 in
theorem value_bool (w : World) (i : Int) :
    Calls Tryd.prog 12 #[.int .i64 1, .int .i64 i] w fun e w' => (∃ v, e = .returned (.agg v.cells.toArray) ∧ Made 1 v) ∧ Below w.heap.size w w' := by
  obtain ⟨j, hj, hj0, hj1⟩ := and_ex i 65535 (by omega)
  have hj' : bits BinOp.and IntKind.i64 i 65535 = j := hj
  clear hj
  obtain ⟨d, hd, hd0, hd1⟩ := and_ex j 1 (by omega)
  have hd' : bits BinOp.and IntKind.i64 j 1 = d := hd
  clear hd
  go_enter Tryd.func12, Tryd.ntmps12
  go_wp2
  refine bodyPost_ret (v := .agg (Val.cells ⟨1, d, ⟨#[]⟩⟩).toArray) (by simp [results, Tryd.results12, go_sem, Val.cells]) rfl ⟨⟨_, rfl, ?_⟩, (by exact (Below.refl _ _).alloc (Nat.le_refl _) _)⟩
  exact made_bool hd0 hd1
set_option maxRecDepth 100000 in
theorem value_int (w : World) (i : Int) :
    Calls Tryd.prog 12 #[.int .i64 2, .int .i64 i] w fun e w' => (∃ v, e = .returned (.agg v.cells.toArray) ∧ Made 2 v) ∧ Below w.heap.size w w' := by
  obtain ⟨j, hj, hj0, hj1⟩ := and_ex i 65535 (by omega)
  have hj' : bits BinOp.and IntKind.i64 i 65535 = j := hj
  clear hj
  obtain ⟨a, ha, ha0, ha1⟩ := and_ex (j / 256) 31 (by omega)
  have ha' : bits BinOp.and IntKind.i64 (j / 256) 31 = a := ha
  obtain ⟨b, hb, hb0, hb1⟩ := and_ex j 1 (by omega)
  have hb' : bits BinOp.and IntKind.i64 j 1 = b := hb
  obtain ⟨d, hd, hd0, hd1⟩ := and_ex j 3 (by omega)
  have hd' : bits BinOp.and IntKind.i64 j 3 = d := hd
  clear ha hb hd
  cases hz : (a == 0)
  · cases hz1 : (a == 1)
    · go_enter Tryd.func12, Tryd.ntmps12
      go_wp2
      all_goals (try (exfalso; go_light; simp_all; done))
      refine bodyPost_ret (v := .agg (Val.cells ⟨2, (j % 7 - 2), ⟨#[]⟩⟩).toArray) (by simp [results, Tryd.results12, go_sem, Val.cells]) rfl ⟨⟨_, rfl, ?_⟩, (by exact (Below.refl _ _).alloc (Nat.le_refl _) _)⟩
      exact made_int (by omega) (by omega)
    · go_enter Tryd.func12, Tryd.ntmps12
      go_wp2
      all_goals (try (exfalso; go_light; simp_all; done))
      refine bodyPost_ret (v := .agg (Val.cells ⟨2, (d - 1073741824), ⟨#[]⟩⟩).toArray) (by simp [results, Tryd.results12, go_sem, Val.cells]) rfl ⟨⟨_, rfl, ?_⟩, (by exact (Below.refl _ _).alloc (Nat.le_refl _) _)⟩
      exact made_int (by omega) (by omega)
  · go_enter Tryd.func12, Tryd.ntmps12
    go_wp2
    all_goals (try (exfalso; go_light; simp_all; done))
    refine bodyPost_ret (v := .agg (Val.cells ⟨2, (1073741824 - b), ⟨#[]⟩⟩).toArray) (by simp [results, Tryd.results12, go_sem, Val.cells]) rfl ⟨⟨_, rfl, ?_⟩, (by exact (Below.refl _ _).alloc (Nat.le_refl _) _)⟩
    exact made_int (by omega) (by omega)
set_option maxHeartbeats 1000000 in
set_option maxRecDepth 100000 in
theorem value_text (w : World) (i : Int) :
    Calls Tryd.prog 12 #[.int .i64 3, .int .i64 i] w fun e w' => (∃ v, e = .returned (.agg v.cells.toArray) ∧ Made 3 v) ∧ Below w.heap.size w w' := by
  obtain ⟨j, hj, hj0, hj1⟩ := and_ex i 65535 (by omega)
  have hj' : bits BinOp.and IntKind.i64 i 65535 = j := hj
  clear hj
  obtain h6 | h6 | h6 | h6 | h6 | h6 : j % 6 = 0 ∨ j % 6 = 1 ∨ j % 6 = 2 ∨ j % 6 = 3 ∨ j % 6 = 4 ∨ j % 6 = 5 := by omega
  · go_enter Tryd.func12, Tryd.ntmps12
    go_wp2
    refine bodyPost_ret (v := .agg (Val.cells ⟨3, 0, ⟨#[97]⟩⟩).toArray) (by simp [results, Tryd.results12, go_sem, Val.cells]) rfl ⟨⟨_, rfl, ?_⟩, (by exact below_alloc2)⟩
    exact made_text (by simp [ByteArray.size])
  · go_enter Tryd.func12, Tryd.ntmps12
    go_wp2
    refine bodyPost_ret (v := .agg (Val.cells ⟨3, 0, ⟨#[98]⟩⟩).toArray) (by simp [results, Tryd.results12, go_sem, Val.cells]) rfl ⟨⟨_, rfl, ?_⟩, (by exact below_alloc2)⟩
    exact made_text (by simp [ByteArray.size])
  · go_enter Tryd.func12, Tryd.ntmps12
    go_wp2
    refine bodyPost_ret (v := .agg (Val.cells ⟨3, 0, ⟨#[99]⟩⟩).toArray) (by simp [results, Tryd.results12, go_sem, Val.cells]) rfl ⟨⟨_, rfl, ?_⟩, (by exact below_alloc2)⟩
    exact made_text (by simp [ByteArray.size])
  · go_enter Tryd.func12, Tryd.ntmps12
    go_wp2
    refine bodyPost_ret (v := .agg (Val.cells ⟨3, 0, ⟨#[]⟩⟩).toArray) (by simp [results, Tryd.results12, go_sem, Val.cells]) rfl ⟨⟨_, rfl, ?_⟩, (by exact below_alloc2)⟩
    exact made_text (by simp [ByteArray.size])
  · go_enter Tryd.func12, Tryd.ntmps12
    go_wp2
    refine bodyPost_ret (v := .agg (Val.cells ⟨3, 0, ⟨#[105, 116, 39, 115]⟩⟩).toArray) (by simp [results, Tryd.results12, go_sem, Val.cells]) rfl ⟨⟨_, rfl, ?_⟩, (by exact below_alloc2)⟩
    exact made_text (by simp [ByteArray.size])
  · go_enter Tryd.func12, Tryd.ntmps12
    go_wp2
    refine bodyPost_ret (v := .agg (Val.cells ⟨3, 0, ⟨#[97, 32, 98]⟩⟩).toArray) (by simp [results, Tryd.results12, go_sem, Val.cells]) rfl ⟨⟨_, rfl, ?_⟩, (by exact below_alloc2)⟩
    exact made_text (by simp [ByteArray.size])
set_option maxHeartbeats 1000000 in
set_option maxRecDepth 100000 in
theorem value_time (w : World) (i : Int) :
    Calls Tryd.prog 12 #[.int .i64 4, .int .i64 i] w fun e w' => (∃ v, e = .returned (.agg v.cells.toArray) ∧ Made 4 v) ∧ Below w.heap.size w w' := by
  obtain ⟨j, hj, hj0, hj1⟩ := and_ex i 65535 (by omega)
  have hj' : bits BinOp.and IntKind.i64 i 65535 = j := hj
  clear hj
  go_enter Tryd.func12, Tryd.ntmps12
  go_wp2_with fail
  refine (moment_any _ _).mono ?_
  rintro e w1 ⟨⟨t, rfl, ht0, ht1⟩, hb1⟩
  have hbb := below_trans below_alloc hb1
  have g0 : w1.cell? ⟨w.heap.size, 0, none⟩ = some (.int .i64 0) := bat hb1 (by simp) (by simp [go_sem])
  have g1 : w1.cell? ⟨w.heap.size, 1, none⟩ = some (.int .i64 0) := bat hb1 (by simp) (by simp [go_sem])
  have g2 : w1.cell? ⟨w.heap.size, 2, none⟩ = some (.string ⟨#[]⟩) := bat hb1 (by simp) (by simp [go_sem])
  have f0 : w1.frozen? ⟨w.heap.size, 0, none⟩ = false := ((bcell hb1).2 _ _ (by simp)).trans (by simp [go_sem])
  have f1 : w1.frozen? ⟨w.heap.size, 1, none⟩ = false := ((bcell hb1).2 _ _ (by simp)).trans (by simp [go_sem])
  have f2 : w1.frozen? ⟨w.heap.size, 2, none⟩ = false := ((bcell hb1).2 _ _ (by simp)).trans (by simp [go_sem])
  have hs1 : w.heap.size < w1.heap.size := by have := hb1.size; simp at this; omega
  clear hb1
  go_wp2
  refine bodyPost_ret (v := .agg (Val.cells ⟨4, t, ⟨#[]⟩⟩).toArray) (results_cells (cs := Val.cells ⟨4, t, ⟨#[]⟩⟩) rfl _ _ w.heap.size _ rfl (set_three g0 g1 g2) Tryd.underlying27 rfl (by kernel_rfl)) rfl ⟨⟨_, rfl, made_time ht0 ht1⟩, ((hbb.setCell (Nat.le_refl _) _).setCell (Nat.le_refl _) _).setCell (Nat.le_refl _) _⟩
set_option maxHeartbeats 1000000 in
set_option maxRecDepth 100000 in
theorem value_null (w : World) (kind i : Int) (hk : kind < 1 ∨ 4 < kind) :
    Calls Tryd.prog 12 #[.int .i64 kind, .int .i64 i] w fun e w' => (∃ v, e = .returned (.agg v.cells.toArray) ∧ Made kind v) ∧ Below w.heap.size w w' := by
  obtain ⟨j, hj, hj0, hj1⟩ := and_ex i 65535 (by omega)
  have hj' : bits BinOp.and IntKind.i64 i 65535 = j := hj
  clear hj
  have k1 : (kind == 1) = false := by simp; omega
  have k2 : (kind == 2) = false := by simp; omega
  have k3 : (kind == 3) = false := by simp; omega
  have k4 : (kind == 4) = false := by simp; omega
  go_enter Tryd.func12, Tryd.ntmps12
  go_wp2
  refine bodyPost_ret (v := .agg (Val.cells ⟨0, 0, ⟨#[]⟩⟩).toArray) (by simp [results, Tryd.results12, go_sem, Val.cells]) rfl ⟨⟨_, rfl, ?_⟩, (by exact (Below.refl _ _).alloc (Nat.le_refl _) _)⟩
  exact made_null hk

theorem value_any (w : World) (kind i : Int) :
    Calls Tryd.prog 12 #[.int .i64 kind, .int .i64 i] w fun e w' => (∃ v, e = .returned (.agg v.cells.toArray) ∧ Made kind v) ∧ Below w.heap.size w w' := by
  obtain rfl | rfl | rfl | rfl | h : kind = 1 ∨ kind = 2 ∨ kind = 3 ∨ kind = 4 ∨ (kind < 1 ∨ 4 < kind) := by omega
  · exact value_bool w i
  · exact value_int w i
  · exact value_text w i
  · exact value_time w i
  · exact value_null w kind i h
end Go.Proofs.YtmnhahilbbnkkaaDoor

namespace Go.Proofs.YtmnhahilbbnkkaaDoor
open Go.RowKit
set_option linter.unusedSimpArgs false
set_option linter.unusedVariables false

set_option maxRecDepth 100000 in
theorem boolV_any (b : Bool) (w : World) : Calls Tryd.prog 59 #[.bool b] w fun e w' => e = .returned (.agg (boolV b).cells.toArray) ∧ Below w.heap.size w w' := by
  cases b
  all_goals
    go_enter Tryd.func59, Tryd.ntmps59
    go_wp2
  · refine bodyPost_ret (v := .agg (boolV false).cells.toArray) (by simp [results, Tryd.results59, go_sem, Val.cells, boolV]) rfl ⟨rfl, by exact below_alloc⟩
  · refine bodyPost_ret (v := .agg (boolV true).cells.toArray) (by simp [results, Tryd.results59, go_sem, Val.cells, boolV]) rfl ⟨rfl, by exact below_alloc⟩
set_option maxRecDepth 100000 in
theorem numV_any (n : Int) (ok : Bool) (w : World) : Calls Tryd.prog 62 #[.int .i64 n, .bool ok] w fun e w' => e = .returned (.agg (numV n ok).cells.toArray) ∧ Below w.heap.size w w' := by
  cases ok
  all_goals
    go_enter Tryd.func62, Tryd.ntmps62
    go_wp2
  · refine bodyPost_ret (v := .agg (numV n false).cells.toArray) (by simp [results, Tryd.results62, go_sem, Val.cells, numV, nullV]) rfl ⟨rfl, by exact below_alloc⟩
  · refine bodyPost_ret (v := .agg (numV n true).cells.toArray) (by simp [results, Tryd.results62, go_sem, Val.cells, numV]) rfl ⟨rfl, by exact below_alloc⟩
set_option maxRecDepth 100000 in
theorem momV_any (n : Int) (w : World) : Calls Tryd.prog 83 #[.int .i64 n] w fun e w' => e = .returned (.agg (momV n).cells.toArray) ∧ Below w.heap.size w w' := by
  by_cases h : n < 0 ∨ 575999999 < n
  · have HM : Hid (momV n = nullV) := hide (by rw [momV, if_pos h])
    rcases h with h | h
    all_goals
      go_enter Tryd.func83, Tryd.ntmps83
      go_wp2
      refine bodyPost_ret (v := .agg nullV.cells.toArray) (by simp [results, Tryd.results83, go_sem, Val.cells, nullV]) rfl ⟨by rw [HM.out], by exact below_alloc⟩
  · have HM : Hid (momV n = ⟨4, n, ⟨#[]⟩⟩) := hide (by rw [momV, if_neg h])
    have h1 : 0 ≤ n := by omega
    have h2 : n ≤ 575999999 := by omega
    clear h
    go_enter Tryd.func83, Tryd.ntmps83
    go_wp2
    refine bodyPost_ret (v := .agg (Val.cells ⟨4, n, ⟨#[]⟩⟩).toArray) (by simp [results, Tryd.results83, go_sem, Val.cells]) rfl ⟨by rw [HM.out], by exact below_alloc⟩
end Go.Proofs.YtmnhahilbbnkkaaDoor

namespace Go.Proofs.YtmnhahilbbnkkaaDoor
open Go.RowKit
set_option linter.unusedSimpArgs false
set_option linter.unusedVariables false

theorem tdiv_bd {a b : Int} (ha : Bnd30 a) (h0 : b ≠ 0) : -1073741824 ≤ a.tdiv b ∧ a.tdiv b ≤ 1073741824 := by
  have h : (a.tdiv b).natAbs ≤ a.natAbs := by
    rw [Int.natAbs_tdiv]
    exact Nat.div_le_self _ _
  unfold Bnd30 at ha
  omega
theorem tmod_bd {a b : Int} (hb : Bnd30 b) (h0 : b ≠ 0) : (a.tmod b).natAbs < b.natAbs := by
  rw [Int.natAbs_tmod]
  exact Nat.mod_lt _ (by omega)
/-- Truncated division, put right, is division rounded down. -/
theorem floor_of_trunc {a b : Int} (h0 : b ≠ 0) :
    (a.tmod b ≠ 0 ∧ (decide (a.tmod b < 0) != decide (b < 0)) = true → a.fdiv b = a.tdiv b - 1 ∧ a.fmod b = a.tmod b + b) ∧
    (¬ (a.tmod b ≠ 0 ∧ (decide (a.tmod b < 0) != decide (b < 0)) = true) → a.fdiv b = a.tdiv b ∧ a.fmod b = a.tmod b) := by
  have h1 := Int.tmod_add_mul_tdiv a b
  have h2 : (a.tmod b).natAbs < b.natAbs := by rw [Int.natAbs_tmod]; exact Nat.mod_lt _ (by omega)
  generalize a.tmod b = r at *
  generalize a.tdiv b = q at *
  have e : b * (q - 1) = b * q - b := by rw [Int.mul_sub, Int.mul_one]
  constructor
  · rintro ⟨hr, hs⟩
    rcases Int.lt_or_gt_of_ne h0 with hb | hb
    · have : ¬ r < 0 := by intro q; simp [q, hb] at hs
      exact (Int.fdiv_fmod_unique' hb).2 ⟨by rw [e]; omega, by omega, by omega⟩
    · have : r < 0 := by
        by_cases q : r < 0
        · exact q
        · exfalso; simp [q, show ¬ b < 0 by omega] at hs
      exact (Int.fdiv_fmod_unique (by omega)).2 ⟨by rw [e]; omega, by omega, by omega⟩
  · intro hn
    rcases Int.lt_or_gt_of_ne h0 with hb | hb
    · have : r ≤ 0 := by
        by_cases q : r ≤ 0
        · exact q
        · exact absurd ⟨by omega, by simp [hb]; omega⟩ hn
      exact (Int.fdiv_fmod_unique' hb).2 ⟨h1, by omega, by omega⟩
    · have : 0 ≤ r := by
        by_cases q : 0 ≤ r
        · exact q
        · exact absurd ⟨by omega, by simp [show ¬ b < 0 by omega]; omega⟩ hn
      exact (Int.fdiv_fmod_unique (by omega)).2 ⟨h1, by omega, by omega⟩
theorem divX_zero (a : Int) : divX a 0 = (0, false) ∧ modX a 0 = (0, false) := by simp [divX, modX]
theorem divX_ok {a b : Int} (ha : Bnd30 a) (hb : Bnd30 b) (h0 : b ≠ 0) : divX a b = (a.fdiv b, true) ∧ modX a b = (a.fmod b, true) := by simp [divX, modX, smallI_of ha, smallI_of hb, h0]
set_option maxRecDepth 100000 in
theorem divide_any (a b : Int) (ha : Bnd30 a) (hb : Bnd30 b) (w : World) : Calls Tryd.prog 97 #[.int .i64 a, .int .i64 b] w fun e w' => e = .returned (.tuple #[.int .i64 (divX a b).1, .int .i64 (modX a b).1, .bool (divX a b).2]) ∧ Below w.heap.size w w' := by
  have s1 := smallI_of ha
  have s2 := smallI_of hb
  by_cases h0 : b = 0
  · subst h0
    have HD := hide (divX_zero a)
    clear ha hb
    go_enter Tryd.func97, Tryd.ntmps97
    go_wp2_with (go_at_call 76; refine (small_any _ _).mono ?_; rintro e w' ⟨rfl, rfl⟩)
    go_ret3
    exact ⟨by rw [HD.out.1, HD.out.2] <;> rfl, Below.refl _ _⟩
  · have HD := hide (divX_ok ha hb h0)
    have HF := hide (floor_of_trunc (a := a) h0)
    have q0 : (b == 0) = false := by simpa using h0
    have hd := tdiv_bd ha h0
    have hm := tmod_bd (a := a) hb h0
    have hb' : b.natAbs ≤ 1073741824 := by unfold Bnd30 at hb; omega
    have hw0 : IntKind.i64.wrap (a.tdiv b) = a.tdiv b := IntWalk.i64_in _ (by omega)
    have hw1 : IntKind.i64.wrap (a.tdiv b - 1) = a.tdiv b - 1 := IntWalk.i64_in _ (by omega)
    have hw2 : IntKind.i64.wrap (a.tmod b + b) = a.tmod b + b := IntWalk.i64_in _ (by omega)
    have hw3 : IntKind.i64.wrap (a.tmod b) = a.tmod b := IntWalk.i64_in _ (by omega)
    by_cases h2 : a.tmod b = 0
    · have h2' : (a.tmod b != 0) = false := by simpa using h2
      have HR := hide (HF.out.2 (fun h => h.1 h2))
      go_enter Tryd.func97, Tryd.ntmps97
      go_wp2_with (go_at_call 76; refine (small_any _ _).mono ?_; rintro e w' ⟨rfl, rfl⟩)
      all_goals (try go_quiet (fail))
      go_wp2
      go_ret3
      exact ⟨by rw [HD.out.1, HD.out.2, HR.out.1, HR.out.2, h2] <;> rfl, below_drewN (Below.refl _ _) _⟩
    · have h2' : (a.tmod b != 0) = true := by simpa using h2
      by_cases h4 : a.tmod b < 0
      · by_cases h5 : b < 0
        · have HR := hide (HF.out.2 (fun h => by have := h.2; simp [h4, h5] at this))
          have d4 : decide (a.tmod b < 0) = true := by simp [h4]
          have d5 : decide (b < 0) = true := by simp [h5]
          go_enter Tryd.func97, Tryd.ntmps97
          go_wp2_with (go_at_call 76; refine (small_any _ _).mono ?_; rintro e w' ⟨rfl, rfl⟩)
          all_goals (try go_quiet (fail))
          go_wp2
          go_ret3
          exact ⟨by rw [HD.out.1, HD.out.2, HR.out.1, HR.out.2] <;> rfl, below_drewN (Below.refl _ _) _⟩
        · have HR := hide (HF.out.1 ⟨h2, by simp [h4, h5]⟩)
          have d4 : decide (a.tmod b < 0) = true := by simp [h4]
          have d5 : decide (b < 0) = false := by simp [h5]
          go_enter Tryd.func97, Tryd.ntmps97
          go_wp2_with (go_at_call 76; refine (small_any _ _).mono ?_; rintro e w' ⟨rfl, rfl⟩)
          all_goals (try go_quiet (fail))
          go_wp2
          go_ret3
          exact ⟨by rw [HD.out.1, HD.out.2, HR.out.1, HR.out.2] <;> rfl, below_drewN (Below.refl _ _) _⟩
      · by_cases h5 : b < 0
        · have HR := hide (HF.out.1 ⟨h2, by simp [h4, h5]⟩)
          have d4 : decide (a.tmod b < 0) = false := by simp [h4]
          have d5 : decide (b < 0) = true := by simp [h5]
          go_enter Tryd.func97, Tryd.ntmps97
          go_wp2_with (go_at_call 76; refine (small_any _ _).mono ?_; rintro e w' ⟨rfl, rfl⟩)
          all_goals (try go_quiet (fail))
          go_wp2
          go_ret3
          exact ⟨by rw [HD.out.1, HD.out.2, HR.out.1, HR.out.2] <;> rfl, below_drewN (Below.refl _ _) _⟩
        · have HR := hide (HF.out.2 (fun h => by have := h.2; simp [h4, h5] at this))
          have d4 : decide (a.tmod b < 0) = false := by simp [h4]
          have d5 : decide (b < 0) = false := by simp [h5]
          go_enter Tryd.func97, Tryd.ntmps97
          go_wp2_with (go_at_call 76; refine (small_any _ _).mono ?_; rintro e w' ⟨rfl, rfl⟩)
          all_goals (try go_quiet (fail))
          go_wp2
          go_ret3
          exact ⟨by rw [HD.out.1, HD.out.2, HR.out.1, HR.out.2] <;> rfl, below_drewN (Below.refl _ _) _⟩
theorem divX_snd (a b : Int) : (divX a b).2 = (modX a b).2 := by
  rw [divX, modX]; split <;> rfl
theorem div_any (a b : Int) (ha : Bnd30 a) (hb : Bnd30 b) (w : World) : Calls Tryd.prog 86 #[.int .i64 a, .int .i64 b] w fun e w' => e = .returned (.tuple #[.int .i64 (divX a b).1, .bool (divX a b).2]) ∧ Below w.heap.size w w' := by
  go_enter Tryd.func86, Tryd.ntmps86
  go_wp2_with fail
  refine (divide_any a b ha hb _).mono ?_
  rintro e w1 ⟨rfl, hb1⟩
  go_wp2
  go_ret2
  exact ⟨rfl, hb1⟩
theorem mod_any (a b : Int) (ha : Bnd30 a) (hb : Bnd30 b) (w : World) : Calls Tryd.prog 87 #[.int .i64 a, .int .i64 b] w fun e w' => e = .returned (.tuple #[.int .i64 (modX a b).1, .bool (modX a b).2]) ∧ Below w.heap.size w w' := by
  rw [← divX_snd]
  go_enter Tryd.func87, Tryd.ntmps87
  go_wp2_with fail
  refine (divide_any a b ha hb _).mono ?_
  rintro e w1 ⟨rfl, hb1⟩
  go_wp2
  go_ret2
  exact ⟨rfl, hb1⟩
end Go.Proofs.YtmnhahilbbnkkaaDoor

namespace Go.Proofs.YtmnhahilbbnkkaaDoor
open Go.RowKit
set_option linter.unusedSimpArgs false
set_option linter.unusedVariables false

theorem getD_drop {α : Type} {xs : List α} {k : Nat} {x d : α} {l : List α} (h : xs.drop k = x :: l) : xs.getD k d = x := by
  rw [List.getD, (drop_get h).1]; rfl
def rowF (cols : List Col) (i : Nat) (v : Val) : Int := cellErr (cols.getD i default) v
theorem rowF_eq {cols : List Col} {k : Nat} {y : Col} {l : List Col} {x : Val} (h : cols.drop k = y :: l) : rowF cols k x = cellErr y x := by rw [rowF, getD_drop h]

set_option maxRecDepth 100000 in
theorem checkRow_any (w : World) (A A' : Option Addr) (n n' c c' : Nat) (cols : List Col) (row : List Val) (hx : In w A n c cols) (hy : In w A' n' c' row) :
    Calls Tryd.prog 32 #[.slice A n c, .slice A' n' c'] w fun e w' => e = .returned (.int .i64 (rowErr cols row)) ∧ Below w.heap.size w w' := by
  have h63 := hx.le
  have h63' := hy.le
  have hlen := hide hx.len
  have hlen' := hide hy.len
  go_enter Tryd.func32, Tryd.ntmps32
  cases hs : ((n' : Int) == (n : Int))
  · have he : Hid (8 = rowErr cols row) := hide (by rw [rowErr, hlen.out, hlen'.out, if_pos (by simp at hs; omega)])
    go_wp2
    all_goals (try (exfalso; go_light; simp_all; done))
    go_ret
    exact ⟨ret_int he.out, Below.refl _ _⟩
  have HE0 : Hid (rowErr cols row = firstErr (rowF cols) 0 row) := hide (by rw [rowErr, hlen.out, hlen'.out, if_neg (by simp at hs; omega)]; rfl)
  have hnn : n = n' := by simp at hs; omega
  go_wp2
  all_goals (try (exfalso; go_light; simp_all; done))
  have HN := hide hnn
  clear hs hnn
  go_loopw [15] (fun i wr => ∃ k : Nat, k ≤ n' ∧ i = .int .i64 k ∧ firstErr (rowF cols) 0 row = firstErr (rowF cols) k (row.drop k) ∧ Below w.heap.size w wr) (fun i _ => n' - (intOf i).toNat)
  case atStart => exact ⟨0, Nat.zero_le _, rfl, rfl, Below.refl _ _⟩
  case round =>
    obtain ⟨k, hk, rfl, heq, hb⟩ := hrel
    have HE := hide heq
    clear heq
    by_cases hlt : k < n'
    · have hltn : k < n := by rw [HN.out]; exact hlt
      obtain ⟨b', off', x, rfl, hB', HX, f0, f1, f2, f3⟩ := (hy.below hb).val hlt
      obtain ⟨b, off, y, rfl, hB, HY, e0, e1, e2, e3⟩ := (hx.below hb).col hltn
      go_wp2_with fail
      refine (valid_any x f3 _).mono ?_
      rintro e w1 ⟨rfl, hb1⟩
      have hbb := below_trans (below_trans (below_trans hb below_alloc) below_alloc) hb1
      obtain ⟨hc1, hf1⟩ := bcell hb1
      clear hb1 e0 e1 e2 f0 f1 f2
      have HC : Hid (firstErr (rowF cols) 0 row = if cellErr y x = 0 then firstErr (rowF cols) (k + 1) (row.drop (k + 1)) else cellErr y x) := hide (by
        rw [HE.out, HX.out]
        by_cases hz : cellErr y x = 0
        · rw [if_pos hz]; exact firstErr_zero (by rw [rowF_eq HY.out, hz])
        · rw [if_neg hz]; exact firstErr_err (rowF_eq HY.out) hz)
      cases hv : valid x
      · have he : Hid (8 = rowErr cols row) := hide (by rw [HE0.out, HC.out]; simp [cellErr, hv])
        go_wp2
        go_ret
        exact ⟨ret_int he.out, hbb⟩
      · cases hz : (x.kind == 0)
        · cases hq : (x.kind == y.kind)
          · have he : Hid (7 = rowErr cols row) := hide (by
              have e1 : ¬ x.kind = 0 := by simpa using hz
              have e2 : ¬ x.kind = y.kind := by simpa using hq
              rw [HE0.out, HC.out]; simp [cellErr, hv, e1, e2])
            go_wp2
            all_goals (try (exfalso; go_light; simp_all; done))
            all_goals
              go_ret
              exact ⟨ret_int he.out, hbb⟩
          · have he : Hid (cellErr y x = 0) := hide (by
              have e1 : ¬ x.kind = 0 := by simpa using hz
              have e2 : x.kind = y.kind := by simpa using hq
              simp [cellErr, hv, ← e2, e1])
            go_wp2
            all_goals (try (exfalso; go_light; simp_all; done))
            all_goals
              go_roundw
              case rel => exact ⟨k + 1, by omega, by go_num, by rw [HC.out, if_pos he.out], hbb⟩
              case measure => simp [intOf]; omega
        · cases hn : y.nullable
          · have he : Hid (7 = rowErr cols row) := hide (by
              have e1 : x.kind = 0 := by simpa using hz
              rw [HE0.out, HC.out]; simp [cellErr, hv, e1, hn])
            go_wp2
            all_goals (try (exfalso; go_light; simp_all; done))
            all_goals
              go_ret
              exact ⟨ret_int he.out, hbb⟩
          · have he : Hid (cellErr y x = 0) := hide (by
              have e1 : x.kind = 0 := by simpa using hz
              simp [cellErr, hv, e1, hn])
            go_wp2
            all_goals (try (exfalso; go_light; simp_all; done))
            all_goals
              go_roundw
              case rel => exact ⟨k + 1, by omega, by go_num, by rw [HC.out, if_pos he.out], hbb⟩
              case measure => simp [intOf]; omega
    · go_wp2
      go_ret
      exact ⟨ret_int (by rw [HE0.out, HE.out, drop_end hy.len (by omega), firstErr]), hb⟩
theorem below_any {B : Nat} {a w : World} (h : Below B a w) {n : Nat} : Below B a (w.drewN n) := below_drewN h n
end Go.Proofs.YtmnhahilbbnkkaaDoor

namespace Go.Proofs.YtmnhahilbbnkkaaDoor
open Go.RowKit
set_option linter.unusedSimpArgs false
set_option linter.unusedVariables false

def Fits (c : Col) (v : Val) : Prop := v.ok ∧ cellErr c v = 0
def Col.good (c : Col) : Prop := c.ok ∧ 1 ≤ c.kind ∧ c.kind ≤ 4
theorem fits_null {c : Col} (h : c.nullable = true) : Fits c ⟨0, 0, ⟨#[]⟩⟩ := by
  obtain ⟨h1, h2, _, h4⟩ := made_null (k := 0) (by omega)
  exact ⟨h2, by simp [cellErr, h1, h]⟩
theorem fits_made {c : Col} {v : Val} (hc : c.good) (h : Made c.kind v) : Fits c v := by
  obtain ⟨h1, h2, h3, h4⟩ := h
  have h5 := h3 hc.2.1 hc.2.2
  have : v.kind ≠ 0 := by have := hc.2.1; omega
  exact ⟨h2, by simp [cellErr, h1, h5]; have := hc.2.1; omega⟩

set_option maxHeartbeats 1000000 in
set_option maxRecDepth 100000 in
theorem cell_any (w : World) (c : Col) (hc : c.good) (i : Int) (hi0 : 0 ≤ i) (hi1 : i ≤ 1000000) :
    Calls Tryd.prog 21 #[.agg c.cells.toArray, .int .i64 i] w fun e w' => (∃ v, e = .returned (.agg v.cells.toArray) ∧ Fits c v) ∧ Below w.heap.size w w' := by
  have HF := fun v => @fits_made c v hc
  obtain ⟨nm, kd, nl⟩ := c
  simp only [Col.cells]
  by_cases hz : nl = true ∧ i % 4 = 0
  · obtain ⟨rfl, hz⟩ := hz
    have hz' : (i % 4 == 0) = true := by simp [hz]
    clear HF
    have HN : Fits ⟨nm, kd, true⟩ ⟨0, 0, ⟨#[]⟩⟩ := fits_null rfl
    go_enter Tryd.func21, Tryd.ntmps21
    go_wp2
    refine bodyPost_ret (v := .agg (Val.cells ⟨0, 0, ⟨#[]⟩⟩).toArray) (by simp [results, Tryd.results21, go_sem, Val.cells]) rfl ⟨⟨_, rfl, HN⟩, below_alloc2⟩
  · have hq : nl = false ∨ (nl = true ∧ (i % 4 == 0) = false) := by
      cases nl
      · exact .inl rfl
      · exact .inr ⟨rfl, by have h' := fun h => hz ⟨rfl, h⟩; simpa using h'⟩
    clear hz
    have hq4 : IntKind.i64.wrap (i / 4) = i / 4 := by rw [IntKind.wrap_i64]; omega
    rcases hq with rfl | ⟨rfl, hz⟩
    all_goals
      go_enter Tryd.func21, Tryd.ntmps21
      go_wp2_with fail
      refine (value_any _ _ _).mono ?_
      rintro e w1 ⟨⟨v, rfl, hv⟩, hb1⟩
      have hbb := below_trans below_alloc2 hb1
      have g0 : w1.cell? ⟨w.heap.size + 1, 0, none⟩ = some (.int .i64 0) := bat hb1 (by simp) (by simp [go_sem])
      have g1 : w1.cell? ⟨w.heap.size + 1, 1, none⟩ = some (.int .i64 0) := bat hb1 (by simp) (by simp [go_sem])
      have g2 : w1.cell? ⟨w.heap.size + 1, 2, none⟩ = some (.string ⟨#[]⟩) := bat hb1 (by simp) (by simp [go_sem])
      have f0 : w1.frozen? ⟨w.heap.size + 1, 0, none⟩ = false := ((bcell hb1).2 _ _ (by simp)).trans (by simp [go_sem])
      have f1 : w1.frozen? ⟨w.heap.size + 1, 1, none⟩ = false := ((bcell hb1).2 _ _ (by simp)).trans (by simp [go_sem])
      have f2 : w1.frozen? ⟨w.heap.size + 1, 2, none⟩ = false := ((bcell hb1).2 _ _ (by simp)).trans (by simp [go_sem])
      have hs1 : w.heap.size + 1 < w1.heap.size := by have := hb1.size; simp at this; omega
      clear hb1
      obtain ⟨vk, vn, vs⟩ := v
      simp only [Val.cells]
      go_wp2
      refine bodyPost_ret (v := .agg (Val.cells ⟨vk, vn, vs⟩).toArray) (results_cells (cs := Val.cells ⟨vk, vn, vs⟩) rfl _ _ (w.heap.size + 1) _ rfl (set_three g0 g1 g2) Tryd.underlying27 rfl (by kernel_rfl)) rfl ⟨⟨_, rfl, HF _ hv⟩, ((hbb.setCell (by simp) _).setCell (by simp) _).setCell (by simp) _⟩
end Go.Proofs.YtmnhahilbbnkkaaDoor

namespace Go.Proofs.YtmnhahilbbnkkaaDoor
open Go.RowKit
set_option linter.unusedSimpArgs false
set_option linter.unusedVariables false

theorem val_info : (Tryd.prog.info? 27).map (fun i => (i.zero, i.size, i.bytes)) = some (some (.agg #[.int .i64 0, .int .i64 0, .string ⟨#[]⟩]), 3, 32) := by kernel_rfl

/-- The first values of a row that is being built. -/
def Part (w : World) (g : Nat) (cols : List Col) (vs : List Val) : Prop :=
  (∀ i, (h : i < vs.length) → At w (fun _ => False) g (i * 3) vs[i]) ∧ ∀ i, (h : i < vs.length) → (h' : i < cols.length) → Fits cols[i] vs[i]
theorem Part.below {w w' : World} {g : Nat} {cols : List Col} {vs : List Val} (h : Part w g cols vs) (hg : g < w.heap.size) (hb : Below w.heap.size w w') : Part w' g cols vs :=
  ⟨fun i hi => by
    obtain ⟨cs, hr, hc⟩ := h.1 i hi
    exact ⟨cs, hr, fun j hj => bat hb hg (hc j hj)⟩, h.2⟩
theorem Part.add {w : World} {g : Nat} {cols : List Col} {vs : List Val} {v : Val} {u0 u1 u2 : Value} (h : Part w g cols vs) (hv : v.ok) (hk : vs.length < cols.length) (hf : Fits cols[vs.length] v)
    (h0 : w.cell? ⟨g, vs.length * 3, none⟩ = some u0) (h1 : w.cell? ⟨g, vs.length * 3 + 1, none⟩ = some u1) (h2 : w.cell? ⟨g, vs.length * 3 + 2, none⟩ = some u2) :
    Part (((w.setCell ⟨g, vs.length * 3, none⟩ (.int .i64 v.kind)).setCell ⟨g, vs.length * 3 + 1, none⟩ (.int .i64 v.num)).setCell ⟨g, vs.length * 3 + 2, none⟩ (.string v.str)) g cols (vs ++ [v]) := by
  refine ⟨fun i hi => ?_, fun i hi hi' => ?_⟩
  · rw [List.length_append] at hi
    by_cases hl : i < vs.length
    · obtain ⟨cs, ⟨rfl, hr⟩, hc⟩ := h.1 i hl
      rw [List.getElem_append_left hl]
      refine ⟨_, ⟨rfl, hr⟩, fun j hj => ?_⟩
      have hj3 : j < 3 := hj
      exact set_far (set_far (set_far (hc j hj) (.inr (by omega))) (.inr (by omega))) (.inr (by omega))
    · obtain rfl : i = vs.length := by simp at hi; omega
      rw [List.getElem_append_right (Nat.le_refl _)]
      simp only [Nat.sub_self, List.getElem_cons_zero]
      refine ⟨v.cells, ⟨rfl, hv⟩, fun j hj => ?_⟩
      have hj3 : j < 3 := hj
      obtain rfl | rfl | rfl : j = 0 ∨ j = 1 ∨ j = 2 := by omega
      · exact set_far (set_far (set_same h0) (.inr (by omega))) (.inr (by omega))
      · exact set_far (set_same (set_far h1 (.inr (by omega)))) (.inr (by omega))
      · exact set_same (set_far (set_far h2 (.inr (by omega))) (.inr (by omega)))
  · rw [List.length_append] at hi
    by_cases hl : i < vs.length
    · rw [List.getElem_append_left hl]; exact h.2 i hl hi'
    · obtain rfl : i = vs.length := by simp at hi; omega
      rw [List.getElem_append_right (Nat.le_refl _)]
      simpa using hf
theorem firstErr_none {α : Type} {f : Nat → α → Int} {l : List α} : ∀ k, (∀ i, (h : i < l.length) → f (k + i) l[i] = 0) → firstErr f k l = 0 := by
  induction l with
  | nil => intro k _; rfl
  | cons x l ih =>
    intro k h
    have h0 := h 0 (by simp)
    rw [firstErr_zero (by simpa using h0)]
    exact ih (k + 1) fun i hi => by
      have := h (i + 1) (by simpa using hi)
      rw [show k + 1 + i = k + (i + 1) from by omega]
      simpa using this
theorem rowErr_fits {cols : List Col} {vs : List Val} (hl : vs.length = cols.length) (h : ∀ i, (h : i < vs.length) → (h' : i < cols.length) → Fits cols[i] vs[i]) : rowErr cols vs = 0 := by
  rw [rowErr, if_neg (by simp [hl])]
  refine firstErr_none 0 fun i hi => ?_
  have := (h i hi (by omega)).2
  simp only [Nat.zero_add]
  rw [List.getD, List.getElem?_eq_getElem (by omega)]
  exact this

set_option maxHeartbeats 2000000 in
set_option maxRecDepth 100000 in
theorem row_any (w : World) (A A2 : Option Addr) (n n2 c c2 : Nat) (cols : List Col) (l : List Int) (hx : In w A n c cols) (hgood : ∀ x ∈ cols, x.good) (hl : In w A2 n2 c2 l) (at_ : Int) (ha0 : 0 ≤ at_) (ha1 : at_ ≤ 100000) (hn : n ≤ 4096) :
    Calls Tryd.prog 13 #[.slice A n c, .slice A2 n2 c2, .int .i64 at_] w
      fun e w' => (∃ B c' vs, e = .returned (.slice B n c') ∧ Sl w' (New w w' 27) B n c' vs ∧ rowErr cols vs = 0) ∧ Below w.heap.size w w' := by
  have hlen := hide hx.len
  obtain ⟨i0, hi, hz0, hz1, hz2⟩ := info_parts val_info
  have hmk := fun W => run_make_rowN (P := Tryd.prog) 39 27 i0 _ Tryd.underlying39 hi hz0 .i64 .i64 n n (Nat.le_refl _) (by rw [hz2]; omega) (by omega) W
  rw [hz1] at hmk
  have hrb : ∀ cur : Array Value, cur.size = n * 3 → RowBlk (w.alloc (.cells cur 27)) w.heap.size 27 (n * 3) := fun cur h => RowBlk.made w cur _ _ h
  go_enter Tryd.func13, Tryd.ntmps13
  go_wp2
  go_loopw [8] (fun i wr => ∃ vs : List Val, vs.length ≤ n ∧ i = .int .i64 vs.length ∧ RowBlk wr w.heap.size 27 (n * 3) ∧ Part wr w.heap.size cols vs ∧ Below w.heap.size w wr) (fun i _ => n - (intOf i).toNat)
  case atStart => exact ⟨[], Nat.zero_le _, rfl, hrb _ (size_madeCells _ _), ⟨fun i h => absurd h (by simp), fun i h => absurd h (by simp)⟩, below_alloc⟩
  case round =>
    obtain ⟨vs, hk, rfl, hR, hP, hb⟩ := hrel
    obtain ⟨k, hkk⟩ : ∃ k, vs.length = k := ⟨_, rfl⟩
    rw [hkk] at hk ⊢
    have HK := hide hkk
    clear hkk hrb hmk
    by_cases hlt : k < n
    · obtain ⟨b, off, x, rfl, hB, HX, e0, e1, e2, e3⟩ := (hx.below hb).col hlt
      have hbw : b < w.heap.size := by
        obtain ⟨b', o', x', e, hb', _⟩ := hx.get hlt
        injection e with e
        injection e with e
        omega
      have hgx : x.good := hgood x (by
        have := (drop_get HX.out).1
        exact List.mem_of_getElem? this)
      have hxk := hide (drop_get HX.out).1
      have HP := hide hP
      have HR := hide hR
      have hlr := hl.below hb
      have hs : IntKind.i64.wrap (at_ + (k : Int)) = at_ + (k : Int) := IntWalk.i64_in _ (by omega)
      have k0 : (0 : Int) ≤ (k : Int) := by omega
      have k1 : (k : Int) < (n : Int) := by omega
      have hgw := hR.lt
      have hne : b ≠ w.heap.size := by omega
      clear hP hR
      go_wp2_with fail
      go_region_held3 (fun w' => w'.cell? ⟨b, off + k * 3, none⟩ = some (.string x.name) ∧ w'.cell? ⟨b, off + k * 3 + 1, none⟩ = some (.int .i64 x.kind) ∧ w'.cell? ⟨b, off + k * 3 + 2, none⟩ = some (.bool x.nullable)) (first | exact ⟨e0, e1, e2⟩ | (have hq := below_undrew hb1; exact ⟨bat hq hB e0, bat hq hB e1, bat hq hB e2⟩) | exact ⟨d0, d1, d2⟩ | exact ⟨set_far (set_far (set_far d0 (.inl hne)) (.inl hne)) (.inl hne), set_far (set_far (set_far d1 (.inl hne)) (.inl hne)) (.inl hne), set_far (set_far (set_far d2 (.inl hne)) (.inl hne)) (.inl hne)⟩) (first | (go_at_call 22; refine (at_any _ _ _ _ l (by exact hlr) _).mono ?_; rintro e w1 ⟨⟨v, rfl, hv0, hv1⟩, hb1⟩; have hb1' := below_undrew hb1; have d0' := bat hb1' hB e0; have d1' := bat hb1' hB e1; have d2' := bat hb1' hB e2) | (go_at_call 21; refine (cell_any _ x hgx _ hv0 (by omega)).mono ?_; rintro e w2 ⟨⟨y, rfl, hy⟩, hb2⟩; have hB1 := Nat.lt_of_lt_of_le hB hb1'.size; have d0 := bat hb2 hB1 d0'; have d1 := bat hb2 hB1 d1'; have d2 := bat hb2 hB1 d2'; have hb12 := below_trans hb1' hb2; have hR2 := HR.out.below hb12; obtain ⟨u0, c0⟩ := hR2.cell (show k * 3 < n * 3 by omega); obtain ⟨u1, c1⟩ := hR2.cell (show k * 3 + 1 < n * 3 by omega); obtain ⟨u2, c2⟩ := hR2.cell (show k * 3 + 2 < n * 3 by omega); have z0 := hR2.frozen (k * 3); have z1 := hR2.frozen (k * 3 + 1); have z2 := hR2.frozen (k * 3 + 2); have HR2 := hide hR2; clear hR2; obtain ⟨yk, yn, ys⟩ := y; simp only [Val.cells]))
      have hbb : Below w.heap.size w w2 := hb.trans (hb12.mono hb.size)
      have hP2 := HP.out.below hgw hb12
      have hkl : vs.length = k := HK.out
      have hyv : Val.ok ⟨yk, yn, ys⟩ := hy.1
      have hfit : (h : vs.length < cols.length) → Fits (cols[vs.length]'h) ⟨yk, yn, ys⟩ := fun h => by
        have h1 := hxk.out
        rw [List.getElem?_eq_getElem (by omega)] at h1
        injection h1 with h1
        have : cols[vs.length]'h = x := by rw [← h1]; congr 1
        rw [this]; exact hy
      have hcl : vs.length < cols.length := by rw [hkl, hlen.out]; exact hlt
      have hadd := Part.add hP2 hyv hcl (hfit hcl) (by rw [hkl]; exact c0) (by rw [hkl]; exact c1) (by rw [hkl]; exact c2)
      rw [hkl] at hadd
      have HADD := hide hadd
      have HRR := hide (((HR2.out.set w.heap.size (k * 3) (.int .i64 yk)).set w.heap.size (k * 3 + 1) (.int .i64 yn)).set w.heap.size (k * 3 + 2) (.string ys))
      clear hadd hkl hfit hcl hP2 c0 c1 c2 d0 d1 d2
      go_wp2
      go_roundw
      case rel =>
        have hkl : vs.length = k := HK.out
        refine ⟨vs ++ [⟨yk, yn, ys⟩], by simp; omega, by simp [hkl], HRR.out, HADD.out, ((hbb.setCell (Nat.le_refl _) _).setCell (Nat.le_refl _) _).setCell (Nat.le_refl _) _⟩
      case measure => simp [intOf]; omega
    · have hkn : k = n := by omega
      subst hkn
      have hvl : vs.length = cols.length := by rw [HK.out, hlen.out]
      have hE := hide (rowErr_fits hvl hP.2)
      have hS : Sl wr (New w wr 27) (some ⟨w.heap.size, 0, none⟩) k k vs := by
        refine ⟨HK.out, Nat.le_refl _, by omega, (fun h => by cases h), fun _ => ⟨w.heap.size, 0, rfl, ⟨Nat.le_refl _, hR.ty⟩, fun i hi => ?_⟩⟩
        rw [Nat.zero_add]
        exact (hP.1 i hi).mono fun _ h => h.elim
      have HS := hide hS
      clear hS hP hR hvl
      go_wp2
      go_ret
      exact ⟨⟨_, _, vs, rfl, HS.out, hE.out⟩, hb⟩
end Go.Proofs.YtmnhahilbbnkkaaDoor
