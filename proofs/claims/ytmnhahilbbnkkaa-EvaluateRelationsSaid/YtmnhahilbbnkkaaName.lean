/-
  schema.IsName and warehouseref5.IsName.
-/
import Derived.Test.YtmnhahilbbnkkaaProg
import Derived.Test.YtmnhahilbbnkkaaKit
namespace Go.Proofs.Ytmnhahilbbnkkaa
open Go.RowKit
set_option linter.unusedSimpArgs false
set_option linter.unusedVariables false

theorem byteAt_eq (s : ByteArray) (i : Nat) (h : i < s.size) : byteAt s i = (s[i]'h).toNat := by
  have h' : i < s.data.toList.length := by simpa using h
  have : s.data.toList.getD i 0 = s[i]'h := by rw [List.getD, List.getElem?_eq_getElem h']; rfl
  rw [byteAt, this]
theorem next_rune (P : Program) (w : World) (s : ByteArray) (pos : Nat) (h : pos < s.size) :
    ∃ c wd : Nat, (∀ ty, (Instr.next (.pointer (some ⟨w.heap.size, 0, none⟩)) true ty).run P (w.iter s pos) = .ok (.tuple #[.bool true, .int .i64 pos, .int .i32 (c : Int)]) (w.iter s (pos + wd))) ∧
      (c < 128 → c = byteAt s pos ∧ wd = 1) ∧ (128 ≤ c → 128 ≤ byteAt s pos) ∧ c ≤ 2147483647 := by
  refine ⟨_, _, fun ty => run_next_any w s pos ty h, fun hc => ?_, fun hc => ?_, decode_le s pos⟩
  · by_cases ha : (s[pos]'h).toNat < 128
    · rw [decode_ascii s pos h ha, byteAt_eq s pos h]
      exact ⟨rfl, rfl⟩
    · have := (decode_high s pos h (by omega)).1
      omega
  · by_cases ha : (s[pos]'h).toNat < 128
    · rw [decode_ascii s pos h ha] at hc
      have : 128 ≤ (s[pos]'h).toNat := hc
      omega
    · rw [byteAt_eq s pos h]
      omega
theorem nameFrom_step (s : ByteArray) (i : Nat) (h : i < s.size) : nameFrom s (s.size - i) i = (nameOk (byteAt s i) i && nameFrom s (s.size - (i + 1)) (i + 1)) := by
  rw [show s.size - i = (s.size - (i + 1)) + 1 from by omega, nameFrom]
theorem nameFrom_bad (s : ByteArray) (i : Nat) (h : i < s.size) (hb : nameOk (byteAt s i) i = false) : nameFrom s (s.size - i) i = false := by
  rw [nameFrom_step s i h, hb]; rfl
theorem nameFrom_good (s : ByteArray) (i : Nat) (h : i < s.size) (hb : nameOk (byteAt s i) i = true) : nameFrom s (s.size - i) i = nameFrom s (s.size - (i + 1)) (i + 1) := by
  rw [nameFrom_step s i h, hb]; rfl
theorem nameOk_high (c i : Nat) (h : 128 ≤ c) : nameOk c i = false := by
  have h1 : ¬ c ≤ 122 := by omega
  have h2 : ¬ c = 95 := by omega
  have h3 : ¬ c ≤ 57 := by omega
  simp [nameOk, h1, h2, h3]

theorem nameOk_iff (c i : Nat) : nameOk c i = true ↔ (97 ≤ c ∧ c ≤ 122) ∨ (0 < i ∧ (c = 95 ∨ (48 ≤ c ∧ c ≤ 57))) := by simp only [nameOk, Bool.or_eq_true, Bool.and_eq_true, decide_eq_true_eq]
theorem nonempty_iff (s : ByteArray) : (!s.toList.isEmpty) = decide (0 < s.size) := by
  rw [ByteArray.toList_eq]
  have : s.size = s.data.toList.length := rfl
  rw [this]
  cases s.data.toList <;> simp

set_option maxRecDepth 100000 in
theorem isName_any (s : ByteArray) (hs : Str s) (w : World) :
    Calls Try.prog 23 #[.string s] w fun e w' => e = .returned (.bool (isName s)) ∧ Below w.heap.size w w' := by
  unfold Str at hs
  go_enter Try.func23, Try.ntmps23
  by_cases hl : s.size ≤ 24
  · go_wp2
    go_loopw [3] (fun _ wr => ∃ pos : Nat, pos ≤ s.size ∧ wr = w.iter s pos ∧ nameFrom s s.size 0 = nameFrom s (s.size - pos) pos) (fun _ wr => s.size - wr.iterPos w.heap.size)
    case atStart => exact ⟨0, by omega, rfl, rfl⟩
    case round =>
      obtain ⟨pos, hpos, rfl, heq⟩ := hrel
      have HE := hide heq
      clear heq
      by_cases hp : pos < s.size
      · obtain ⟨c, wd, hnx, h1, h2, h3⟩ := next_rune Try.prog w s pos hp
        have H1 := hide h1
        clear h1
        cases hA : decide ((97 : Int) ≤ (c : Int))
        · cases hC : ((pos : Int) == 0)
          · cases hD : ((c : Int) == 95)
            · cases hE : decide ((c : Int) < 48)
              · cases hF : decide ((57 : Int) < (c : Int))
                · go_wp2
                  all_goals (try (exfalso; go_light; (try simp only [decide_eq_true_eq, decide_eq_false_iff_not, beq_iff_eq, beq_eq_false_iff_ne, ne_eq, Bool.not_eq_true', Bool.not_eq_false'] at *); omega))
                  all_goals
                    go_roundw
                    case rel =>
                      go_light
                      (try simp only [decide_eq_true_eq, decide_eq_false_iff_not, beq_iff_eq, beq_eq_false_iff_ne, ne_eq] at *)
                      obtain ⟨e1, rfl⟩ := H1.out (by omega)
                      refine ⟨pos + 1, by omega, rfl, ?_⟩
                      rw [HE.out]
                      exact nameFrom_good s pos hp (by rw [← e1]; exact (nameOk_iff c pos).2 (by omega))
                    case measure =>
                      go_light
                      (try simp only [decide_eq_true_eq, decide_eq_false_iff_not, beq_iff_eq, beq_eq_false_iff_ne, ne_eq] at *)
                      obtain ⟨e1, rfl⟩ := H1.out (by omega)
                      simp
                      omega
                · go_wp2
                  all_goals (try (exfalso; go_light; (try simp only [decide_eq_true_eq, decide_eq_false_iff_not, beq_iff_eq, beq_eq_false_iff_ne, ne_eq, Bool.not_eq_true', Bool.not_eq_false'] at *); omega))
                  all_goals
                    go_ret
                    refine ⟨ret_bool ?_, below_alloc⟩
                    go_light
                    have hbad : nameOk (byteAt s pos) pos = false := by
                      by_cases hc : c < 128
                      · rw [← (H1.out hc).1]
                        refine Bool.eq_false_iff.2 fun h => ?_
                        have h' := (nameOk_iff c pos).1 h
                        (try simp only [decide_eq_true_eq, decide_eq_false_iff_not, beq_iff_eq, beq_eq_false_iff_ne, ne_eq] at *) <;> omega
                      · exact nameOk_high _ _ (h2 (by omega))
                    rw [isName, HE.out, nameFrom_bad s pos hp hbad]
                    simp
              · go_wp2
                all_goals (try (exfalso; go_light; (try simp only [decide_eq_true_eq, decide_eq_false_iff_not, beq_iff_eq, beq_eq_false_iff_ne, ne_eq, Bool.not_eq_true', Bool.not_eq_false'] at *); omega))
                all_goals
                  go_ret
                  refine ⟨ret_bool ?_, below_alloc⟩
                  go_light
                  have hbad : nameOk (byteAt s pos) pos = false := by
                    by_cases hc : c < 128
                    · rw [← (H1.out hc).1]
                      refine Bool.eq_false_iff.2 fun h => ?_
                      have h' := (nameOk_iff c pos).1 h
                      (try simp only [decide_eq_true_eq, decide_eq_false_iff_not, beq_iff_eq, beq_eq_false_iff_ne, ne_eq] at *) <;> omega
                    · exact nameOk_high _ _ (h2 (by omega))
                  rw [isName, HE.out, nameFrom_bad s pos hp hbad]
                  simp
            · go_wp2
              all_goals (try (exfalso; go_light; (try simp only [decide_eq_true_eq, decide_eq_false_iff_not, beq_iff_eq, beq_eq_false_iff_ne, ne_eq, Bool.not_eq_true', Bool.not_eq_false'] at *); omega))
              all_goals
                go_roundw
                case rel =>
                  go_light
                  (try simp only [decide_eq_true_eq, decide_eq_false_iff_not, beq_iff_eq, beq_eq_false_iff_ne, ne_eq] at *)
                  obtain ⟨e1, rfl⟩ := H1.out (by omega)
                  refine ⟨pos + 1, by omega, rfl, ?_⟩
                  rw [HE.out]
                  exact nameFrom_good s pos hp (by rw [← e1]; exact (nameOk_iff c pos).2 (by omega))
                case measure =>
                  go_light
                  (try simp only [decide_eq_true_eq, decide_eq_false_iff_not, beq_iff_eq, beq_eq_false_iff_ne, ne_eq] at *)
                  obtain ⟨e1, rfl⟩ := H1.out (by omega)
                  simp
                  omega
          · go_wp2
            all_goals (try (exfalso; go_light; (try simp only [decide_eq_true_eq, decide_eq_false_iff_not, beq_iff_eq, beq_eq_false_iff_ne, ne_eq, Bool.not_eq_true', Bool.not_eq_false'] at *); omega))
            all_goals
              go_ret
              refine ⟨ret_bool ?_, below_alloc⟩
              go_light
              have hbad : nameOk (byteAt s pos) pos = false := by
                by_cases hc : c < 128
                · rw [← (H1.out hc).1]
                  refine Bool.eq_false_iff.2 fun h => ?_
                  have h' := (nameOk_iff c pos).1 h
                  (try simp only [decide_eq_true_eq, decide_eq_false_iff_not, beq_iff_eq, beq_eq_false_iff_ne, ne_eq] at *) <;> omega
                · exact nameOk_high _ _ (h2 (by omega))
              rw [isName, HE.out, nameFrom_bad s pos hp hbad]
              simp
        · cases hB : decide ((c : Int) ≤ 122)
          · cases hC : ((pos : Int) == 0)
            · cases hD : ((c : Int) == 95)
              · cases hE : decide ((c : Int) < 48)
                · cases hF : decide ((57 : Int) < (c : Int))
                  · go_wp2
                    all_goals (try (exfalso; go_light; (try simp only [decide_eq_true_eq, decide_eq_false_iff_not, beq_iff_eq, beq_eq_false_iff_ne, ne_eq, Bool.not_eq_true', Bool.not_eq_false'] at *); omega))
                    all_goals
                      go_roundw
                      case rel =>
                        go_light
                        (try simp only [decide_eq_true_eq, decide_eq_false_iff_not, beq_iff_eq, beq_eq_false_iff_ne, ne_eq] at *)
                        obtain ⟨e1, rfl⟩ := H1.out (by omega)
                        refine ⟨pos + 1, by omega, rfl, ?_⟩
                        rw [HE.out]
                        exact nameFrom_good s pos hp (by rw [← e1]; exact (nameOk_iff c pos).2 (by omega))
                      case measure =>
                        go_light
                        (try simp only [decide_eq_true_eq, decide_eq_false_iff_not, beq_iff_eq, beq_eq_false_iff_ne, ne_eq] at *)
                        obtain ⟨e1, rfl⟩ := H1.out (by omega)
                        simp
                        omega
                  · go_wp2
                    all_goals (try (exfalso; go_light; (try simp only [decide_eq_true_eq, decide_eq_false_iff_not, beq_iff_eq, beq_eq_false_iff_ne, ne_eq, Bool.not_eq_true', Bool.not_eq_false'] at *); omega))
                    all_goals
                      go_ret
                      refine ⟨ret_bool ?_, below_alloc⟩
                      go_light
                      have hbad : nameOk (byteAt s pos) pos = false := by
                        by_cases hc : c < 128
                        · rw [← (H1.out hc).1]
                          refine Bool.eq_false_iff.2 fun h => ?_
                          have h' := (nameOk_iff c pos).1 h
                          (try simp only [decide_eq_true_eq, decide_eq_false_iff_not, beq_iff_eq, beq_eq_false_iff_ne, ne_eq] at *) <;> omega
                        · exact nameOk_high _ _ (h2 (by omega))
                      rw [isName, HE.out, nameFrom_bad s pos hp hbad]
                      simp
                · go_wp2
                  all_goals (try (exfalso; go_light; (try simp only [decide_eq_true_eq, decide_eq_false_iff_not, beq_iff_eq, beq_eq_false_iff_ne, ne_eq, Bool.not_eq_true', Bool.not_eq_false'] at *); omega))
                  all_goals
                    go_ret
                    refine ⟨ret_bool ?_, below_alloc⟩
                    go_light
                    have hbad : nameOk (byteAt s pos) pos = false := by
                      by_cases hc : c < 128
                      · rw [← (H1.out hc).1]
                        refine Bool.eq_false_iff.2 fun h => ?_
                        have h' := (nameOk_iff c pos).1 h
                        (try simp only [decide_eq_true_eq, decide_eq_false_iff_not, beq_iff_eq, beq_eq_false_iff_ne, ne_eq] at *) <;> omega
                      · exact nameOk_high _ _ (h2 (by omega))
                    rw [isName, HE.out, nameFrom_bad s pos hp hbad]
                    simp
              · go_wp2
                all_goals (try (exfalso; go_light; (try simp only [decide_eq_true_eq, decide_eq_false_iff_not, beq_iff_eq, beq_eq_false_iff_ne, ne_eq, Bool.not_eq_true', Bool.not_eq_false'] at *); omega))
                all_goals
                  go_roundw
                  case rel =>
                    go_light
                    (try simp only [decide_eq_true_eq, decide_eq_false_iff_not, beq_iff_eq, beq_eq_false_iff_ne, ne_eq] at *)
                    obtain ⟨e1, rfl⟩ := H1.out (by omega)
                    refine ⟨pos + 1, by omega, rfl, ?_⟩
                    rw [HE.out]
                    exact nameFrom_good s pos hp (by rw [← e1]; exact (nameOk_iff c pos).2 (by omega))
                  case measure =>
                    go_light
                    (try simp only [decide_eq_true_eq, decide_eq_false_iff_not, beq_iff_eq, beq_eq_false_iff_ne, ne_eq] at *)
                    obtain ⟨e1, rfl⟩ := H1.out (by omega)
                    simp
                    omega
            · go_wp2
              all_goals (try (exfalso; go_light; (try simp only [decide_eq_true_eq, decide_eq_false_iff_not, beq_iff_eq, beq_eq_false_iff_ne, ne_eq, Bool.not_eq_true', Bool.not_eq_false'] at *); omega))
              all_goals
                go_ret
                refine ⟨ret_bool ?_, below_alloc⟩
                go_light
                have hbad : nameOk (byteAt s pos) pos = false := by
                  by_cases hc : c < 128
                  · rw [← (H1.out hc).1]
                    refine Bool.eq_false_iff.2 fun h => ?_
                    have h' := (nameOk_iff c pos).1 h
                    (try simp only [decide_eq_true_eq, decide_eq_false_iff_not, beq_iff_eq, beq_eq_false_iff_ne, ne_eq] at *) <;> omega
                  · exact nameOk_high _ _ (h2 (by omega))
                rw [isName, HE.out, nameFrom_bad s pos hp hbad]
                simp
          · go_wp2
            all_goals (try (exfalso; go_light; (try simp only [decide_eq_true_eq, decide_eq_false_iff_not, beq_iff_eq, beq_eq_false_iff_ne, ne_eq, Bool.not_eq_true', Bool.not_eq_false'] at *); omega))
            all_goals
              go_roundw
              case rel =>
                go_light
                (try simp only [decide_eq_true_eq, decide_eq_false_iff_not, beq_iff_eq, beq_eq_false_iff_ne, ne_eq] at *)
                obtain ⟨e1, rfl⟩ := H1.out (by omega)
                refine ⟨pos + 1, by omega, rfl, ?_⟩
                rw [HE.out]
                exact nameFrom_good s pos hp (by rw [← e1]; exact (nameOk_iff c pos).2 (by omega))
              case measure =>
                go_light
                (try simp only [decide_eq_true_eq, decide_eq_false_iff_not, beq_iff_eq, beq_eq_false_iff_ne, ne_eq] at *)
                obtain ⟨e1, rfl⟩ := H1.out (by omega)
                simp
                omega
      · have hnx : ∀ ty, (Instr.next (.pointer (some ⟨w.heap.size, 0, none⟩)) true ty).run Try.prog (w.iter s pos) = _ := fun ty => run_next_end w s pos ty hp
        go_wp2
        go_ret
        refine ⟨ret_bool ?_, below_alloc⟩
        go_light
        have : pos = s.size := by omega
        subst this
        rw [isName, HE.out, Nat.sub_self, nameFrom]
        rw [nonempty_iff]
        simp [hl]
  · go_wp2
    go_ret
    exact ⟨ret_bool (by simp [isName, hl]), Below.refl _ _⟩

set_option maxRecDepth 100000 in
theorem isName_ref (s : ByteArray) (hs : Str s) (w : World) :
    Calls Try.prog 30 #[.string s] w fun e w' => e = .returned (.bool (isName s)) ∧ w = w' := by
  unfold Str at hs
  go_enter Try.func30, Try.ntmps30
  obtain hl | hl | hl : s.size < 1 ∨ 24 < s.size ∨ (1 ≤ s.size ∧ s.size ≤ 24) := by omega
  · go_wp2
    all_goals (try (exfalso; go_light; (try simp only [decide_eq_true_eq, decide_eq_false_iff_not, beq_iff_eq, beq_eq_false_iff_ne, ne_eq, Bool.not_eq_true', Bool.not_eq_false'] at *); omega))
    all_goals
      go_ret
      refine ⟨ret_bool ?_, rfl⟩
      go_light
      have h0 : ¬ 0 < s.size := by omega
      simp [isName, h0]
  · go_wp2
    all_goals (try (exfalso; go_light; (try simp only [decide_eq_true_eq, decide_eq_false_iff_not, beq_iff_eq, beq_eq_false_iff_ne, ne_eq, Bool.not_eq_true', Bool.not_eq_false'] at *); omega))
    all_goals
      go_ret
      refine ⟨ret_bool ?_, rfl⟩
      go_light
      have h0 : ¬ s.size ≤ 24 := by omega
      simp [isName, h0]
  · obtain ⟨hl1, hl2⟩ := hl
    have hz : 0 < s.size := by omega
    obtain ⟨d, hd⟩ : ∃ d, (s[0]'hz).toNat = d := ⟨_, rfl⟩
    have HD : Hid (d = byteAt s 0) := hide (by rw [byteAt_eq s 0 hz, hd])
    have early : (d < 97 ∨ 122 < d) → isName s = false := fun h => by
      have hbad : nameOk (byteAt s 0) 0 = false := by
        rw [← HD.out]
        refine Bool.eq_false_iff.2 fun h' => ?_
        have := (nameOk_iff d 0).1 h'
        omega
      have := nameFrom_bad s 0 hz hbad
      rw [Nat.sub_zero] at this
      rw [isName, this]
      simp
    cases hA0 : decide ((d : Int) < 97)
    · cases hB0 : decide ((122 : Int) < (d : Int))
      · go_wp2
        go_loop [3] (fun i => ∃ pos : Nat, pos ≤ s.size ∧ i = .int .i64 pos ∧ nameFrom s s.size 0 = nameFrom s (s.size - pos) pos) (fun i => s.size - (intOf i).toNat)
        case atStart => exact ⟨0, by omega, rfl, rfl⟩
        case round =>
          obtain ⟨pos, hpos, rfl, heq⟩ := hrel
          have HE := hide heq
          clear heq
          by_cases hp : pos < s.size
          · obtain ⟨c, hc⟩ : ∃ c, (s[pos]'hp).toNat = c := ⟨_, rfl⟩
            have HC : Hid (c = byteAt s pos) := hide (by rw [byteAt_eq s pos hp, hc])
            have h0 : pos = 0 → c = d := by intro h; subst h; rw [HC.out, HD.out]
            cases hA : decide ((97 : Int) ≤ (c : Int))
            · cases hE : decide ((48 : Int) ≤ (c : Int))
              · cases hD : ((c : Int) == 95)
                · go_wp2
                  all_goals (try (exfalso; go_light; (try simp only [decide_eq_true_eq, decide_eq_false_iff_not, beq_iff_eq, beq_eq_false_iff_ne, ne_eq, Bool.not_eq_true', Bool.not_eq_false'] at *); omega))
                  all_goals
                    go_ret
                    refine ⟨ret_bool ?_, rfl⟩
                    go_light
                    have hbad : nameOk (byteAt s pos) pos = false := by
                      rw [← HC.out]
                      refine Bool.eq_false_iff.2 fun h => ?_
                      have h' := (nameOk_iff c pos).1 h
                      (try simp only [decide_eq_true_eq, decide_eq_false_iff_not, beq_iff_eq, beq_eq_false_iff_ne, ne_eq] at *) <;> omega
                    rw [isName, HE.out, nameFrom_bad s pos hp hbad]
                    simp
                · go_wp2
                  all_goals (try (exfalso; go_light; (try simp only [decide_eq_true_eq, decide_eq_false_iff_not, beq_iff_eq, beq_eq_false_iff_ne, ne_eq, Bool.not_eq_true', Bool.not_eq_false'] at *); omega))
                  all_goals
                    go_round
                    case rel =>
                      go_light
                      (try simp only [decide_eq_true_eq, decide_eq_false_iff_not, beq_iff_eq, beq_eq_false_iff_ne, ne_eq] at *)
                      refine ⟨pos + 1, by omega, by go_num, ?_⟩
                      rw [HE.out]
                      exact nameFrom_good s pos hp (by rw [← HC.out]; exact (nameOk_iff c pos).2 (by omega))
                    case measure => simp [intOf]; omega
              · cases hF : decide ((c : Int) ≤ 57)
                · cases hD : ((c : Int) == 95)
                  · go_wp2
                    all_goals (try (exfalso; go_light; (try simp only [decide_eq_true_eq, decide_eq_false_iff_not, beq_iff_eq, beq_eq_false_iff_ne, ne_eq, Bool.not_eq_true', Bool.not_eq_false'] at *); omega))
                    all_goals
                      go_ret
                      refine ⟨ret_bool ?_, rfl⟩
                      go_light
                      have hbad : nameOk (byteAt s pos) pos = false := by
                        rw [← HC.out]
                        refine Bool.eq_false_iff.2 fun h => ?_
                        have h' := (nameOk_iff c pos).1 h
                        (try simp only [decide_eq_true_eq, decide_eq_false_iff_not, beq_iff_eq, beq_eq_false_iff_ne, ne_eq] at *) <;> omega
                      rw [isName, HE.out, nameFrom_bad s pos hp hbad]
                      simp
                  · go_wp2
                    all_goals (try (exfalso; go_light; (try simp only [decide_eq_true_eq, decide_eq_false_iff_not, beq_iff_eq, beq_eq_false_iff_ne, ne_eq, Bool.not_eq_true', Bool.not_eq_false'] at *); omega))
                    all_goals
                      go_round
                      case rel =>
                        go_light
                        (try simp only [decide_eq_true_eq, decide_eq_false_iff_not, beq_iff_eq, beq_eq_false_iff_ne, ne_eq] at *)
                        refine ⟨pos + 1, by omega, by go_num, ?_⟩
                        rw [HE.out]
                        exact nameFrom_good s pos hp (by rw [← HC.out]; exact (nameOk_iff c pos).2 (by omega))
                      case measure => simp [intOf]; omega
                · go_wp2
                  all_goals (try (exfalso; go_light; (try simp only [decide_eq_true_eq, decide_eq_false_iff_not, beq_iff_eq, beq_eq_false_iff_ne, ne_eq, Bool.not_eq_true', Bool.not_eq_false'] at *); omega))
                  all_goals
                    go_round
                    case rel =>
                      go_light
                      (try simp only [decide_eq_true_eq, decide_eq_false_iff_not, beq_iff_eq, beq_eq_false_iff_ne, ne_eq] at *)
                      refine ⟨pos + 1, by omega, by go_num, ?_⟩
                      rw [HE.out]
                      exact nameFrom_good s pos hp (by rw [← HC.out]; exact (nameOk_iff c pos).2 (by omega))
                    case measure => simp [intOf]; omega
            · cases hB : decide ((c : Int) ≤ 122)
              · cases hE : decide ((48 : Int) ≤ (c : Int))
                · cases hD : ((c : Int) == 95)
                  · go_wp2
                    all_goals (try (exfalso; go_light; (try simp only [decide_eq_true_eq, decide_eq_false_iff_not, beq_iff_eq, beq_eq_false_iff_ne, ne_eq, Bool.not_eq_true', Bool.not_eq_false'] at *); omega))
                    all_goals
                      go_ret
                      refine ⟨ret_bool ?_, rfl⟩
                      go_light
                      have hbad : nameOk (byteAt s pos) pos = false := by
                        rw [← HC.out]
                        refine Bool.eq_false_iff.2 fun h => ?_
                        have h' := (nameOk_iff c pos).1 h
                        (try simp only [decide_eq_true_eq, decide_eq_false_iff_not, beq_iff_eq, beq_eq_false_iff_ne, ne_eq] at *) <;> omega
                      rw [isName, HE.out, nameFrom_bad s pos hp hbad]
                      simp
                  · go_wp2
                    all_goals (try (exfalso; go_light; (try simp only [decide_eq_true_eq, decide_eq_false_iff_not, beq_iff_eq, beq_eq_false_iff_ne, ne_eq, Bool.not_eq_true', Bool.not_eq_false'] at *); omega))
                    all_goals
                      go_round
                      case rel =>
                        go_light
                        (try simp only [decide_eq_true_eq, decide_eq_false_iff_not, beq_iff_eq, beq_eq_false_iff_ne, ne_eq] at *)
                        refine ⟨pos + 1, by omega, by go_num, ?_⟩
                        rw [HE.out]
                        exact nameFrom_good s pos hp (by rw [← HC.out]; exact (nameOk_iff c pos).2 (by omega))
                      case measure => simp [intOf]; omega
                · cases hF : decide ((c : Int) ≤ 57)
                  · cases hD : ((c : Int) == 95)
                    · go_wp2
                      all_goals (try (exfalso; go_light; (try simp only [decide_eq_true_eq, decide_eq_false_iff_not, beq_iff_eq, beq_eq_false_iff_ne, ne_eq, Bool.not_eq_true', Bool.not_eq_false'] at *); omega))
                      all_goals
                        go_ret
                        refine ⟨ret_bool ?_, rfl⟩
                        go_light
                        have hbad : nameOk (byteAt s pos) pos = false := by
                          rw [← HC.out]
                          refine Bool.eq_false_iff.2 fun h => ?_
                          have h' := (nameOk_iff c pos).1 h
                          (try simp only [decide_eq_true_eq, decide_eq_false_iff_not, beq_iff_eq, beq_eq_false_iff_ne, ne_eq] at *) <;> omega
                        rw [isName, HE.out, nameFrom_bad s pos hp hbad]
                        simp
                    · go_wp2
                      all_goals (try (exfalso; go_light; (try simp only [decide_eq_true_eq, decide_eq_false_iff_not, beq_iff_eq, beq_eq_false_iff_ne, ne_eq, Bool.not_eq_true', Bool.not_eq_false'] at *); omega))
                      all_goals
                        go_round
                        case rel =>
                          go_light
                          (try simp only [decide_eq_true_eq, decide_eq_false_iff_not, beq_iff_eq, beq_eq_false_iff_ne, ne_eq] at *)
                          refine ⟨pos + 1, by omega, by go_num, ?_⟩
                          rw [HE.out]
                          exact nameFrom_good s pos hp (by rw [← HC.out]; exact (nameOk_iff c pos).2 (by omega))
                        case measure => simp [intOf]; omega
                  · go_wp2
                    all_goals (try (exfalso; go_light; (try simp only [decide_eq_true_eq, decide_eq_false_iff_not, beq_iff_eq, beq_eq_false_iff_ne, ne_eq, Bool.not_eq_true', Bool.not_eq_false'] at *); omega))
                    all_goals
                      go_round
                      case rel =>
                        go_light
                        (try simp only [decide_eq_true_eq, decide_eq_false_iff_not, beq_iff_eq, beq_eq_false_iff_ne, ne_eq] at *)
                        refine ⟨pos + 1, by omega, by go_num, ?_⟩
                        rw [HE.out]
                        exact nameFrom_good s pos hp (by rw [← HC.out]; exact (nameOk_iff c pos).2 (by omega))
                      case measure => simp [intOf]; omega
              · go_wp2
                all_goals (try (exfalso; go_light; (try simp only [decide_eq_true_eq, decide_eq_false_iff_not, beq_iff_eq, beq_eq_false_iff_ne, ne_eq, Bool.not_eq_true', Bool.not_eq_false'] at *); omega))
                all_goals
                  go_round
                  case rel =>
                    go_light
                    (try simp only [decide_eq_true_eq, decide_eq_false_iff_not, beq_iff_eq, beq_eq_false_iff_ne, ne_eq] at *)
                    refine ⟨pos + 1, by omega, by go_num, ?_⟩
                    rw [HE.out]
                    exact nameFrom_good s pos hp (by rw [← HC.out]; exact (nameOk_iff c pos).2 (by omega))
                  case measure => simp [intOf]; omega
          · go_wp2
            go_ret
            refine ⟨ret_bool ?_, rfl⟩
            go_light
            have : pos = s.size := by omega
            subst this
            rw [isName, HE.out, Nat.sub_self, nameFrom]
            simp [hl2, hz]
      · have he := early (.inr (by simp only [decide_eq_true_eq] at hB0; omega))
        go_wp2
        all_goals (go_ret; exact ⟨ret_bool he.symm, rfl⟩)
    · have he := early (.inl (by simp only [decide_eq_true_eq] at hA0; omega))
      go_wp2
      all_goals (go_ret; exact ⟨ret_bool he.symm, rfl⟩)
end Go.Proofs.Ytmnhahilbbnkkaa
