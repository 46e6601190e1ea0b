/-
  warehousebase: logical, numeric: what is built has a type. (Printed by gen_expr.py.)
-/
import Derived.Test.YtmnhahilbbnkkaaGreatDoorGaj
namespace Go.Proofs.YtmnhahilbbnkkaaGreatDoor
open Go.RowKit
set_option linter.unusedSimpArgs false
set_option linter.unusedVariables false

/-- Expr at a depth. -/
def ExprAt (cols : List Col) (d : Nat) : Prop := ∀ (k : Int), 1 ≤ k → k ≤ 4 → ∀ (a : Int), 0 ≤ a → a + 1 ≤ atB d → ∀ (w : World) (A1 : Option Addr) (n1 c1 : Nat), In w A1 n1 c1 cols → ∀ (A : Option Addr) (n c : Nat) (l : List Int), In w A n c l →
  Calls Tryz.prog 9 #[.int .i64 k, .slice A1 n1 c1, .slice A n c, .int .i64 a, .int .i64 (d : Int)] w fun e w' => NdsOk w w' e (Ok cols k d) ∧ Below w.heap.size w w'
theorem day_in (W : World) (j : Nat) : In ((W.alloc (.cells #[.string ⟨#[122, 48]⟩, .string ⟨#[122, 49]⟩, .string ⟨#[122, 50]⟩] 9)).alloc (.cells #[.int .i64 20, .int .i64 0, .int .i64 0, .string ⟨#[]⟩, .string (zname j), .int .i64 0] 70)) (some ⟨W.heap.size + 1, 0, none⟩) 1 1 [dayNode j] := by
  have hs : Str (zname j) := by rw [zname]; split; · simp [Str, ByteArray.size]
                                split <;> simp [Str, ByteArray.size]
  have h := (Stk.at_ (n := 1) (B := 0) (xs := [dayNode j]) (heap_alloc_new (W.alloc (.cells #[.string ⟨#[122, 48]⟩, .string ⟨#[122, 49]⟩, .string ⟨#[122, 50]⟩] 9)) (.cells #[.int .i64 20, .int .i64 0, .int .i64 0, .string ⟨#[]⟩, .string (zname j), .int .i64 0] 70)) rfl (by intro x hx; simp at hx; subst hx; exact ⟨by simp [dayNode, I64], ⟨by simp [dayNode, nullV, I64], by simp [dayNode, nullV, I64], by simp [dayNode, nullV, Str, ByteArray.size]⟩, hs, by simp [dayNode, I64]⟩) (Nat.zero_le _) rfl (by omega)).inn
  simpa using h
theorem day_in1 (W : World) (j : Nat) : In (W.alloc (.cells #[.int .i64 20, .int .i64 0, .int .i64 0, .string ⟨#[]⟩, .string (zname j), .int .i64 0] 70)) (some ⟨W.heap.size, 0, none⟩) 1 1 [dayNode j] := by
  have hs : Str (zname j) := by rw [zname]; split; · simp [Str, ByteArray.size]
                                split <;> simp [Str, ByteArray.size]
  exact (Stk.at_ (n := 1) (B := 0) (xs := [dayNode j]) (heap_alloc_new W _) rfl (by intro x hx; simp at hx; subst hx; exact ⟨by simp [dayNode, I64], ⟨by simp [dayNode, nullV, I64], by simp [dayNode, nullV, I64], by simp [dayNode, nullV, Str, ByteArray.size]⟩, hs, by simp [dayNode, I64]⟩) (Nat.zero_le _) rfl (by omega)).inn
theorem tm {v : Int} (h : 0 ≤ v) (m : Int) (hm : 0 < m) : ∃ t, v.tmod m = t ∧ 0 ≤ t ∧ t < m := ⟨_, rfl, by rw [Int.tmod_eq_emod_of_nonneg h]; exact Int.emod_nonneg _ (by omega), by rw [Int.tmod_eq_emod_of_nonneg h]; exact Int.emod_lt_of_pos _ hm⟩
theorem td {v b : Int} (h : 0 ≤ v) (hb : v ≤ b) (hb2 : b ≤ 1073741824) (m : Int) (hm : 0 < m) : ∃ t, v.tdiv m = t ∧ 0 ≤ t ∧ t ≤ b ∧ IntKind.i64.wrap t = t := by
  have h0 : 0 ≤ v.tdiv m := by rw [Int.tdiv_eq_ediv_of_nonneg h]; exact Int.ediv_nonneg h (by omega)
  have h1 : v.tdiv m ≤ b := by rw [Int.tdiv_eq_ediv_of_nonneg h]; exact Int.le_trans (Int.ediv_le_self _ h) hb
  exact ⟨_, rfl, h0, h1, IntWalk.i64_in _ (by omega)⟩
theorem wr_ {v : Int} (h : -4611686018427387904 ≤ v ∧ v ≤ 4611686018427387904) : ∃ p, v = p ∧ IntKind.i64.wrap v = p := ⟨v, rfl, IntWalk.i64_in _ (by omega)⟩
theorem Ok.short {cols : List Col} {k : Int} {d : Nat} {es : List Node} (h : Ok cols k d es) (hd : d ≤ 4) : es.length ≤ 4096 := Nat.le_trans (Nat.le_trans h.length (lenB_5 (show d ≤ 5 by omega))) (by omega)
set_option maxHeartbeats 4000000 in
set_option maxRecDepth 100000 in
theorem logical_any (cols : List Col) (G : GoodCols cols) (d : Nat) (hd : d ≤ 4) (IH : ExprAt cols d) (D : Int) (hD : D = (d : Int) + 1) (a : Int) (ha0 : 0 ≤ a) (ha1 : 2 * a + 3 ≤ atB d) (w : World) (A1 : Option Addr) (n1 c1 : Nat) (hc : In w A1 n1 c1 cols) (A : Option Addr) (n c : Nat) (l : List Int) (hl : In w A n c l) :
    Calls Tryz.prog 26 #[.slice A1 n1 c1, .slice A n c, .int .i64 a, .int .i64 D] w fun e w' => NdsOk w w' e (Ok cols 1 (d + 1)) ∧ Below w.heap.size w w' := by
  have hB := atB_le d
  obtain ⟨m2, hm2, hw0⟩ := wr_ (v := 2 * a) (by omega)
  obtain ⟨p1, hp1, hw1⟩ := wr_ (v := m2 + 1) (by omega)
  obtain ⟨p2, hp2, hw2⟩ := wr_ (v := m2 + 2) (by omega)
  have hwd : IntKind.i64.wrap (D - 1) = (d : Int) := by rw [hD, show (d : Int) + 1 - 1 = (d : Int) by omega]; exact IntWalk.i64_in _ (by omega)
  have P1 : Hid (0 ≤ p1 ∧ p1 + 1 ≤ atB d) := hide (by omega)
  have P2 : Hid (0 ≤ p2 ∧ p2 + 1 ≤ atB d) := hide (by omega)
  clear hm2 hp1 hp2 hD hB ha1
  go_enter Tryz.func26, Tryz.ntmps26
  go_wp2_with fail
  refine (at_any _ _ _ _ l hl a).mono ?_
  rintro e w1 ⟨⟨v, rfl, hv0, hv1⟩, hb1⟩
  obtain ⟨t, ht, ht0, ht1⟩ := tm hv0 9 (by omega)
  obtain ⟨u, hu, hu0, hu1, hu2⟩ := td hv0 hv1 (by omega) 16 (by omega)
  obtain ⟨s, hs, hs0, hs1⟩ := tm hu0 4 (by omega)
  obtain ⟨k, hk, hkw⟩ := wr_ (v := 1 + s) (by omega)
  have hk0 : 1 ≤ k := by omega
  have hk1 : k ≤ 4 := by omega
  obtain ⟨r, hr, hr0, hr1⟩ := tm hv0 4 (by omega)
  obtain ⟨op, hop, hopw⟩ := wr_ (v := 10 + r) (by omega)
  have ho : Hid (op = 10 ∨ op = 11 ∨ op = 12 ∨ op = 13) := hide (by omega)
  clear hk hop
  by_cases q0 : t = 0
  · subst q0
    go_wp2_with fail
    refine (IH 1 (by omega) (by omega) p1 P1.out.1 P1.out.2 _ _ _ _ (hc.below hb1) _ _ _ l (hl.below hb1)).mono ?_
    rintro e w2 ⟨⟨es2, ⟨A2', c2', rfl, hst2⟩, hok2⟩, hb2⟩
    have HS2 := hide hst2
    have HO2 := hide hok2
    have bb2 := below_trans hb1 hb2
    have L2 := hide hb2
    clear hst2 hok2 hb2
    have HL : Hid (∀ x ∈ [es2], x.length ≤ 4096) := hide (by intro x hx; simp only [List.mem_cons, List.mem_nil_iff, or_false] at hx; rcases hx with rfl <;> first | exact HO2.out.short hd)
    have HK : Hid (Ok cols 1 (d + 1) (List.flatten [es2] ++ [opNode 2])) := hide (by have h := ok_un HO2.out (.inl ⟨rfl, rfl, rfl⟩); simpa using h)
    go_wp2_with fail
    refine (applyB_any 2 (by unfold I64; omega) _ _ _ _ [es2] (in_lists1 HS2.out.inn) (by decide) HL.out).mono ?_
    rintro e w9 ⟨hnd, hb9⟩
    obtain ⟨es9, he9⟩ : ∃ q, List.flatten [es2] ++ [opNode 2] = q := ⟨_, rfl⟩
    rw [he9] at hnd HK
    clear he9
    obtain ⟨A9, c9, rfl, hst9⟩ := hnd
    have HS9 := hide hst9
    have bb9 := below_trans (below_trans bb2 below_alloc) hb9
    have hsz := (below_trans bb2 (below_alloc (o := .cells #[] 0))).size
    have hsz1 : w.heap.size ≤ w2.heap.size := bb2.size
    clear hst9 hb9
    go_wp2
    go_ret
    exact ⟨⟨es9, ⟨A9, c9, rfl, ⟨ownsRow_base HS9.out.own (by simp; omega), HS9.out.ok⟩⟩, HK.out⟩, bb9⟩
  by_cases q1 : t = 1
  · subst q1
    go_wp2_with fail
    refine (IH 1 (by omega) (by omega) p1 P1.out.1 P1.out.2 _ _ _ _ (hc.below hb1) _ _ _ l (hl.below hb1)).mono ?_
    rintro e w2 ⟨⟨es2, ⟨A2', c2', rfl, hst2⟩, hok2⟩, hb2⟩
    have HS2 := hide hst2
    have HO2 := hide hok2
    have bb2 := below_trans hb1 hb2
    have L2 := hide hb2
    clear hst2 hok2 hb2
    go_wp2_with fail
    refine (IH 1 (by omega) (by omega) p2 P2.out.1 P2.out.2 _ _ _ _ (hc.below bb2) _ _ _ l (hl.below bb2)).mono ?_
    rintro e w3 ⟨⟨es3, ⟨A3', c3', rfl, hst3⟩, hok3⟩, hb3⟩
    have HS3 := hide hst3
    have HO3 := hide hok3
    have bb3 := below_trans bb2 hb3
    have L3 := hide hb3
    clear hst3 hok3 hb3
    have HL : Hid (∀ x ∈ [es2, es3], x.length ≤ 4096) := hide (by intro x hx; simp only [List.mem_cons, List.mem_nil_iff, or_false] at hx; rcases hx with rfl | rfl <;> first | exact HO2.out.short hd | exact HO3.out.short hd)
    have HK : Hid (Ok cols 1 (d + 1) (List.flatten [es2, es3] ++ [opNode 14])) := hide (by have h := ok_bin G HO2.out HO3.out hd (.inl ⟨.inl rfl, rfl, rfl⟩); simpa using h)
    go_wp2_with fail
    refine (applyB_any 14 (by unfold I64; omega) _ _ _ _ [es2, es3] (in_lists2 (HS2.out.inn.below L3.out) HS3.out.inn) (by decide) HL.out).mono ?_
    rintro e w9 ⟨hnd, hb9⟩
    obtain ⟨es9, he9⟩ : ∃ q, List.flatten [es2, es3] ++ [opNode 14] = q := ⟨_, rfl⟩
    rw [he9] at hnd HK
    clear he9
    obtain ⟨A9, c9, rfl, hst9⟩ := hnd
    have HS9 := hide hst9
    have bb9 := below_trans (below_trans bb3 below_alloc) hb9
    have hsz := (below_trans bb3 (below_alloc (o := .cells #[] 0))).size
    have hsz1 : w.heap.size ≤ w3.heap.size := bb3.size
    clear hst9 hb9
    go_wp2
    go_ret
    exact ⟨⟨es9, ⟨A9, c9, rfl, ⟨ownsRow_base HS9.out.own (by simp; omega), HS9.out.ok⟩⟩, HK.out⟩, bb9⟩
  by_cases q2 : t = 2
  · subst q2
    go_wp2_with fail
    refine (IH 1 (by omega) (by omega) p1 P1.out.1 P1.out.2 _ _ _ _ (hc.below hb1) _ _ _ l (hl.below hb1)).mono ?_
    rintro e w2 ⟨⟨es2, ⟨A2', c2', rfl, hst2⟩, hok2⟩, hb2⟩
    have HS2 := hide hst2
    have HO2 := hide hok2
    have bb2 := below_trans hb1 hb2
    have L2 := hide hb2
    clear hst2 hok2 hb2
    go_wp2_with fail
    refine (IH 1 (by omega) (by omega) p2 P2.out.1 P2.out.2 _ _ _ _ (hc.below bb2) _ _ _ l (hl.below bb2)).mono ?_
    rintro e w3 ⟨⟨es3, ⟨A3', c3', rfl, hst3⟩, hok3⟩, hb3⟩
    have HS3 := hide hst3
    have HO3 := hide hok3
    have bb3 := below_trans bb2 hb3
    have L3 := hide hb3
    clear hst3 hok3 hb3
    have HL : Hid (∀ x ∈ [es2, es3], x.length ≤ 4096) := hide (by intro x hx; simp only [List.mem_cons, List.mem_nil_iff, or_false] at hx; rcases hx with rfl | rfl <;> first | exact HO2.out.short hd | exact HO3.out.short hd)
    have HK : Hid (Ok cols 1 (d + 1) (List.flatten [es2, es3] ++ [opNode 15])) := hide (by have h := ok_bin G HO2.out HO3.out hd (.inl ⟨.inr rfl, rfl, rfl⟩); simpa using h)
    go_wp2_with fail
    refine (applyB_any 15 (by unfold I64; omega) _ _ _ _ [es2, es3] (in_lists2 (HS2.out.inn.below L3.out) HS3.out.inn) (by decide) HL.out).mono ?_
    rintro e w9 ⟨hnd, hb9⟩
    obtain ⟨es9, he9⟩ : ∃ q, List.flatten [es2, es3] ++ [opNode 15] = q := ⟨_, rfl⟩
    rw [he9] at hnd HK
    clear he9
    obtain ⟨A9, c9, rfl, hst9⟩ := hnd
    have HS9 := hide hst9
    have bb9 := below_trans (below_trans bb3 below_alloc) hb9
    have hsz := (below_trans bb3 (below_alloc (o := .cells #[] 0))).size
    have hsz1 : w.heap.size ≤ w3.heap.size := bb3.size
    clear hst9 hb9
    go_wp2
    go_ret
    exact ⟨⟨es9, ⟨A9, c9, rfl, ⟨ownsRow_base HS9.out.own (by simp; omega), HS9.out.ok⟩⟩, HK.out⟩, bb9⟩
  by_cases q3 : t = 3
  · subst q3
    go_wp2_with fail
    refine (IH k hk0 hk1 p1 P1.out.1 P1.out.2 _ _ _ _ (hc.below hb1) _ _ _ l (hl.below hb1)).mono ?_
    rintro e w2 ⟨⟨es2, ⟨A2', c2', rfl, hst2⟩, hok2⟩, hb2⟩
    have HS2 := hide hst2
    have HO2 := hide hok2
    have bb2 := below_trans hb1 hb2
    have L2 := hide hb2
    clear hst2 hok2 hb2
    have HL : Hid (∀ x ∈ [es2], x.length ≤ 4096) := hide (by intro x hx; simp only [List.mem_cons, List.mem_nil_iff, or_false] at hx; rcases hx with rfl <;> first | exact HO2.out.short hd)
    have HK : Hid (Ok cols 1 (d + 1) (List.flatten [es2] ++ [opNode 16])) := hide (by have h := ok_un HO2.out (.inr (.inr (.inl ⟨rfl, rfl⟩))); simpa using h)
    go_wp2_with fail
    refine (applyB_any 16 (by unfold I64; omega) _ _ _ _ [es2] (in_lists1 HS2.out.inn) (by decide) HL.out).mono ?_
    rintro e w9 ⟨hnd, hb9⟩
    obtain ⟨es9, he9⟩ : ∃ q, List.flatten [es2] ++ [opNode 16] = q := ⟨_, rfl⟩
    rw [he9] at hnd HK
    clear he9
    obtain ⟨A9, c9, rfl, hst9⟩ := hnd
    have HS9 := hide hst9
    have bb9 := below_trans (below_trans bb2 below_alloc) hb9
    have hsz := (below_trans bb2 (below_alloc (o := .cells #[] 0))).size
    have hsz1 : w.heap.size ≤ w2.heap.size := bb2.size
    clear hst9 hb9
    go_wp2
    go_ret
    exact ⟨⟨es9, ⟨A9, c9, rfl, ⟨ownsRow_base HS9.out.own (by simp; omega), HS9.out.ok⟩⟩, HK.out⟩, bb9⟩
  have z0 : (t == 0) = false := by simpa using q0
  have z1 : (t == 1) = false := by simpa using q1
  have z2 : (t == 2) = false := by simpa using q2
  have z3 : (t == 3) = false := by simpa using q3
  go_wp2_with fail
  refine (IH k hk0 hk1 p1 P1.out.1 P1.out.2 _ _ _ _ (hc.below hb1) _ _ _ l (hl.below hb1)).mono ?_
  rintro e w2 ⟨⟨es2, ⟨A2', c2', rfl, hst2⟩, hok2⟩, hb2⟩
  have HS2 := hide hst2
  have HO2 := hide hok2
  have bb2 := below_trans hb1 hb2
  have L2 := hide hb2
  clear hst2 hok2 hb2
  go_wp2_with fail
  refine (IH k hk0 hk1 p2 P2.out.1 P2.out.2 _ _ _ _ (hc.below bb2) _ _ _ l (hl.below bb2)).mono ?_
  rintro e w3 ⟨⟨es3, ⟨A3', c3', rfl, hst3⟩, hok3⟩, hb3⟩
  have HS3 := hide hst3
  have HO3 := hide hok3
  have bb3 := below_trans bb2 hb3
  have L3 := hide hb3
  clear hst3 hok3 hb3
  have HL : Hid (∀ x ∈ [es2, es3], x.length ≤ 4096) := hide (by intro x hx; simp only [List.mem_cons, List.mem_nil_iff, or_false] at hx; rcases hx with rfl | rfl <;> first | exact HO2.out.short hd | exact HO3.out.short hd)
  have HK : Hid (Ok cols 1 (d + 1) (List.flatten [es2, es3] ++ [opNode op])) := hide (by have h := ok_bin G HO2.out HO3.out hd (.inr (.inl ⟨ho.out, rfl⟩)); simpa using h)
  go_wp2_with fail
  refine (applyB_any op (by have := ho.out; unfold I64; omega) _ _ _ _ [es2, es3] (in_lists2 (HS2.out.inn.below L3.out) HS3.out.inn) (by decide) HL.out).mono ?_
  rintro e w9 ⟨hnd, hb9⟩
  obtain ⟨es9, he9⟩ : ∃ q, List.flatten [es2, es3] ++ [opNode op] = q := ⟨_, rfl⟩
  rw [he9] at hnd HK
  clear he9
  obtain ⟨A9, c9, rfl, hst9⟩ := hnd
  have HS9 := hide hst9
  have bb9 := below_trans (below_trans bb3 below_alloc) hb9
  have hsz := (below_trans bb3 (below_alloc (o := .cells #[] 0))).size
  have hsz1 : w.heap.size ≤ w3.heap.size := bb3.size
  clear hst9 hb9
  go_wp2
  go_ret
  exact ⟨⟨es9, ⟨A9, c9, rfl, ⟨ownsRow_base HS9.out.own (by simp; omega), HS9.out.ok⟩⟩, HK.out⟩, bb9⟩
set_option maxHeartbeats 4000000 in
set_option maxRecDepth 100000 in
theorem numeric_any (cols : List Col) (G : GoodCols cols) (d : Nat) (hd : d ≤ 4) (IH : ExprAt cols d) (D : Int) (hD : D = (d : Int) + 1) (a : Int) (ha0 : 0 ≤ a) (ha1 : 2 * a + 3 ≤ atB d) (w : World) (A1 : Option Addr) (n1 c1 : Nat) (hc : In w A1 n1 c1 cols) (A : Option Addr) (n c : Nat) (l : List Int) (hl : In w A n c l) :
    Calls Tryz.prog 27 #[.slice A1 n1 c1, .slice A n c, .int .i64 a, .int .i64 D] w fun e w' => NdsOk w w' e (Ok cols 2 (d + 1)) ∧ Below w.heap.size w w' := by
  have hB := atB_le d
  obtain ⟨m2, hm2, hw0⟩ := wr_ (v := 2 * a) (by omega)
  obtain ⟨p1, hp1, hw1⟩ := wr_ (v := m2 + 1) (by omega)
  obtain ⟨p2, hp2, hw2⟩ := wr_ (v := m2 + 2) (by omega)
  have hwd : IntKind.i64.wrap (D - 1) = (d : Int) := by rw [hD, show (d : Int) + 1 - 1 = (d : Int) by omega]; exact IntWalk.i64_in _ (by omega)
  have P1 : Hid (0 ≤ p1 ∧ p1 + 1 ≤ atB d) := hide (by omega)
  have P2 : Hid (0 ≤ p2 ∧ p2 + 1 ≤ atB d) := hide (by omega)
  clear hm2 hp1 hp2 hD hB ha1
  go_enter Tryz.func27, Tryz.ntmps27
  go_wp2_with fail
  refine (at_any _ _ _ _ l hl a).mono ?_
  rintro e w1 ⟨⟨v, rfl, hv0, hv1⟩, hb1⟩
  obtain ⟨t, ht, ht0, ht1⟩ := tm hv0 9 (by omega)
  obtain ⟨u, hu, hu0, hu1, hu2⟩ := td hv0 hv1 (by omega) 9 (by omega)
  obtain ⟨s, hs, hs0, hs1⟩ := tm hu0 5 (by omega)
  obtain ⟨op, hop, hopw⟩ := wr_ (v := 4 + s) (by omega)
  have ho : Hid (op = 4 ∨ op = 5 ∨ op = 6 ∨ op = 7 ∨ op = 8) := hide (by omega)
  obtain ⟨r, hr, hr0, hr1⟩ := tm hu0 3 (by omega)
  obtain ⟨j, rfl⟩ := Int.eq_ofNat_of_zero_le hr0
  clear hop
  by_cases q0 : t = 0
  · subst q0
    go_wp2_with fail
    refine (IH 2 (by omega) (by omega) p1 P1.out.1 P1.out.2 _ _ _ _ (hc.below hb1) _ _ _ l (hl.below hb1)).mono ?_
    rintro e w2 ⟨⟨es2, ⟨A2', c2', rfl, hst2⟩, hok2⟩, hb2⟩
    have HS2 := hide hst2
    have HO2 := hide hok2
    have bb2 := below_trans hb1 hb2
    have L2 := hide hb2
    clear hst2 hok2 hb2
    have HL : Hid (∀ x ∈ [es2], x.length ≤ 4096) := hide (by intro x hx; simp only [List.mem_cons, List.mem_nil_iff, or_false] at hx; rcases hx with rfl <;> first | exact HO2.out.short hd)
    have HK : Hid (Ok cols 2 (d + 1) (List.flatten [es2] ++ [opNode 3])) := hide (by have h := ok_un HO2.out (.inr (.inl ⟨rfl, rfl, rfl⟩)); simpa using h)
    go_wp2_with fail
    refine (applyB_any 3 (by unfold I64; omega) _ _ _ _ [es2] (in_lists1 HS2.out.inn) (by decide) HL.out).mono ?_
    rintro e w9 ⟨hnd, hb9⟩
    obtain ⟨es9, he9⟩ : ∃ q, List.flatten [es2] ++ [opNode 3] = q := ⟨_, rfl⟩
    rw [he9] at hnd HK
    clear he9
    obtain ⟨A9, c9, rfl, hst9⟩ := hnd
    have HS9 := hide hst9
    have bb9 := below_trans (below_trans bb2 below_alloc) hb9
    have hsz := (below_trans bb2 (below_alloc (o := .cells #[] 0))).size
    have hsz1 : w.heap.size ≤ w2.heap.size := bb2.size
    clear hst9 hb9
    go_wp2
    go_ret
    exact ⟨⟨es9, ⟨A9, c9, rfl, ⟨ownsRow_base HS9.out.own (by simp; omega), HS9.out.ok⟩⟩, HK.out⟩, bb9⟩
  by_cases q1 : t = 1
  · subst q1
    go_wp2_with fail
    refine (IH 3 (by omega) (by omega) p1 P1.out.1 P1.out.2 _ _ _ _ (hc.below hb1) _ _ _ l (hl.below hb1)).mono ?_
    rintro e w2 ⟨⟨es2, ⟨A2', c2', rfl, hst2⟩, hok2⟩, hb2⟩
    have HS2 := hide hst2
    have HO2 := hide hok2
    have bb2 := below_trans hb1 hb2
    have L2 := hide hb2
    clear hst2 hok2 hb2
    have HL : Hid (∀ x ∈ [es2], x.length ≤ 4096) := hide (by intro x hx; simp only [List.mem_cons, List.mem_nil_iff, or_false] at hx; rcases hx with rfl <;> first | exact HO2.out.short hd)
    have HK : Hid (Ok cols 2 (d + 1) (List.flatten [es2] ++ [opNode 19])) := hide (by have h := ok_un HO2.out (.inr (.inr (.inr ⟨rfl, rfl, rfl⟩))); simpa using h)
    go_wp2_with fail
    refine (applyB_any 19 (by unfold I64; omega) _ _ _ _ [es2] (in_lists1 HS2.out.inn) (by decide) HL.out).mono ?_
    rintro e w9 ⟨hnd, hb9⟩
    obtain ⟨es9, he9⟩ : ∃ q, List.flatten [es2] ++ [opNode 19] = q := ⟨_, rfl⟩
    rw [he9] at hnd HK
    clear he9
    obtain ⟨A9, c9, rfl, hst9⟩ := hnd
    have HS9 := hide hst9
    have bb9 := below_trans (below_trans bb2 below_alloc) hb9
    have hsz := (below_trans bb2 (below_alloc (o := .cells #[] 0))).size
    have hsz1 : w.heap.size ≤ w2.heap.size := bb2.size
    clear hst9 hb9
    go_wp2
    go_ret
    exact ⟨⟨es9, ⟨A9, c9, rfl, ⟨ownsRow_base HS9.out.own (by simp; omega), HS9.out.ok⟩⟩, HK.out⟩, bb9⟩
  by_cases q2 : t = 2
  · subst q2
    obtain ⟨i0, hi, hy0, hy1, hy2⟩ := info_parts node_info
    have hj : j = 0 ∨ j = 1 ∨ j = 2 := by omega
    have hj0 : (0 : Int) ≤ (j : Int) := by omega
    have hb1d : Below w.heap.size w w1.drew := hb1.drew
    have hszw1 : w.heap.size ≤ w1.heap.size := hb1.size
    have hb1e : Below w.heap.size w (w1.alloc (.cells #[.string ⟨#[122, 48]⟩, .string ⟨#[122, 49]⟩, .string ⟨#[122, 50]⟩] 9)).drew := (hb1.alloc hb1.size _).drew
    have hb1f : Below w.heap.size w ((w1.alloc (.cells #[.string ⟨#[122, 48]⟩, .string ⟨#[122, 49]⟩, .string ⟨#[122, 50]⟩] 9)).alloc (.cells #[.int .i64 20, .int .i64 0, .int .i64 0, .string ⟨#[]⟩, .string (zname j), .int .i64 0] 70)).drew := ((hb1.alloc hb1.size _).alloc (by simp; omega) _).drew
    have hzn : [Value.string ⟨#[122, 48]⟩, Value.string ⟨#[122, 49]⟩, Value.string ⟨#[122, 50]⟩][j]? = some (.string (zname j)) := by rcases hj with rfl | rfl | rfl <;> rfl
    have hze : (w1.alloc (.cells #[.string ⟨#[122, 48]⟩, .string ⟨#[122, 49]⟩, .string ⟨#[122, 50]⟩] 9)).drew.cell? ⟨w1.heap.size, j, none⟩ = some (.string (zname j)) := by rcases hj with rfl | rfl | rfl <;> simp [go_sem, zname]
    have hsl : w1.heap.size < (w1.alloc (.cells #[.string ⟨#[122, 48]⟩, .string ⟨#[122, 49]⟩, .string ⟨#[122, 50]⟩] 9)).drew.heap.size := by simp
    have hdi := hide (In.below (day_in w1 j) (Below.refl _ _).drew)
    go_wp2
    go_region_law (first | (go_simp; go_at_call 9; refine (IH 4 (by omega) (by omega) p1 P1.out.1 P1.out.2 _ _ _ _ (hc.below hb1d) _ _ _ l (hl.below hb1d)).mono ?_; rintro e w2 ⟨⟨es2, ⟨A2', c2', rfl, hst2⟩, hok2⟩, hb2⟩; have HS2 := hide hst2; have HO2 := hide hok2; have bb2 := below_trans hb1d hb2; have hsz2 := hb1d.size; have hsz3 : w.heap.size ≤ w2.heap.size := bb2.size; have hl2 := HO2.out.short hd; clear hst2 hok2 hb2; go_wp2_with fail) | (go_simp; go_at_call 9; refine (IH 4 (by omega) (by omega) p1 P1.out.1 P1.out.2 _ _ _ _ (hc.below hb1e) _ _ _ l (hl.below hb1e)).mono ?_; rintro e w2 ⟨⟨es2, ⟨A2', c2', rfl, hst2⟩, hok2⟩, hb2⟩; have HS2 := hide hst2; have HO2 := hide hok2; have bb2 := below_trans hb1e hb2; have hsz2 := hb1e.size; have hsz3 : w.heap.size ≤ w2.heap.size := bb2.size; have hl2 := HO2.out.short hd; have hz2 := bat hb2 hsl hze; clear hst2 hok2 hb2; go_wp2_with fail) | (go_simp; go_at_call 9; refine (IH 4 (by omega) (by omega) p1 P1.out.1 P1.out.2 _ _ _ _ (hc.below hb1f) _ _ _ l (hl.below hb1f)).mono ?_; rintro e w2 ⟨⟨es2, ⟨A2', c2', rfl, hst2⟩, hok2⟩, hb2⟩; have HS2 := hide hst2; have HO2 := hide hok2; have bb2 := below_trans hb1f hb2; have hsz2 := hb1f.size; have hsz3 : w.heap.size ≤ w2.heap.size := bb2.size; have hl2 := HO2.out.short hd; have hd2 := hide (hdi.out.below hb2); clear hst2 hok2 hb2; go_wp2_with fail) | (refine step_cat (α := Node) _ rfl (.tmp 52) (.tmp 60) 22 rfl w.heap.size 70 i0 _ 64 Tryz.underlying22 hi hy0 hy1 hy2 rfl (by decide) A2' es2.length c2' es2 (Stk.keep ⟨ownsRow_base HS2.out.own hsz2, HS2.out.ok⟩ below_alloc2) rfl rfl (some ⟨w2.heap.size + 1, 0, none⟩) 1 1 [dayNode j] (day_in w2 j) rfl (by omega) (by first | exact hsz3 | (simp; omega)) ?_; intro A9 c9 w9 hst9 hb9 _ hs9) | (refine step_cat (α := Node) _ rfl (.tmp 52) (.tmp 60) 22 rfl w.heap.size 70 i0 _ 64 Tryz.underlying22 hi hy0 hy1 hy2 rfl (by decide) A2' es2.length c2' es2 (Stk.keep ⟨ownsRow_base HS2.out.own hsz2, HS2.out.ok⟩ below_alloc) rfl rfl (some ⟨w2.heap.size, 0, none⟩) 1 1 [dayNode j] (day_in1 w2 j) rfl (by omega) (by first | exact hsz3 | (simp; omega)) ?_; intro A9 c9 w9 hst9 hb9 _ hs9) | (refine step_cat (α := Node) _ rfl (.tmp 52) (.tmp 60) 22 rfl w.heap.size 70 i0 _ 64 Tryz.underlying22 hi hy0 hy1 hy2 rfl (by decide) A2' es2.length c2' es2 ⟨ownsRow_base HS2.out.own hsz2, HS2.out.ok⟩ rfl rfl (some ⟨w1.heap.size + 1, 0, none⟩) 1 1 [dayNode j] (hd2.out) rfl (by omega) (by first | exact hsz3 | (simp; omega)) ?_; intro A9 c9 w9 hst9 hb9 _ hs9))
    all_goals go_wp2
    all_goals go_ret
    all_goals exact ⟨⟨es2 ++ [dayNode j], ⟨A9, c9, by rw [List.length_append]; rfl, hst9⟩, ok_day HO2.out j⟩, Below.trans (by first | exact bb2 | exact bb2.alloc hsz3 _ | exact (bb2.alloc hsz3 _).alloc (by simp; omega) _) hb9⟩
  by_cases q3 : t = 3
  · subst q3
    go_wp2_with fail
    refine (IH 4 (by omega) (by omega) p1 P1.out.1 P1.out.2 _ _ _ _ (hc.below hb1) _ _ _ l (hl.below hb1)).mono ?_
    rintro e w2 ⟨⟨es2, ⟨A2', c2', rfl, hst2⟩, hok2⟩, hb2⟩
    have HS2 := hide hst2
    have HO2 := hide hok2
    have bb2 := below_trans hb1 hb2
    have L2 := hide hb2
    clear hst2 hok2 hb2
    go_wp2_with fail
    refine (IH 4 (by omega) (by omega) p2 P2.out.1 P2.out.2 _ _ _ _ (hc.below bb2) _ _ _ l (hl.below bb2)).mono ?_
    rintro e w3 ⟨⟨es3, ⟨A3', c3', rfl, hst3⟩, hok3⟩, hb3⟩
    have HS3 := hide hst3
    have HO3 := hide hok3
    have bb3 := below_trans bb2 hb3
    have L3 := hide hb3
    clear hst3 hok3 hb3
    go_wp2_with fail
    refine (unknown_any _ _ _ _ es3 HS3.out.inn _ _ _ cols (hc.below bb3)).mono ?_
    rintro e w4 ⟨rfl, hb4⟩
    have L4 := hide hb4
    have bb4 := below_trans bb3 hb4
    clear hb4
    cases hun : unk es3 cols
    · have HU := hide hun
      clear hun
      have HL : Hid (∀ x ∈ [es2, es3], x.length ≤ 4096) := hide (by intro x hx; simp only [List.mem_cons, List.mem_nil_iff, or_false] at hx; rcases hx with rfl | rfl <;> first | exact HO2.out.short hd | exact HO3.out.short hd)
      have HK : Hid (Ok cols 2 (d + 1) (List.flatten [es2, es3] ++ [opNode 5])) := hide (by have h := ok_diff G HO2.out HO3.out hd (by have h := HU.out; rw [unk] at h; simpa using h); simpa using h)
      go_wp2_with fail
      refine (applyB_any 5 (by unfold I64; omega) _ _ _ _ [es2, es3] (in_lists2 ((HS2.out.inn.below L3.out).below L4.out) (HS3.out.inn.below L4.out)) (by decide) HL.out).mono ?_
      rintro e w9 ⟨hnd, hb9⟩
      obtain ⟨es9, he9⟩ : ∃ q, List.flatten [es2, es3] ++ [opNode 5] = q := ⟨_, rfl⟩
      rw [he9] at hnd HK
      clear he9
      obtain ⟨A9, c9, rfl, hst9⟩ := hnd
      have HS9 := hide hst9
      have bb9 := below_trans (below_trans bb4 below_alloc) hb9
      have hsz := (below_trans bb4 (below_alloc (o := .cells #[] 0))).size
      have hsz1 : w.heap.size ≤ w4.heap.size := bb4.size
      clear hst9 hb9
      go_wp2
      go_ret
      exact ⟨⟨es9, ⟨A9, c9, rfl, ⟨ownsRow_base HS9.out.own (by simp; omega), HS9.out.ok⟩⟩, HK.out⟩, bb9⟩
    · clear hun
      have hsz4 : w.heap.size ≤ w4.heap.size := bb4.size
      go_wp2_with fail
      refine (leaf_any cols G 2 (by omega) u hu0 (by omega) _ _ _ _ (hc.below bb4)).mono ?_
      rintro e w9 ⟨⟨es9, ⟨A9, c9, rfl, hst9⟩, hok9⟩, hb9⟩
      have HS9 := hide hst9
      have HO9 := hide hok9
      have bb9 := below_trans bb4 hb9
      clear hst9 hok9 hb9
      go_wp2
      go_ret
      exact ⟨⟨es9, ⟨A9, c9, rfl, ⟨ownsRow_base HS9.out.own hsz4, HS9.out.ok⟩⟩, HO9.out.up⟩, bb9⟩
  have z0 : (t == 0) = false := by simpa using q0
  have z1 : (t == 1) = false := by simpa using q1
  have z2 : (t == 2) = false := by simpa using q2
  have z3 : (t == 3) = false := by simpa using q3
  go_wp2_with fail
  refine (IH 2 (by omega) (by omega) p1 P1.out.1 P1.out.2 _ _ _ _ (hc.below hb1) _ _ _ l (hl.below hb1)).mono ?_
  rintro e w2 ⟨⟨es2, ⟨A2', c2', rfl, hst2⟩, hok2⟩, hb2⟩
  have HS2 := hide hst2
  have HO2 := hide hok2
  have bb2 := below_trans hb1 hb2
  have L2 := hide hb2
  clear hst2 hok2 hb2
  go_wp2_with fail
  refine (IH 2 (by omega) (by omega) p2 P2.out.1 P2.out.2 _ _ _ _ (hc.below bb2) _ _ _ l (hl.below bb2)).mono ?_
  rintro e w3 ⟨⟨es3, ⟨A3', c3', rfl, hst3⟩, hok3⟩, hb3⟩
  have HS3 := hide hst3
  have HO3 := hide hok3
  have bb3 := below_trans bb2 hb3
  have L3 := hide hb3
  clear hst3 hok3 hb3
  have HL : Hid (∀ x ∈ [es2, es3], x.length ≤ 4096) := hide (by intro x hx; simp only [List.mem_cons, List.mem_nil_iff, or_false] at hx; rcases hx with rfl | rfl <;> first | exact HO2.out.short hd | exact HO3.out.short hd)
  have HK : Hid (Ok cols 2 (d + 1) (List.flatten [es2, es3] ++ [opNode op])) := hide (by have h := ok_bin G HO2.out HO3.out hd (.inr (.inr (.inr (.inr ⟨ho.out, rfl, rfl⟩)))); simpa using h)
  go_wp2_with fail
  refine (applyB_any op (by have := ho.out; unfold I64; omega) _ _ _ _ [es2, es3] (in_lists2 (HS2.out.inn.below L3.out) HS3.out.inn) (by decide) HL.out).mono ?_
  rintro e w9 ⟨hnd, hb9⟩
  obtain ⟨es9, he9⟩ : ∃ q, List.flatten [es2, es3] ++ [opNode op] = q := ⟨_, rfl⟩
  rw [he9] at hnd HK
  clear he9
  obtain ⟨A9, c9, rfl, hst9⟩ := hnd
  have HS9 := hide hst9
  have bb9 := below_trans (below_trans bb3 below_alloc) hb9
  have hsz := (below_trans bb3 (below_alloc (o := .cells #[] 0))).size
  have hsz1 : w.heap.size ≤ w3.heap.size := bb3.size
  clear hst9 hb9
  go_wp2
  go_ret
  exact ⟨⟨es9, ⟨A9, c9, rfl, ⟨ownsRow_base HS9.out.own (by simp; omega), HS9.out.ok⟩⟩, HK.out⟩, bb9⟩
end Go.Proofs.YtmnhahilbbnkkaaGreatDoor
