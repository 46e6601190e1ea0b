/-
  warehouseref6.sorted.
-/
import Derived.Test.YtlbhnfnecfllkaaGreatMerge
namespace Go.Proofs.YtlbhnfnecfllkaaGreat
open Go.RowKit
set_option linter.unusedSimpArgs false
set_option linter.unusedVariables false

theorem cells_one : ∀ {xs : List Ent} {w : World} {S : Nat → Prop} {cs : List Value}, Cells w S cs xs → ∀ u ∈ cs, u.oneCell' = true
  | [], _, _, _, h, u, hu => by rw [show _ = [] from h] at hu; cases hu
  | x :: xs, _, _, _, ⟨c0, c1, rfl, h0, h1⟩, u, hu => by
    rcases List.mem_append.1 hu with h | h
    · obtain ⟨A, n, c, e, _, _⟩ := h0
      rw [e] at h
      exact one_ent u h
    · exact cells_one h1 u h
theorem Sl.head {α : Type} [Rep α] {w : World} {S : Nat → Prop} {A : Option Addr} {n c k : Nat} {xs : List α} (h : Sl w S A n c xs) (hk : k ≤ n) : Sl w S A k c (xs.take k) := by
  refine ⟨by rw [List.length_take, h.1]; omega, by have := h.2.1; omega, h.2.2.1, h.2.2.2.1, fun hn => ?_⟩
  obtain ⟨b, off, e, hb, hi⟩ := h.2.2.2.2 (by omega)
  refine ⟨b, off, e, hb, fun i hi' => ?_⟩
  rw [List.length_take] at hi'
  rw [List.getElem_take]
  exact hi i (by omega)
theorem OwnEnts.sl {w w' : World} {S : Nat → Prop} {v : Value} {zs : List Ent} (h : OwnEnts w w' S v zs) (hS : ∀ k, S k → k < w'.heap.size) : ∃ A c, v = .slice A zs.length c ∧ In w' A zs.length c zs := by
  obtain ⟨cs, h1, h2⟩ := h.own
  obtain ⟨A, c, e, hs, _⟩ := sl_of_own (T := fun k => k < w'.heap.size) h1 h2 hS rfl (fun g _ hg => hg.lt)
  exact ⟨A, c, e, hs⟩

set_option maxHeartbeats 2000000 in
set_option maxRecDepth 100000 in
theorem sorted_short (w : World) (A : Option Addr) (n c : Nat) (xs : List Ent) (hx : In w A n c xs) (hn : n < 2) :
    Calls Tryz.prog 104 #[.slice A n c] w
      fun e w' => (∃ B d, e = .returned (.slice B (sortL xs).length d) ∧ In w' B (sortL xs).length d (sortL xs)) ∧ Below w.heap.size w w' := by
  obtain ⟨i0, hi, hz0, hz1, hz2⟩ := info_parts ent_info
  obtain ⟨cs, hcs, hsrc⟩ := Sl.cells hx
  have HL := hide hx.len
  have hA : A = none → n = 0 := fun h => by have := hx.2.2.2.1 h; have := hx.2.1; omega
  have h1 := cells_one hcs
  have HS := hide (sortL_short (l := xs) (by rw [hx.len]; exact hn))
  go_enter Tryz.func104, Tryz.ntmps104
  go_wp2_with (at_builtin; refine wpList_append_src _ rfl (.const (.slice none 0 0)) (.tmp 6) 26 rfl w.heap.size 63 i0 _ 2 32 Tryz.underlying26 hi hz0 hz1 hz2 rfl (by decide) (.slice none 0 0) 0 [] rfl (World.ownsRow_nil _ _ _ _) A n c cs rfl hA hsrc h1 (by simp only [maxLen]; omega) (by omega) (Nat.le_refl _) ?_; intro v1 w1 hown1 hg1 hat1)
  have hw1 : Below w.heap.size w w1 := (Below.refl _ _).grown hg1 (Nat.le_refl _) (by simp [Value.ownBlock])
  have HO : Hid (OwnEnts w w1 (fun k => k < w.heap.size) v1 (sortL xs)) := hide (by
    rw [HS.out]
    exact ⟨_, by rw [HL.out]; simpa using hown1, hcs.keep (Same.below hw1)⟩)
  obtain ⟨B, d, hv, hin⟩ := HO.out.sl (fun k hk => Nat.lt_of_lt_of_le hk hw1.size)
  have HV := hide hv
  have HN := hide hin
  clear hown1 hg1 hat1 hv hin
  go_wp2
  go_ret
  exact ⟨⟨B, d, by rw [HV.out]; rfl, HN.out⟩, hw1⟩

theorem Bnd.take {C : Int} {l : List Ent} (h : Bnd C l) (k : Nat) : Bnd C (l.take k) := fun x hx => h x (List.mem_of_mem_take hx)
theorem Bnd.drop {C : Int} {l : List Ent} (h : Bnd C l) (k : Nat) : Bnd C (l.drop k) := fun x hx => h x (List.mem_of_mem_drop hx)
set_option maxHeartbeats 2000000 in
set_option maxRecDepth 100000 in
theorem sorted_ref (C : Int) (hC0 : 0 ≤ C) (hC1 : C ≤ 1099511627776) : ∀ (N : Nat) (w : World) (A : Option Addr) (n c : Nat) (xs : List Ent), n ≤ N → n ≤ 1048576 → In w A n c xs → Bnd C xs →
    Calls Tryz.prog 104 #[.slice A n c] w
      fun e w' => (∃ B d, e = .returned (.slice B (sortL xs).length d) ∧ In w' B (sortL xs).length d (sortL xs)) ∧ Below w.heap.size w w'
  | 0, w, A, n, c, xs, hN, hM, hx, hb => sorted_short w A n c xs hx (by omega)
  | N + 1, w, A, n, c, xs, hN, hM, hx, hb => by
    by_cases hn : n < 2
    · exact sorted_short w A n c xs hx hn
    have ih := sorted_ref C hC0 hC1 N
    obtain ⟨k, hk⟩ : ∃ k, n / 2 = k := ⟨_, rfl⟩
    have hk1 : 1 ≤ k := by omega
    have hk2 : k < n := by omega
    have hki : (n : Int) / 2 = (k : Int) := by omega
    have HK := hide hk
    have q0 : Int.tdiv (n : Int) 2 = (k : Int) := by rw [Int.tdiv_eq_ediv_of_nonneg (by omega)]; exact hki
    have q1 : IntKind.i64.wrap (k : Int) = (k : Int) := IntWalk.i64_in _ (by omega)
    have q2 : (0 : Int) ≤ (k : Int) := by omega
    have q3 : (k : Int) ≤ (n : Int) := by omega
    have q4 : (k : Int) ≤ (c : Int) := by have := hx.cap; omega
    have q5 : (n : Int) ≤ (c : Int) := by have := hx.cap; omega
    have hcap := hx.cap
    obtain ⟨b, off, rfl, _, _⟩ := hx.2.2.2.2 (by omega)
    obtain ⟨A2, hA2⟩ : ∃ A2, (if c = k then some (⟨b, off, none⟩ : Addr) else some ⟨b, off + k * 2, none⟩) = A2 := ⟨_, rfl⟩
    have hL := hide (Sl.head hx (k := k) (by omega))
    have hR : Hid (In w A2 (n - k) (c - k) (xs.drop k)) := hide (by have h := Sl.tail hx (k := k) (by omega); rw [Option.map_some, add_at] at h; rw [← hA2]; exact h)
    have HI := hide ih
    clear ih hk
    go_enter Tryz.func104, Tryz.ntmps104
    go_wp2_with fail
    have HB := hide hb
    have HLEN := hide hx.len
    have lt : ((xs.take k).length : Int) = k := by rw [List.length_take, hx.len]; omega
    have l1 := sortL_len _ (xs.take k) (Nat.le_refl _)
    have l2 := sortL_len _ (xs.drop k) (Nat.le_refl _)
    rw [List.length_drop, hx.len] at l2
    have b1 := sortL_bnd hC0 _ (xs.take k) (Nat.le_refl _) (Bnd.take hb k)
    have b2 := sortL_bnd hC0 _ (xs.drop k) (Nat.le_refl _) (Bnd.drop hb k)
    rw [lt] at b1
    rw [List.length_drop, hx.len] at b2
    have HB1 := hide b1
    have HB2 := hide b2
    have lk : (sortL (xs.take k)).length ≤ k := by omega
    have HQ := hide (sortL_long (l := xs) (by rw [hx.len]; exact hn))
    have c1 : C * (k : Int) ≤ 1152921504606846976 := Int.le_trans (Int.mul_le_mul hC1 (show (k : Int) ≤ 1048576 by omega) (by omega) (by omega)) (by omega)
    have c2 : C * ((n - k : Nat) : Int) ≤ 1152921504606846976 := Int.le_trans (Int.mul_le_mul hC1 (show ((n - k : Nat) : Int) ≤ 1048576 by omega) (by omega) (by omega)) (by omega)
    have c3 := Int.mul_nonneg hC0 (show (0 : Int) ≤ (k : Int) by omega)
    have c4 := Int.mul_nonneg hC0 (show (0 : Int) ≤ ((n - k : Nat) : Int) by omega)
    have HC := hide (And.intro c1 (And.intro c2 (And.intro c3 c4)))
    have HIL := hide (fun (W : World) (hW : Below w.heap.size w W) => HI.out W (some ⟨b, off, none⟩) k c (xs.take k) (by omega) (by omega) (In.below hL.out hW) (Bnd.take HB.out k))
    have HIR := hide (fun (W : World) (hW : Below w.heap.size w W) => HI.out W A2 (n - k) (c - k) (xs.drop k) (by omega) (by omega) (In.below hR.out hW) (Bnd.drop HB.out k))
    have HM := hide (fun (W : World) (B1 B2 : Option Addr) (d1 d2 : Nat) (h1 : In W B1 (sortL (xs.take k)).length d1 (sortL (xs.take k))) (h2 : In W B2 (sortL (xs.drop k)).length d2 (sortL (xs.drop k))) =>
      merge_ref W B1 B2 _ _ d1 d2 _ _ h1 h2 (by omega) _ _ HC.out.2.2.1 HC.out.1 HC.out.2.2.2 HC.out.2.1 HB1.out HB2.out)
    clear hb lt b1 b2 c1 c2 c3 c4
    go_region_held3 (fun w' => Below w.heap.size w w') (first | exact (Below.refl _ _).drew | exact hs3 | exact hs2 | exact hs1 | go_keep) (first | (go_at_call 104; (with_reducible refine (HIL.out _ ?_).mono ?_); exact (Below.refl _ _).drew; rintro e w1 ⟨⟨B1, d1, rfl, hin1⟩, hb1⟩; have hs1 := ((Below.refl w.heap.size w).drew).trans hb1) | (go_at_call 104; (with_reducible refine (HIR.out _ ?_).mono ?_); exact hs1; rintro e w2 ⟨⟨B2, d2, rfl, hin2⟩, hb2⟩; have hs2 := below_trans hs1 hb2; have hin1' := hin1.below hb2) | (go_at_call 49; (with_reducible refine (HM.out _ _ _ _ _ ?_ ?_).mono ?_); exact hin1'; exact hin2; rintro e w3 ⟨⟨v3, rfl, hv3⟩, hb3⟩; have hs3 := below_trans hs2 hb3))
    have hq : sortL xs = mergeL (sortL (xs.take k)) (sortL (xs.drop k)) := by
      have h := HQ.out
      rw [HLEN.out, HK.out] at h
      exact h
    obtain ⟨B, d, hv, hin⟩ := hv3.sl (fun k hk => Nat.lt_of_lt_of_le hk hb3.size)
    have HV := hide hv
    have HN : Hid (In w3 B (sortL xs).length d (sortL xs)) := hide (by rw [hq]; exact hin)
    have HL2 := hide (congrArg List.length hq)
    clear hv hin hq hv3 hb3 hb2 hb1 hin1 hin1' hin2
    go_wp2
    go_ret
    refine ⟨⟨B, d, ?_, HN.out⟩, by first | exact hs3 | exact hs3.drew⟩
    have e := HV.out
    rw [← HL2.out] at e
    exact congrArg Ending.returned e
end Go.Proofs.YtlbhnfnecfllkaaGreat
