/-
  Plain law of bag.sum: a sorted list, its runs of equal rows summed. No program is in sight. bag.Add, warehouseref6.Add.
-/
import Derived.Test.YtlbhnfnecfllkaaGreatBagM
import Derived.Test.YtlbhnfnecfllkaaGreatSum
namespace Go.Proofs.YtlbhnfnecfllkaaGreat
set_option linter.unusedVariables false
set_option linter.unusedSimpArgs false

/-- The runs of equal rows, summed. -/
def gsum : List Ent → List Ent
  | [] => []
  | x :: l => match gsum l with
    | [] => [x]
    | y :: m => if cmpRows x.row y.row = 0 then ⟨x.row, x.count + y.count⟩ :: m else x :: y :: m
theorem gsum_cnt : ∀ (l : List Ent) (r : List Val), cnt (gsum l) r = cnt l r
  | [], r => rfl
  | x :: l, r => by
    have ih := gsum_cnt l r
    rw [gsum]
    split
    · rename_i h
      rw [h] at ih
      rw [cnt.eq_2 r x [], cnt.eq_2 r x l, ih]
    · rename_i y m h
      rw [h] at ih
      split
      · rename_i q
        have q := cr_zero.1 q
        rw [cnt] at ih
        rw [cnt, cnt, ← ih, q]
        split
        · simp only; omega
        · omega
      · rw [cnt, cnt.eq_2 r x l, ih]
theorem gsum_head : ∀ (x : Ent) (l : List Ent), ∃ n m, gsum (x :: l) = ⟨x.row, n⟩ :: m := by
  intro x l
  rw [gsum]
  split
  · exact ⟨_, _, rfl⟩
  · split
    · exact ⟨_, _, rfl⟩
    · exact ⟨_, _, rfl⟩
theorem gsum_asc : ∀ (l : List Ent), l.Pairwise (fun a b => ¬ cmpRows b.row a.row < 0) → AscE (gsum l)
  | [], _ => List.Pairwise.nil
  | [x], _ => by rw [gsum, gsum]; exact List.pairwise_singleton _ _
  | x :: x2 :: l, h => by
    have ih := gsum_asc (x2 :: l) (List.pairwise_cons.1 h).2
    obtain ⟨n, m, e⟩ := gsum_head x2 l
    have hx := (List.pairwise_cons.1 h).1 x2 (by simp)
    rw [gsum, e]
    rw [e] at ih
    simp only
    have ih2 := ih.head
    have ih3 := ih.tail
    by_cases q : cmpRows x.row x2.row = 0
    · rw [if_pos q]
      have q := cr_zero.1 q
      refine List.pairwise_cons.2 ⟨fun y hy => ?_, ih3⟩
      have := ih2 y hy
      simpa [q] using this
    · rw [if_neg q]
      have hlt : cmpRows x.row x2.row < 0 := by
        by_cases q3 : 0 < cmpRows x.row x2.row
        · exact absurd (cr_anti.2 q3) hx
        · omega
      refine List.pairwise_cons.2 ⟨fun y hy => ?_, ih⟩
      rcases List.mem_cons.1 hy with rfl | hy
      · exact hlt
      · exact cr_trans hlt (ih2 y hy)
/-- The sum of the counts. -/
def sumC : List Ent → Int
  | [] => 0
  | x :: l => x.count + sumC l
theorem sumC_snoc (l : List Ent) (x : Ent) : sumC (l ++ [x]) = sumC l + x.count := by
  induction l with
  | nil => simp [sumC]
  | cons y l ih => rw [List.cons_append, sumC, sumC, ih]; omega
theorem gsum_seg (r : List Val) (rest : List Ent) (hr : ∀ y ∈ rest.head?, y.row ≠ r) : ∀ (seg : List Ent), seg ≠ [] → (∀ x ∈ seg, x.row = r) → gsum (seg ++ rest) = ⟨r, sumC seg⟩ :: gsum rest
  | [], h, _ => absurd rfl h
  | [x], _, h => by
    have hx := h x (by simp)
    rw [List.singleton_append, gsum]
    cases rest with
    | nil =>
      simp only [gsum, sumC]
      obtain ⟨a, b⟩ := x
      simp only at hx
      subst hx
      simp
    | cons y rest =>
      obtain ⟨n, m, e⟩ := gsum_head y rest
      rw [e]
      simp only
      have hy := hr y (by simp)
      rw [if_neg fun q => hy ((cr_zero.1 q).symm.trans hx)]
      obtain ⟨a, b⟩ := x
      simp only at hx
      subst hx
      simp [sumC]
  | x :: x2 :: seg, _, h => by
    have hx := h x (by simp)
    have ih := gsum_seg r rest hr (x2 :: seg) (by simp) fun y hy => h y (by simp [hy])
    rw [List.cons_append, gsum, ih]
    simp only
    rw [if_pos (cr_zero.2 hx), hx]
    rfl
/-- bag.sum's answer. -/
theorem gsum_bag {xs ys : List Ent} (hp : ys.Perm xs) (hs : ys.Pairwise fun a b => ¬ cmpRows b.row a.row < 0) : bagS xs = mergS (gsum ys) := by
  rw [bagS_of (gsum_asc ys hs) fun r => by rw [gsum_cnt, cnt_perm hp]]
  rfl
/-- Where the inner loop stands: from k to q one row. -/
def RunE (ys : List Ent) (r : List Val) (k q : Nat) (n : Int) : Prop := ∃ seg, ys.drop k = seg ++ ys.drop q ∧ seg.length = q - k ∧ (∀ x ∈ seg, x.row = r) ∧ n = sumC seg ∧ -65536 * ((q : Int) - k) ≤ n ∧ n ≤ 65536 * ((q : Int) - k)
theorem RunE.start (ys : List Ent) (r : List Val) (k : Nat) : RunE ys r k k 0 := ⟨[], by simp, by simp, by simp, rfl, by omega, by omega⟩
theorem RunE.step {ys : List Ent} {r : List Val} {k q : Nat} {n : Int} (h : RunE ys r k q n) (hk : k ≤ q) {y : Ent} (hy : ys.drop q = y :: ys.drop (q + 1)) (hr : y.row = r) (hb : -65536 ≤ y.count ∧ y.count ≤ 65536) : RunE ys r k (q + 1) (n + y.count) := by
  obtain ⟨seg, h1, h2, h3, h4, h5, h6⟩ := h
  refine ⟨seg ++ [y], by rw [h1, hy]; simp, by simp; omega, fun x hx => ?_, by rw [sumC_snoc, h4], by omega, by omega⟩
  rcases List.mem_append.1 hx with hx | hx
  · exact h3 x hx
  · simp at hx; subst hx; exact hr
theorem RunE.fin {ys : List Ent} {k q : Nat} {n : Int} {x : Ent} (h : RunE ys x.row k q n) (hx : ys.drop k = x :: ys.drop (k + 1)) (hq : ∀ y ∈ (ys.drop q).head?, y.row ≠ x.row) : gsum (ys.drop k) = ⟨x.row, n⟩ :: gsum (ys.drop q) ∧ k < q := by
  obtain ⟨seg, h1, h2, h3, h4, _⟩ := h
  have hne : seg ≠ [] := fun e => by
    rw [e, List.nil_append] at h1
    exact hq x (by rw [← h1, hx]; simp) rfl
  refine ⟨by rw [h1, h4]; exact gsum_seg x.row _ hq seg hne h3, ?_⟩
  cases seg with
  | nil => exact absurd rfl hne
  | cons _ _ => simp at h2; omega
end Go.Proofs.YtlbhnfnecfllkaaGreat

namespace Go.Proofs.YtlbhnfnecfllkaaGreat
open Go.RowKit
set_option linter.unusedSimpArgs false
set_option linter.unusedVariables false

theorem bothE_zero {xs ys : List Ent} : bothE xs ys = 0 ↔ bagErr xs = 0 ∧ bagErr ys = 0 := by
  rw [bothE]
  split
  · rename_i h; exact ⟨fun q => absurd q h, fun q => absurd q.1 h⟩
  · rename_i h; exact ⟨fun q => ⟨by simpa using h, q⟩, fun q => q.2⟩
theorem addS_err {xs ys : List Ent} (h : bothE xs ys ≠ 0) : addS xs ys = (bothE xs ys, []) := by
  rw [bothE] at h ⊢
  rw [addS]
  split
  · rfl
  · rename_i q
    rw [if_neg q] at h
    rw [if_pos h]
theorem addS_ok {xs ys : List Ent} (h : bothE xs ys = 0) : addS xs ys = mergS (mergeL xs ys) := by
  obtain ⟨h1, h2⟩ := bothE_zero.1 h
  rw [addS, if_neg (by simpa using h1), if_neg (by simpa using h2), mergS_bag (mergeL_asc (bag_asc h1) (bag_asc h2)) (mergeL_cnt xs ys)]
theorem bag_bnd {b : List Ent} (h : bagErr b = 0) : Bnd 65536 b := fun x hx => by have := ent_cnt (bag_ents h x hx); omega
theorem bag_row {b : List Ent} (h : bagErr b = 0) : ∀ x ∈ b, x.row.length ≤ 12 := fun x hx => (ent_cnt (bag_ents h x hx)).2.2
theorem bag_le {b : List Ent} (h : bagErr b = 0) : b.length ≤ 4096 := (bagErr_iff.1 h).1
set_option maxRecDepth 100000 in
theorem add_bag (w : World) (A : Option Addr) (n c : Nat) (xs : List Ent) (hx : In w A n c xs) (A2 : Option Addr) (n2 c2 : Nat) (ys : List Ent) (hy : In w A2 n2 c2 ys) :
    Calls Tryz.prog 50 #[.slice A n c, .slice A2 n2 c2] w fun e w' => (∃ v, e = .returned (.tuple #[v, .int .i64 (addS xs ys).1]) ∧ OE w.heap.size w' v (addS xs ys).2) ∧ Below w.heap.size w w' := by
  have H1 := hide (addS_err (xs := xs) (ys := ys))
  have H2 := hide (addS_ok (xs := xs) (ys := ys))
  have H3 := hide (bothE_zero (xs := xs) (ys := ys)).1
  obtain ⟨R, hR⟩ : ∃ R, addS xs ys = R := ⟨_, rfl⟩
  rw [hR] at H1 H2 ⊢
  obtain ⟨E, hE⟩ : ∃ E, bothE xs ys = E := ⟨_, rfl⟩
  have HE := hide hE
  rw [hE] at H1 H2 H3
  clear hE hR
  have hnx := hx.len
  have hny := hy.len
  go_enter Tryz.func50, Tryz.ntmps50
  have HX := hide hx
  clear hx
  have HY := hide hy
  clear hy
  go_wp2_with fail
  refine (both_ents _ _ _ _ xs HX.out _ _ _ ys HY.out).mono ?_
  rintro e w1 ⟨rfl, hb1⟩
  have HX := hide (HX.out.below hb1)
  have HY := hide (HY.out.below hb1)
  have LST2 := hide hb1
  have SG2 := hide hb1
  clear hb1
  rw [HE.out]
  by_cases h0 : E = 0
  · have HRQ := hide (H2.out h0)
    obtain ⟨h1, h2⟩ := H3.out h0
    have h3 := bag_le h1
    have h4 := bag_le h2
    have HM : Hid (mergeL xs (sg 1 ys) = mergeL xs ys) := hide (by rw [sg_one])
    have HG1 := hide h1
    have HG2 := hide h2
    subst h0
    have hsz := SG2.out.size
    clear h1 h2
    go_wp2_with fail
    refine (merge_bag _ 1 (.inl rfl) _ _ _ _ _ _ xs ys HX.out HY.out (by omega) (bag_bnd HG1.out) (bag_bnd HG2.out) (bag_row HG1.out) (bag_row HG2.out)).mono ?_
    rintro e w3 ⟨⟨v, rfl, ho⟩, hb3⟩
    have HX := hide (HX.out.below hb3)
    have HY := hide (HY.out.below hb3)
    have LST4 := hide hb3
    have SG4 := hide (below_trans SG2.out hb3)
    clear hb3
    rw [HM.out] at ho ⊢
    have HO := hide (ho.rebase hsz)
    clear ho
    generalize mergS (mergeL xs ys) = R2 at *
    obtain rfl := HRQ.out
    go_wp2
    go_ret2
    exact ⟨⟨_, rfl, HO.out⟩, SG4.out⟩
  · obtain rfl := H1.out h0
    have q : (E != 0) = true := by simpa using h0
    go_wp2
    all_goals (try (exfalso; go_light; simp_all; done))
    go_ret2
    exact ⟨⟨_, rfl, OL.nil SG2.out.size⟩, SG2.out⟩
set_option maxRecDepth 100000 in
theorem two_ents (w : World) (A : Option Addr) (n c : Nat) (xs : List Ent) (hx : In w A n c xs) (A2 : Option Addr) (n2 c2 : Nat) (ys : List Ent) (hy : In w A2 n2 c2 ys) :
    Calls Tryz.prog 47 #[.slice A n c, .slice A2 n2 c2] w fun e w' => e = .returned (.int .i64 (bothE xs ys)) ∧ Below w.heap.size w w' := by
  have HF := hide (show bothE xs ys = if bagErr xs ≠ 0 then bagErr xs else bagErr ys from rfl)
  generalize bothE xs ys = r at *
  obtain ⟨E, hE⟩ : ∃ E, bagErr xs = E := ⟨_, rfl⟩
  have HE := hide hE
  rw [hE] at HF
  clear hE
  go_enter Tryz.func47, Tryz.ntmps47
  have HX := hide hx
  clear hx
  have HY := hide hy
  clear hy
  go_wp2_with fail
  refine (bag_ref _ _ _ _ xs HX.out).mono ?_
  rintro e w5 ⟨rfl, hb5⟩
  have HX := hide (HX.out.below hb5)
  have HY := hide (HY.out.below hb5)
  have LST6 := hide hb5
  have SG6 := hide hb5
  clear hb5
  rw [HE.out]
  by_cases h0 : E = 0
  · have HF2 := HF.out
    rw [if_neg (by simpa using h0)] at HF2
    subst h0
    go_wp2_with fail
    refine (bag_ref _ _ _ _ ys HY.out).mono ?_
    rintro e w7 ⟨rfl, hb7⟩
    have HX := hide (HX.out.below hb7)
    have HY := hide (HY.out.below hb7)
    have LST8 := hide hb7
    have SG8 := hide (below_trans SG6.out hb7)
    clear hb7
    go_wp2
    go_ret
    exact ⟨ret_int HF2.symm, SG8.out⟩
  · have HF2 := HF.out
    rw [if_pos h0] at HF2
    subst HF2
    have q : (r != 0) = true := by simpa using h0
    go_wp2
    all_goals (try (exfalso; go_light; simp_all; done))
    go_ret
    exact ⟨rfl, SG6.out⟩
theorem result_mergS {M : List Ent} {m : Int} {zs : List Ent} (h : (m = 2 ∧ resErr 0 M = true ∧ zs = []) ∨ (m = 0 ∧ resErr 0 M = false ∧ zs = keepF M)) : mergS M = (m, zs) := by
  rw [mergS]
  rcases h with ⟨rfl, h, rfl⟩ | ⟨rfl, h, rfl⟩
  · rw [if_pos h]
  · rw [if_neg (by rw [h]; simp)]
theorem mergeL_lenP {xs ys : List Ent} : (mergeL xs ys).length ≤ xs.length + ys.length := mergeL_len _ xs ys (Nat.le_refl _)
theorem OwnEnts.out {w w' : World} {S : Nat → Prop} {v : Value} {zs : List Ent} (h : OwnEnts w w' S v zs) (hS : ∀ k, S k → k < w'.heap.size) : ∃ A c, v = .slice A zs.length c ∧ In w' A zs.length c zs := h.sl hS
set_option maxRecDepth 100000 in
theorem add_ref6 (w : World) (A : Option Addr) (n c : Nat) (xs : List Ent) (hx : In w A n c xs) (A2 : Option Addr) (n2 c2 : Nat) (ys : List Ent) (hy : In w A2 n2 c2 ys) :
    Calls Tryz.prog 19 #[.slice A n c, .slice A2 n2 c2] w fun e w' => (∃ v, e = .returned (.tuple #[v, .int .i64 (addS xs ys).1]) ∧ OE w.heap.size w' v (addS xs ys).2) ∧ Below w.heap.size w w' := by
  have H1 := hide (addS_err (xs := xs) (ys := ys))
  have H2 := hide (addS_ok (xs := xs) (ys := ys))
  have H3 := hide (bothE_zero (xs := xs) (ys := ys)).1
  obtain ⟨R, hR⟩ : ∃ R, addS xs ys = R := ⟨_, rfl⟩
  rw [hR] at H1 H2 ⊢
  obtain ⟨E, hE⟩ : ∃ E, bothE xs ys = E := ⟨_, rfl⟩
  have HE := hide hE
  rw [hE] at H1 H2 H3
  clear hE hR
  have hnx := hx.len
  have hny := hy.len
  go_enter Tryz.func19, Tryz.ntmps19
  have HX := hide hx
  clear hx
  have HY := hide hy
  clear hy
  go_wp2_with fail
  refine (two_ents _ _ _ _ xs HX.out _ _ _ ys HY.out).mono ?_
  rintro e w9 ⟨rfl, hb9⟩
  have HX := hide (HX.out.below hb9)
  have HY := hide (HY.out.below hb9)
  have LST10 := hide hb9
  have SG10 := hide hb9
  clear hb9
  rw [HE.out]
  by_cases h0 : E = 0
  · have HRQ := hide (H2.out h0)
    obtain ⟨h1, h2⟩ := H3.out h0
    have h3 := bag_le h1
    have h4 := bag_le h2
    have HG1 := hide h1
    have HG2 := hide h2
    have HML := hide (mergeL_lenP (xs := xs) (ys := ys))
    have HMR : Hid (∀ x ∈ mergeL xs ys, x.row.length ≤ 4096) := hide fun x hx => by
      have := mergeF_rows (P := fun r => r.length ≤ 12) _ xs ys (bag_row h1) (bag_row h2) x hx
      omega
    subst h0
    have hsz := SG10.out.size
    clear h1 h2
    go_wp2_with fail
    refine (merge_ref _ _ _ _ _ _ _ xs ys HX.out HY.out (by omega) 65536 65536 (by omega) (by omega) (by omega) (by omega) (bag_bnd HG1.out) (bag_bnd HG2.out)).mono ?_
    rintro e w11 ⟨⟨v, rfl, ho⟩, hb11⟩
    have HX := hide (HX.out.below hb11)
    have HY := hide (HY.out.below hb11)
    have LST12 := hide hb11
    have SG12 := hide (below_trans SG10.out hb11)
    clear hb11
    obtain ⟨A6, c6, hv, hin⟩ := ho.sl (fun k hk => Nat.lt_of_lt_of_le hk LST12.out.size)
    subst hv
    have hml := HML.out
    have hsz2 := SG12.out.size
    clear ho
    generalize mergeL xs ys = M at *
    go_wp2_with fail
    refine (result_ref _ _ _ _ M hin (by omega) HMR.out).mono ?_
    rintro e w13 ⟨⟨v, m, zs, rfl, hf, hal⟩, hb13⟩
    have HX := hide (HX.out.below hb13)
    have HY := hide (HY.out.below hb13)
    have LST14 := hide hb13
    have SG14 := hide (below_trans SG12.out hb13)
    clear hb13
    have HR := hide (result_mergS hal)
    have HO := hide ((hf.ol LST14.out.size).rebase hsz2)
    clear hf hal
    obtain rfl := HRQ.out.trans HR.out
    go_wp2
    go_ret2
    exact ⟨⟨_, rfl, HO.out⟩, SG14.out⟩
  · obtain rfl := H1.out h0
    have q : (E != 0) = true := by simpa using h0
    go_wp2
    all_goals (try (exfalso; go_light; simp_all; done))
    go_ret2
    exact ⟨⟨_, rfl, OL.nil SG10.out.size⟩, SG10.out⟩
end Go.Proofs.YtlbhnfnecfllkaaGreat
