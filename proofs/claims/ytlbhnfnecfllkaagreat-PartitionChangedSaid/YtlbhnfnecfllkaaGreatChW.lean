/-
  warehouseworld.Change: a bag of changes that fit the columns.
-/
import Derived.Test.YtlbhnfnecfllkaaGreatTabP
namespace Go.Proofs.YtlbhnfnecfllkaaGreat
open Go.RowKit
set_option linter.unusedSimpArgs false
set_option linter.unusedVariables false

/-- The changes so far. -/
structure ChgAt (w W : World) (gb : Nat) (A : Option Addr) (n c : Nat) (l : List Int) (cols : List Col) (v : Value) (xs : List Ent) : Prop where
  ol : OL 63 w.heap.size (fun k => k ≠ gb) [65] W v xs
  ents : ∀ x ∈ xs, rowErr cols x.row = 0
  num : ∃ j, Num W gb A n c l j
  grown : w.grownBy W (some gb)
theorem ChgAt.step {w W W' : World} {gb : Nat} {A : Option Addr} {n c : Nat} {l : List Int} {cols : List Col} {v : Value} {xs : List Ent} {j : Nat} (h : ChgAt w W gb A n c l cols v xs) (hgb : gb < w.heap.size) (hg : W.grownBy W' (some gb)) (hn : Num W' gb A n c l j) : ChgAt w W' gb A n c l cols v xs :=
  ⟨h.ol.grownN hg (fun q => q rfl) hgb, h.ents, ⟨_, hn⟩, h.grown.trans hg⟩
theorem ChgAt.add {w W W' : World} {gb : Nat} {A : Option Addr} {n c : Nat} {l : List Int} {cols : List Col} {v v' : Value} {xs : List Ent} {x : Ent} (h : ChgAt w W gb A n c l cols v xs) (hgb : gb < w.heap.size) (hr : rowErr cols x.row = 0) (ho : OL 63 w.heap.size (fun k => k ≠ gb) [65] W' v' (xs ++ [x])) (hb : Below w.heap.size W W') (hg : W.grownBy W' v.ownBlock) : ChgAt w W' gb A n c l cols v' (xs ++ [x]) := by
  obtain ⟨j, hn⟩ := h.num
  refine ⟨ho, fun y hy => ?_, ⟨j, hn.low hb hgb⟩, grown_low h.grown hb⟩
  rcases List.mem_append.1 hy with hy | hy
  · exact h.ents y hy
  · simp at hy; subst hy; exact hr
theorem Off.entO {w : World} {gb : Nat} {A : Option Addr} {n c k : Nat} {xs : List Ent} (h : Off w gb A n c xs) (hk : k < n) : ∃ b off x, A = some ⟨b, off, none⟩ ∧ (b < w.heap.size ∧ b ≠ gb) ∧ Hid (xs.drop k = x :: xs.drop (k + 1)) ∧
    ∃ A' n' c', w.cell? ⟨b, off + k * 2, none⟩ = some (.slice A' n' c') ∧ w.cell? ⟨b, off + k * 2 + 1, none⟩ = some (.int .i64 x.count) ∧ Off w gb A' n' c' x.row ∧ I64 x.count := by
  obtain ⟨b, off, e, hS, hi⟩ := h.2.2.2.2 (by omega)
  have hkl : k < xs.length := by rw [h.1]; exact hk
  obtain ⟨cs, ⟨A', n', c', rfl, hs, hv⟩, hc⟩ := hi k hkl
  exact ⟨b, off, xs[k], e, hS, hide (List.drop_eq_getElem_cons hkl), A', n', c', hc 0 (by simp), hc 1 (by simp), hs, hv⟩
theorem offBS {w W : World} {gb : Nat} {A : Option Addr} {n c : Nat} {α : Type} [Rep α] {xs : List α} {T : List TypeId} (h : Off w gb A n c xs) (hg : w.grownBy W (some gb)) : Sl W (BS w.heap.size (fun k => k ≠ gb) T W) A n c xs :=
  (h.keep fun k (hk : k < w.heap.size ∧ k ≠ gb) => hg.block k hk.1 (fun e => hk.2 (by injection e))).mono fun k hk => .inl ⟨hk.2, hk.1⟩
theorem undrew_grown {w w' : World} {row : Option Nat} (h : w.drew.grownBy w' row) : w.grownBy w' row := (Below.grows ((Below.refl _ w).drew) row).trans h
set_option maxHeartbeats 8000000 in
set_option maxRecDepth 100000 in
theorem changeW_any (w : World) (gb : Nat) (A : Option Addr) (n c : Nat) (l : List Int) (i : Nat) (hN : Num w gb A n c l i) (A1 : Option Addr) (n1 c1 : Nat) (cols : List Col) (hc : Off w gb A1 n1 c1 cols) (hgood : ∀ x ∈ cols, x.good) (hn1 : n1 ≤ 12) (A2 : Option Addr) (n2 c2 : Nat) (old : List Ent) (ho : Off w gb A2 n2 c2 old) (hn2 : n2 ≤ 1000) (hcnt : ∀ x ∈ old, 1 ≤ x.count ∧ x.count ≤ 65536) (hfit : ∀ x ∈ old, rowErr cols x.row = 0) (m : Int) (hm0 : 0 ≤ m) (hm : m ≤ 1000) :
    Calls Tryz.prog 27 #[.slice A1 n1 c1, .slice A2 n2 c2, .pointer (some ⟨gb, 0, none⟩), .int .i64 m] w
      fun e w' => ∃ v xs zs q j, e = .returned v ∧ OE w.heap.size w' v zs ∧ (∀ x ∈ xs, rowErr cols x.row = 0) ∧ xs.length ≤ 2000 ∧ Normed xs q zs ∧ Num w' gb A n c l j ∧ w.grownBy w' (some gb) := by
  have hlow := hN.lt
  have hcl := hide hc.inn.len
  have HC := hide hc
  have HOLD := hide ho
  have q0 : IntKind.i64.wrap (m + 1) = m + 1 := IntWalk.i64_in _ (by omega)
  have HG0 : Hid (ChgAt w w gb A n c l cols (.slice none 0 0) []) := hide ⟨OL.nil (Nat.le_refl _), (fun x hx => by cases hx), ⟨_, hN⟩, World.grownBy.refl _ _⟩
  have hol := ho.inn.le
  clear hN hc ho
  go_enter Tryz.func27, Tryz.ntmps27
  go_wp2
  go_loopw [9, 10] (fun o q wr => ∃ (k : Nat) (xs : List Ent), k ≤ n2 ∧ q = .int .i64 k ∧ xs.length ≤ k ∧ ChgAt w wr gb A n c l cols o xs) (fun _ q _ => n2 - (RowKit.intOf q).toNat)
  case atStart => exact ⟨0, [], Nat.zero_le _, rfl, Nat.le_refl _, HG0.out⟩
  case round =>
    obtain ⟨k, xs, hk, rfl, hxl, hG⟩ := hrel
    have HG := hide hG
    obtain ⟨j2, hnum⟩ := hG.num
    clear hG
    by_cases hlt : k < n2
    · have k0 : (0 : Int) ≤ (k : Int) := by omega
      have k1 : (k : Int) < (n2 : Int) := by omega
      go_wp2_with fail
      refine (next_any wr gb A n c l j2 hnum 3 (by omega)).mono ?_
      rintro e w3 ⟨⟨x, j4, rfl, x0, x1, hn4⟩, hg4⟩
      have HN3 := hide hn4
      have HG3 := hide (HG.out.step hlow hg4 hn4)
      clear hnum hn4 hg4 x1
      obtain ⟨xb, hxb⟩ : ∃ xb, (x == 0) = xb := ⟨_, rfl⟩
      cases xb
      · go_wp2
        all_goals (try (exfalso; go_light; simp_all; done))
        go_roundw
        case rel => exact ⟨k + 1, xs, by omega, by go_num, by omega, HG3.out⟩
        case measure => simp [RowKit.intOf]; omega
      · obtain ⟨b, off, p, hA2, ⟨hBl, hBg⟩, HX, Ax, An, Ac, e0, e1, e2, e3⟩ := HOLD.out.entO hlt
        subst hA2
        have hpm := mem_of_drop HX.out
        have hpc := hcnt p hpm
        have HPR := hide (hfit p hpm)
        have E0 := hide e0
        have E1 := hide e1
        have HE2 := hide e2
        have HBG : Hid (some b ≠ some gb) := hide fun e => hBg (by injection e)
        replace e0 := HG3.out.grown.cell (a := ⟨b, off + k * 2, none⟩) e0 HBG.out
        replace e1 := HG3.out.grown.cell (a := ⟨b, off + k * 2 + 1, none⟩) e1 HBG.out
        have hBr := lt_of_cell e0
        have hx63 : xs.length + 1 ≤ maxLen := by simp only [maxLen]; omega
        have hx64 : (xs.length + 1) * 32 ≤ 140737488355328 := by omega
        clear e2
        go_wp2
        go_region_held3 (fun V => V.cell? ⟨b, off + k * 2, none⟩ = some (.slice Ax An Ac) ∧ V.cell? ⟨b, off + k * 2 + 1, none⟩ = some (.int .i64 p.count))
          (first | exact ⟨HG9.out.grown.cell (a := ⟨b, off + k * 2, none⟩) E0.out HBG.out, HG9.out.grown.cell (a := ⟨b, off + k * 2 + 1, none⟩) E1.out HBG.out⟩ | exact ⟨HG5.out.grown.cell (a := ⟨b, off + k * 2, none⟩) E0.out HBG.out, HG5.out.grown.cell (a := ⟨b, off + k * 2 + 1, none⟩) E1.out HBG.out⟩ | exact ⟨e0, e1⟩ | go_keep)
          (first
            | (go_at_call 52; refine (next_any _ gb A n c l j4 (by exact HN3.out.below (Below.refl _ _).drew) p.count (by omega)).mono ?_; rintro e w5 ⟨⟨d, j5, rfl, d0, d1, hn5⟩, hg5⟩; have d1 := d1 (by omega); have dw : IntKind.i64.wrap (-1 - d) = -1 - d := IntWalk.i64_in _ (by omega); have HG5 := hide (HG3.out.step hlow (undrew_grown hg5) hn5); have x0' := HG5.out.grown.cell (a := ⟨b, off + k * 2, none⟩) E0.out HBG.out; have x1' := HG5.out.grown.cell (a := ⟨b, off + k * 2 + 1, none⟩) E1.out HBG.out; have hBr5 := lt_of_cell x0'; have h64 : I64 (-1 - d) := ⟨(by omega), (by omega)⟩; clear hn5 hg5)
            | (refine step_push_OL _ rfl _ _ _ rfl elem_ents (by decide) w5 _ rfl HG5.out.ol (by simp [Act.eval, Act.put]) (by simp [Act.eval, Act.put]) ⟨p.row, -1 - d⟩ ⟨_, _, _, rfl, offBS HE2.out HG5.out.grown, h64⟩ hx63 hx64 ?_; intro v9 w9 ho9 hb9 hg9 hat9; have HG9 := hide (HG5.out.add hlow (x := ⟨p.row, -1 - d⟩) HPR.out ho9 hb9 hg9); clear ho9 hb9 hg9 hat9))
        go_wp2
        go_roundw
        case rel => exact ⟨k + 1, _, by omega, by go_num, by simp; omega, HG9.out⟩
        case measure => simp [RowKit.intOf]; omega
    · go_wp2_with fail
      refine (next_any wr gb A n c l j2 hnum (m + 1) (by omega)).mono ?_
      rintro e w3 ⟨⟨s, j4, rfl, s0, s1, hn4⟩, hg4⟩
      have s1 := s1 (by omega)
      have HG3 := hide (HG.out.step hlow hg4 hn4)
      obtain ⟨s, rfl⟩ : ∃ s' : Nat, s = (s' : Int) := ⟨s.toNat, by omega⟩
      have s2 : s ≤ 1000 := by omega
      clear hnum hn4 hg4 s0 s1
      go_upto_region 8 with (fail)
      go_wp2
      go_loopw [9, 11] (fun o q wr => ∃ (k : Nat) (xs : List Ent), q = .int .i64 k ∧ xs.length + k ≤ 2000 ∧ ChgAt w wr gb A n c l cols o xs) (fun _ q _ => (RowKit.intOf q).toNat)
      case atStart => exact ⟨s, xs, rfl, by omega, HG3.out⟩
      case round =>
        obtain ⟨k, xs, rfl, hlen, hG⟩ := hrel
        have HG := hide hG
        obtain ⟨j2, hnum⟩ := hG.num
        have hszr := hG.grown.size
        clear hG
        by_cases hk0 : 0 < k
        · have k0 : (0 : Int) < (k : Int) := by omega
          have k2 : IntKind.i64.wrap ((k : Int) - 1) = (k : Int) - 1 := IntWalk.i64_in _ (by omega)
          go_wp2_with fail
          refine (rowW_any wr gb A n c l j2 hnum A1 n1 c1 cols (HC.out.grown HG.out.grown) hgood (by omega)).mono ?_
          rintro e w2 ⟨B, d, vs, rfl, hR⟩
          obtain ⟨j3, hn3⟩ := hR.num
          have HR := hide hR
          have HG2 := hide (HG.out.step hlow hR.grown hn3)
          clear hR hnum hn3
          have HSL : Hid (Sl w2 (BS w.heap.size (fun k => k ≠ gb) [65] w2) B n1 d vs) := hide (by
            have hl := HR.out.len
            obtain ⟨A', c', hv, hs, _⟩ := sl_of_own (S := fun _ => False) (T := BS w.heap.size (fun k => k ≠ gb) [65] w2) HR.out.stk.own (cells_flat w2 _ HR.out.stk.ok) (fun _ h => h.elim) rfl (fun g hg ht => .inr ⟨Nat.le_trans hszr hg, _, by simp, ht⟩)
            injection hv with h1 _ h3
            subst h1 h3
            rw [hl] at hs
            exact hs)
          have HENT : Hid (rowErr cols vs = 0) := hide (tent_row (cols := cols) (x := ⟨vs, 1⟩) ⟨by show vs.length = _; rw [HR.out.len, hcl.out], fun i hi => HR.out.fits i (by rw [← hcl.out]; exact hi), by show (1 : Int) ≤ 1; decide, by show (1 : Int) ≤ 2; decide⟩)
          go_wp2_with (at_builtin; refine wpList_push_OL _ rfl _ _ _ rfl elem_ents (by decide) _ _ rfl HG2.out.ol rfl rfl ⟨vs, 1⟩ ⟨_, _, _, rfl, HSL.out, ⟨(by show (-9223372036854775808 : Int) ≤ 1; decide), (by show (1 : Int) ≤ 9223372036854775807; decide)⟩⟩ (by simp only [maxLen]; omega) (by omega) ?_; intro v9 w9 ho9 hb9 hg9 hat9)
          have HG9 := hide (HG2.out.add hlow (x := ⟨vs, 1⟩) HENT.out ho9 hb9 hg9)
          clear ho9 hb9 hg9 hat9
          go_wp2
          go_roundw
          case rel => exact ⟨k - 1, _, by go_num, by simp; omega, HG9.out⟩
          case measure => simp [RowKit.intOf]; omega
        · have hk1 : k = 0 := by omega
          subst hk1
          obtain ⟨A7, c7, hv, hin⟩ := HG.out.ol.inn
          subst hv
          go_wp2_with fail
          refine (normalize_ref wr A7 _ c7 xs hin (by omega)).mono ?_
          rintro e w2 ⟨⟨v, q, zs, rfl, hf, hn⟩, hb2⟩
          have HF := hide ((hf.ol hb2.size).rebase hszr)
          have HN := hide hn
          have HB2 := hide hb2
          have HNU := hide hnum
          clear hf hn hb2 hnum hin
          go_wp2
          go_ret
          exact ⟨v, xs, zs, q, j2, rfl, HF.out, HG.out.ents, by omega, HN.out, HNU.out.below HB2.out, HG.out.grown.trans (Below.grows HB2.out _)⟩
end Go.Proofs.YtlbhnfnecfllkaaGreat
