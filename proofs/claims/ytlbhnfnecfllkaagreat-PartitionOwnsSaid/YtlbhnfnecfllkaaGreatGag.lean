/-
  partition.Split once more: what its parts lie in. (Printed by gen_splf.py.) warehouseworld.Spoil: what it leaves. warehouseworld.Copy: a copy in memory of its own. warehouseref22.CopyEntries, days, Split. warehouseref22.Split.
-/
import Derived.Test.YtlbhnfnecfllkaaGreatSplP
import Derived.Test.YtlbhnfnecfllkaaGreatGad
import Derived.Test.YtlbhnfnecfllkaaGreatGaf
import Derived.Test.YtlbhnfnecfllkaaGreatDayR
import Derived.Test.YtlbhnfnecfllkaaGreatBtw
namespace Go.Proofs.YtlbhnfnecfllkaaGreat
open Go.RowKit
set_option linter.unusedSimpArgs false
set_option linter.unusedVariables false

theorem FreshEnts.same {w0 w w1 : World} {v : Value} {zs : List Ent} (h : FreshEnts w0 w v zs) (hs : ∀ k, SP w k → w1.heap[k]? = w.heap[k]?) : FreshEnts w0 w1 v zs := by
  obtain ⟨cs, a, b⟩ := h
  refine ⟨cs, own_keepO a fun g hg => hs g (.inl (own_tyO a hg).2), (b.keep fun k hk => hs k (.inr hk.2)).mono fun k hk => ⟨hk.1, ?_⟩⟩
  obtain ⟨c, hc⟩ := hk.2
  exact ⟨c, (hs k (.inr hk.2)).trans hc⟩
/-- The cells of partitions, each with a row of entries of the call's own. -/
def PCells (w0 w : World) : List Value → List Partn → Prop
  | cs, [] => cs = []
  | cs, p :: ps => ∃ u c1, cs = [.int .i64 p.day, u] ++ c1 ∧ FreshEnts w0 w u p.rows ∧ I64 p.day ∧ PCells w0 w c1 ps
theorem PCells.same {w0 w w1 : World} (hs : ∀ k, SP w k → w1.heap[k]? = w.heap[k]?) : ∀ {ps : List Partn} {cs : List Value}, PCells w0 w cs ps → PCells w0 w1 cs ps
  | [], _, h => h
  | p :: ps, _, ⟨u, c1, e, h1, h2, h3⟩ => ⟨u, c1, e, h1.same hs, h2, PCells.same hs h3⟩
theorem PCells.app {w0 w : World} {qs : List Partn} {ds : List Value} (hq : PCells w0 w ds qs) : ∀ {ps : List Partn} {cs : List Value}, PCells w0 w cs ps → PCells w0 w (cs ++ ds) (ps ++ qs)
  | [], _, h => by rw [show _ = [] from h]; exact hq
  | p :: ps, _, ⟨u, c1, e, h1, h2, h3⟩ => ⟨u, c1 ++ ds, by rw [e, List.append_assoc], h1, h2, PCells.app hq h3⟩
/-- Partitions in a slice of the call's own. -/
def PartsF (lo : Nat) (w0 w : World) (v : Value) (ps : List Partn) : Prop := ∃ cs, w.ownsRow lo 44 2 v ps.length cs ∧ PCells w0 w cs ps
theorem PartsF.nil (lo : Nat) (w0 w : World) : PartsF lo w0 w (.slice none 0 0) [] := ⟨[], World.ownsRow_nil _ _ _ _, rfl⟩
theorem PartsF.form {lo : Nat} {w0 w : World} {v : Value} {ps : List Partn} (h : PartsF lo w0 w v ps) : ∃ A c, v = .slice A ps.length c := by
  obtain ⟨cs, h1, _⟩ := h
  rcases h1.2 with ⟨rfl, hz⟩ | ⟨g, cap, cur, rfl, _⟩
  · exact ⟨none, 0, by rw [hz]⟩
  · exact ⟨_, _, rfl⟩
theorem PartsF.lower {lo lo' : Nat} {w0 w : World} {v : Value} {ps : List Partn} (h : PartsF lo w0 w v ps) (hl : lo' ≤ lo) : PartsF lo' w0 w v ps := by
  obtain ⟨cs, h1, h2⟩ := h
  refine ⟨cs, ⟨h1.1, ?_⟩, h2⟩
  rcases h1.2 with h3 | ⟨g, cap, cur, rfl, hg, r⟩
  · exact .inl h3
  · exact .inr ⟨g, cap, cur, rfl, Nat.le_trans hl hg, r⟩
theorem PartsF.add {lo : Nat} {w00 w0 w1 : World} {v v1 : Value} {ps : List Partn} {cs : List Value} {p : Partn} {A : Option Addr} {n c : Nat} (hown : w0.ownsRow lo 44 2 v ps.length cs) (hc : PCells w00 w0 cs ps)
    (hx : FreshEnts w00 w0 (.slice A n c) p.rows) (h64 : I64 p.day) (hs : ∀ k, k < w0.heap.size → v.ownBlock ≠ some k → w1.heap[k]? = w0.heap[k]?)
    (hown1 : w1.ownsRow lo 44 2 v1 (ps.length + 1) (cs ++ [.int .i64 p.day, .slice A n c])) : PartsF lo w00 w1 v1 (ps ++ [p]) := by
  have h1 : ∀ k, SP w0 k → w1.heap[k]? = w0.heap[k]? := fun k hk => hs k hk.lt fun e => by
    have h2 := (own_tyO hown e).2
    rcases hk with hk | hk
    · exact TyAt.ne h2 hk (by decide) rfl
    · exact TyAt.ne h2 hk (by decide) rfl
  exact ⟨_, by rw [List.length_append]; exact hown1, PCells.app (qs := [p]) ⟨_, [], by simp, hx.same h1, h64, rfl⟩ (hc.same h1)⟩
theorem PCells.get {w0 w : World} : ∀ {ps : List Partn} {cs : List Value}, PCells w0 w cs ps → ∀ i, (h : i < ps.length) → ∃ u, cs[i * 2]? = some (.int .i64 ps[i].day) ∧ cs[i * 2 + 1]? = some u ∧ FreshEnts w0 w u ps[i].rows ∧ I64 ps[i].day
  | [], _, _, i, h => absurd h (by simp)
  | p :: ps, _, ⟨u, c1, e, h1, h2, h3⟩, 0, _ => ⟨u, by rw [e]; rfl, by rw [e]; rfl, h1, h2⟩
  | p :: ps, _, ⟨u, c1, e, h1, h2, h3⟩, i + 1, h => by
      obtain ⟨u', a, b, c, d⟩ := PCells.get h3 i (by simpa using h)
      refine ⟨u', ?_, ?_, by simpa using c, by simpa using d⟩
      · rw [e, show (i + 1) * 2 = i * 2 + 2 from by omega]; simpa using a
      · rw [e, show (i + 1) * 2 + 1 = i * 2 + 1 + 2 from by omega]; simpa using b
set_option maxHeartbeats 4000000 in
set_option maxRecDepth 100000 in
theorem splitF_any (w : World) (A1 : Option Addr) (n1 c1 : Nat) (cols : List Col) (hc : In w A1 n1 c1 cols) (col : ByteArray) (A : Option Addr) (n c : Nat) (z : Zone) (hx : In w A n c z.shifts) (ho : I64 z.offset) (A2 : Option Addr) (n2 c2 : Nat) (rows : List Ent) (hr : In w A2 n2 c2 rows) :
    Calls Tryz.prog 12 #[.slice A1 n1 c1, .string col, .agg #[.string z.name, .int .i64 z.offset, .slice A n c], .slice A2 n2 c2] w
      fun e w' => (∃ B m d ps, e = .returned (.tuple #[.slice B m d, .int .i64 (schemeErr cols col z rows)]) ∧ PartsF w.heap.size w w' (.slice B m d) ps ∧ ps.length = m ∧ (schemeErr cols col z rows ≠ 0 → ps = []) ∧ (schemeErr cols col z rows = 0 → IsSplit (findS cols col z).1 z rows ps)) ∧ Below w.heap.size w w' := by
  obtain ⟨i0, hi, hz0, hz1, hz2⟩ := info_parts part_info
  have HFIT := hide (scheme_fit (cols := cols) (col := col) (z := z) (rows := rows))
  obtain ⟨E, hE⟩ : ∃ E, schemeErr cols col z rows = E := ⟨_, rfl⟩
  have HEE := hide hE
  rw [hE]
  clear hE
  go_enter Tryz.func12, Tryz.ntmps12
  go_wp2_with fail
  refine (checkP_any _ _ _ _ cols (hc.below below_alloc) col A n c z (hx.below below_alloc) ho _ _ _ rows (hr.below below_alloc)).mono ?_
  rintro e w1 ⟨rfl, hb1⟩
  have hbb := below_trans below_alloc hb1
  have g0 := bat (b := w.heap.size) (o := 0) (v := .string z.name) hb1 (by simp) (by simp [go_sem])
  have g1 := bat (b := w.heap.size) (o := 1) (v := .int .i64 z.offset) hb1 (by simp) (by simp [go_sem])
  have g2 := bat (b := w.heap.size) (o := 2) (v := .slice A n c) hb1 (by simp) (by simp [go_sem])
  clear hb1
  rw [HEE.out]
  by_cases h0 : E = 0
  · subst h0
    obtain ⟨hf1, hf2, hf3⟩ := HFIT.out HEE.out
    generalize hat : (findS cols col z).1 = at_ at *
    have hn2 := hr.len
    have HF1 := hide hf1
    have HF2 := hide hf2
    clear hf1 hf2
    go_wp2_with fail
    refine (byDay_any _ A n c z (hx.below hbb) ho _ _ _ rows (hr.below hbb) (by omega) at_ HF1.out HF2.out).mono ?_
    rintro e w2 ⟨⟨mb, rfl, hm⟩, hb2⟩
    have HBB2 := hide (below_trans hbb hb2)
    have HM := hide (hm.rebase hbb.size)
    clear hm hb2 g0 g1 g2
    go_wp2_with fail
    refine (keys_call _ _).mono ?_
    rintro e w3 ⟨rfl, rfl⟩
    obtain ⟨D, f, hown, _, _, _, hkeys, _⟩ := HM.out
    have hsz := size_le hown
    go_wp2_with fail
    refine (sorted_call mb _ D RV w2 hown (by unfold maxLen; omega) (by omega)).mono ?_
    rintro e w4 ⟨v4, ss, rfl, hp, hrow, hb4⟩
    obtain ⟨ks1, ks2, ks3⟩ := sorted_asc hown Tryz.underlying3 hp
    have hkl : (ss.mergeSort fun x y => decide (x ≤ y)).length = ss.length := List.length_mergeSort _
    generalize (ss.mergeSort fun x y => decide (x ≤ y)) = ks at *
    have hb4' : Below (w2.alloc (.cells #[.map (some mb)] 73)).heap.size (w2.alloc (.cells #[.map (some mb)] 73)) w4 := by rw [World.size_alloc]; exact hb4
    have HB24 := hide (below_trans below_alloc hb4')
    have hk4096 : ks.length ≤ 4096 := by
      rw [hkl, hp.length_eq]
      have : (intKeys D).length = Maps.size D := by
        cases D <;> simp [intKeys, Maps.size]
      omega
    obtain ⟨B4, d4, rfl, hk4, _⟩ := sl_of_own (S := fun _ => False) (T := fun k => k < w4.heap.size) hrow (by rw [← flat_ints]; exact cells_flat w4 _ ks3) (fun _ h => h.elim) hkl (fun g _ hg => hg.lt)
    have HK4 : Hid (In w4 B4 ss.length d4 ks) := hide hk4
    have HM4 := hide (HM.out.below HB24.out)
    have HASC := hide ks1
    have HMEM : Hid (∀ d, d ∈ ks ↔ d ∈ daysR at_ z rows) := hide fun d => (ks2 d).trans (hkeys d)
    have HI64 := hide ks3
    have HBB4 := hide (below_trans HBB2.out HB24.out)
    have hss : ss.length ≤ 4096 := by omega
    generalize ss.length = m at *
    clear hp hrow hb4 hb4' hk4 ks1 ks2 ks3 hown hkeys
    go_wp2
    go_loopw [13, 35] (fun o i wr => ∃ k : Nat, k ≤ m ∧ i = .int .i64 k ∧ PartsF w4.heap.size w wr o ((ks.take k).map fun d => ⟨d, ofDay at_ z rows d⟩) ∧ Below w4.heap.size w4 wr) (fun _ i _ => m - (RowKit.intOf i).toNat)
    case atStart => exact ⟨0, Nat.zero_le _, rfl, PartsF.nil _ _ _, Below.refl _ _⟩
    case round =>
      obtain ⟨k, hk, rfl, ho5, hb5⟩ := hrel
      have HO5 := hide ho5
      have HB5 := hide hb5
      clear ho5 hb5
      by_cases hlt : k < m
      · obtain ⟨b, off, x, rfl, hBb, HX, e0, e1⟩ := (HK4.out.below HB5.out).int hlt
        have k0 : (0 : Int) ≤ (k : Int) := by omega
        have k1 : (k : Int) < (m : Int) := by omega
        obtain ⟨v, hlook, hf⟩ := (HM4.out.below HB5.out).get Tryz.underlying73 Tryz.underlying3 (Tryz.zeroValue26 wr) (d := x) (HI64.out x (mem_of_drop HX.out))
        obtain ⟨A6, c6, rfl, hs6⟩ := hf.sp
        have HFR := hide hf
        obtain ⟨cs, hown, hcells⟩ := HO5.out
        have hl5 : ((ks.take k).map fun d => (⟨d, ofDay at_ z rows d⟩ : Partn)).length = k := by rw [List.length_map, List.length_take]; omega
        rw [hl5] at hown
        have HOW := hide hown
        have HCE := hide hcells
        have HL5 := hide hl5
        clear hl5 hown hcells hs6 hf
        have hszr := HB5.out.size
        have HLE : Hid ((rows.filter fun y => dayRow at_ z y.row == x).length ≤ 1048576) := hide (Nat.le_trans (List.length_filter_le _ _) (by omega))
        have HOF : Hid (ofDay at_ z rows x = rows.filter fun y => dayRow at_ z y.row == x) := hide rfl
        generalize (rows.filter fun y => dayRow at_ z y.row == x) = zs at *
        have h64 := HI64.out x (mem_of_drop HX.out)
        go_wp2_with (at_builtin; refine wpList_append_src _ rfl (.tmp 39) (.tmp 45) 31 rfl w4.heap.size 44 i0 _ 2 32 Tryz.underlying31 hi hz0 hz1 hz2 rfl (by decide) u13 k cs rfl (HOW.out.alloc _) (some ⟨wr.heap.size, 0, none⟩) 1 1 [.int .i64 x, .slice A6 zs.length c6] rfl (by intro h; cases h) (src_two (by simp [go_sem]) (by simp [go_sem])) one_part (by simp only [maxLen]; omega) (by omega) (by simp; omega) ?_; intro v1 w7 hown1 hg1 hat1)
        have HG1 := hide hg1
        have HO7 : Hid (PartsF w4.heap.size w w7 v1 (((ks.take k).map fun d => (⟨d, ofDay at_ z rows d⟩ : Partn)) ++ [⟨x, zs⟩])) := hide (PartsF.add (p := ⟨x, zs⟩) (by rw [HL5.out]; exact HOW.out.alloc _) (HCE.out.same fun k hk => below_alloc.block k hk.lt) (HFR.out.same fun k hk => below_alloc.block k hk.lt) h64 (fun j hj hne => hg1.block j hj (fun e => hne e.symm)) (by rw [HL5.out]; exact hown1))
        have HB7 : Hid (Below w4.heap.size w4 w7) := hide ((HB5.out.alloc hszr _).grown hg1 (by simp; omega) (fun j e => (HOW.out.lt j e).1))
        clear hown1 hg1 hat1
        go_wp2
        go_roundw
        case rel =>
          refine ⟨k + 1, by omega, by go_num, ?_, HB7.out⟩
          rw [take_snoc HX.out, List.map_append, List.map_cons, List.map_nil, HOF.out]
          exact HO7.out
        case measure => simp [RowKit.intOf]; omega
      · have HF : Hid (ks.take k = ks) := hide (List.take_of_length_le (by omega))
        have HO6 := HO5.out
        rw [HF.out] at HO6
        obtain ⟨A6, c6, hv⟩ := HO6.form
        have HPL : Hid ((ks.map fun d => (⟨d, ofDay at_ z rows d⟩ : Partn)).length = m) := hide (by rw [List.length_map, HK4.out.len])
        rw [HPL.out] at hv
        subst hv
        have HIN := hide (HO6.lower (by have := HBB4.out.size; exact this))
        clear HO6
        go_wp2
        go_ret2
        exact ⟨⟨A6, _, c6, rfl, _, HIN.out, HPL.out, ⟨ks, HASC.out, HMEM.out, rfl⟩⟩, below_trans HBB4.out HB5.out⟩
  · have q : (E != 0) = true := by simpa using h0
    have HE := hide h0
    clear h0
    go_wp2
    all_goals (try (exfalso; go_light; simp_all; done))
    go_ret2
    exact ⟨⟨none, 0, 0, [], rfl, PartsF.nil _ _ _, rfl, fun _ => rfl, fun h => absurd h HE.out⟩, hbb⟩
end Go.Proofs.YtlbhnfnecfllkaaGreat

namespace Go.Proofs.YtlbhnfnecfllkaaGreat
open Go.RowKit
set_option linter.unusedSimpArgs false
set_option linter.unusedVariables false

/-- Blocks from lo to hi may have been spoilt: their sizes, and the rows of entries, are as they were. -/
structure Spl (lo hi : Nat) (w w' : World) : Prop where
  below : Below lo w w'
  size : w'.heap.size = w.heap.size
  out : ∀ k : Nat, hi ≤ k → w'.heap[k]? = w.heap[k]?
  typed : ∀ (k : Nat) (cur : Array Value) (t : TypeId), w.heap[k]? = some (.cells cur t (0, 0)) → ∃ cur' : Array Value, w'.heap[k]? = some (.cells cur' t (0, 0)) ∧ cur'.size = cur.size ∧ (t = 63 → ∀ j, cur'[j * 2]? = cur[j * 2]?) ∧ (t ≠ 63 → t ≠ 65 → cur' = cur)
theorem Spl.refl (lo hi : Nat) (w : World) : Spl lo hi w w := ⟨Below.refl _ _, rfl, fun _ _ => rfl, fun k cur t h => ⟨cur, h, rfl, fun _ _ => rfl, fun _ _ => rfl⟩⟩
theorem Spl.trans {lo hi : Nat} {a b c : World} (h : Spl lo hi a b) (h' : Spl lo hi b c) : Spl lo hi a c := by
  refine ⟨h.below.trans h'.below, h'.size.trans h.size, fun k hk => (h'.out k hk).trans (h.out k hk), fun k cur t hk => ?_⟩
  obtain ⟨c1, e1, s1, n1, o1⟩ := h.typed k cur t hk
  obtain ⟨c2, e2, s2, n2, o2⟩ := h'.typed k c1 t e1
  exact ⟨c2, e2, s2.trans s1, fun q j => (n2 q j).trans (n1 q j), fun q q' => (o2 q q').trans (o1 q q')⟩
theorem Spl.drewN {lo hi : Nat} {a b : World} (h : Spl lo hi a b) (n : Nat) : Spl lo hi a (b.drewN n) := ⟨⟨h.below.os, h.below.tape, h.below.output, h.below.size, h.below.block⟩, h.size, h.out, h.typed⟩
theorem Spl.drew {lo hi : Nat} {a b : World} (h : Spl lo hi a b) : Spl lo hi a b.drew := h.drewN 1
theorem Spl.set {lo hi : Nat} {a w : World} (h : Spl lo hi a w) {b o : Nat} {t : TypeId} (ht : TyAt w t b) (h1 : lo ≤ b) (h2 : b < hi) (hto : t = 65 ∨ (t = 63 ∧ o % 2 = 1)) (v : Value) : Spl lo hi a (w.setCell ⟨b, o, none⟩ v) := by
  refine h.trans ⟨(Below.refl _ _).setCell h1 _, by simp [World.setCell], fun k hk => Below.heap_setCell _ _ _ _ (by show k ≠ b; omega), fun k cur t' hk => ?_⟩
  by_cases hg : k = b
  · subst hg
    obtain ⟨c, hc⟩ := ht
    rw [hc] at hk
    injection hk with hk
    injection hk with e1 e2
    subst e1 e2
    refine ⟨c.setIfInBounds o v, by simp [World.setCell, Array.getElem?_modify, hc], by simp, fun q j => ?_, fun q q' => ?_⟩
    · rw [Array.getElem?_setIfInBounds]
      rw [if_neg (by
        rcases hto with e | ⟨_, e⟩
        · subst e; exact absurd q (by decide)
        · omega)]
    · rcases hto with e | ⟨e, _⟩
      · exact absurd e q'
      · exact absurd e q
  · exact ⟨cur, by rw [Below.heap_setCell _ _ _ _ (show k ≠ b from hg)]; exact hk, rfl, fun _ _ => rfl, fun _ _ => rfl⟩
theorem Spl.ty {lo hi : Nat} {w w' : World} (h : Spl lo hi w w') {t : TypeId} {b : Nat} (ht : TyAt w t b) : TyAt w' t b := by
  obtain ⟨c, hc⟩ := ht
  obtain ⟨c', hc', _⟩ := h.typed b c t hc
  exact ⟨c', hc'⟩
/-- A row of values that can be spoilt. -/
def ShapeV (lo hi : Nat) (w : World) (A : Option Addr) (m : Nat) : Prop := 0 < m → ∃ b off, A = some ⟨b, off, none⟩ ∧ lo ≤ b ∧ b < hi ∧ ∃ cur : Array Value, w.heap[b]? = some (.cells cur 65 (0, 0)) ∧ off + m * 3 ≤ cur.size
/-- Entries that can be spoilt. -/
def ShapeE (lo hi : Nat) (w : World) (A : Option Addr) (n : Nat) : Prop := 0 < n → ∃ g, A = some ⟨g, 0, none⟩ ∧ lo ≤ g ∧ g < hi ∧ ∃ cur : Array Value, w.heap[g]? = some (.cells cur 63 (0, 0)) ∧ n * 2 ≤ cur.size ∧
  ∀ i, i < n → ∃ A' m c', cur[i * 2]? = some (.slice A' m c') ∧ m ≤ 9223372036854775807 ∧ ShapeV lo hi w A' m
theorem ShapeV.spl {lo hi lo' hi' : Nat} {w w' : World} {A : Option Addr} {m : Nat} (h : ShapeV lo hi w A m) (hs : Spl lo' hi' w w') : ShapeV lo hi w' A m := fun h0 => by
  obtain ⟨b, off, e, h1, h2, cur, hc, hl⟩ := h h0
  obtain ⟨cur', hc', hz, _⟩ := hs.typed b cur _ hc
  exact ⟨b, off, e, h1, h2, cur', hc', by omega⟩
theorem ShapeE.spl {lo hi lo' hi' : Nat} {w w' : World} {A : Option Addr} {n : Nat} (h : ShapeE lo hi w A n) (hs : Spl lo' hi' w w') : ShapeE lo hi w' A n := fun h0 => by
  obtain ⟨g, e, h1, h2, cur, hc, hl, hi⟩ := h h0
  obtain ⟨cur', hc', hz, hE, _⟩ := hs.typed g cur _ hc
  refine ⟨g, e, h1, h2, cur', hc', by omega, fun i hin => ?_⟩
  obtain ⟨A', m, c', a1, a2, a3⟩ := hi i hin
  exact ⟨A', m, c', by rw [hE rfl]; exact a1, a2, a3.spl hs⟩
theorem ShapeV.below {lo hi : Nat} {w w' : World} {A : Option Addr} {m : Nat} (h : ShapeV lo hi w A m) (hb : Below w.heap.size w w') : ShapeV lo hi w' A m := fun h0 => by
  obtain ⟨b, off, e, h1, h2, cur, hc, hl⟩ := h h0
  exact ⟨b, off, e, h1, h2, cur, (hb.block b (TyAt.lt ⟨cur, hc⟩)).trans hc, hl⟩
theorem ShapeE.below {lo hi : Nat} {w w' : World} {A : Option Addr} {n : Nat} (h : ShapeE lo hi w A n) (hb : Below w.heap.size w w') : ShapeE lo hi w' A n := fun h0 => by
  obtain ⟨g, e, h1, h2, cur, hc, hl, hi⟩ := h h0
  refine ⟨g, e, h1, h2, cur, (hb.block g (TyAt.lt ⟨cur, hc⟩)).trans hc, hl, fun i hin => ?_⟩
  obtain ⟨A', m, c', a1, a2, a3⟩ := hi i hin
  exact ⟨A', m, c', a1, a2, a3.below hb⟩
theorem OL.shape {B : Nat} {w : World} {A : Option Addr} {n c : Nat} {xs : List Ent} (h : OL 63 B (fun _ => False) [65] w (.slice A n c) xs) : ShapeE B w.heap.size w A n := fun h0 => by
  obtain ⟨cs, h1, h2⟩ := h.own
  rcases h1.2 with ⟨e, hz⟩ | ⟨g, cap, cur, e, hg, hh, hnc, _, hsz, htk⟩
  · injection e with _ e2 _
    omega
  · injection e with e1 e2 e3
    subst e1 e2 e3
    refine ⟨g, rfl, hg, (Array.getElem?_eq_some_iff.1 hh).1, cur, hh, by rw [hsz]; exact Nat.mul_le_mul_right _ hnc, fun i hi => ?_⟩
    obtain ⟨ci, ⟨A', m, c', rfl, hs, h64⟩, hcc⟩ := h2.get i hi
    refine ⟨A', m, c', ?_, by have := hs.2.1; have := hs.2.2.1; omega, fun hm => ?_⟩
    · have h3 := hcc 0 (by simp)
      rw [← htk, List.getElem?_take] at h3
      split at h3
      · rw [← Array.getElem?_toList]; exact h3
      · cases h3
    · obtain ⟨b, off, eb, hb, hat⟩ := hs.2.2.2.2 hm
      rcases hb with ⟨hb, _⟩ | ⟨hb, t, ht, cu, hcu⟩
      · cases hb
      · rw [List.mem_singleton] at ht
        subst ht
        refine ⟨b, off, eb, hb, (Array.getElem?_eq_some_iff.1 hcu).1, cu, hcu, ?_⟩
        have hlen := hs.1
        obtain ⟨cv, hr, hj⟩ := hat (m - 1) (by omega)
        have hl3 : cv.length = 3 := Rep.len hr
        have h5 := hj 2 (by omega)
        rw [cell_of_row w b _ cu 65 (0, 0) hcu] at h5
        have h6 := (Array.getElem?_eq_some_iff.1 h5).1
        have h7 : (m - 1) * Rep.size Val + 3 = m * 3 := by
          show (m - 1) * 3 + 3 = m * 3
          omega
        omega
theorem shape_row {lo hi : Nat} {w : World} {g o n k : Nat} (h : ShapeE lo hi w (some ⟨g, o, none⟩) n) (hk : k < n) : o = 0 ∧ lo ≤ g ∧ g < hi ∧ TyAt w 63 g ∧ ∃ A' m c' u, w.cell? ⟨g, o + k * 2, none⟩ = some (.slice A' m c') ∧ w.cell? ⟨g, o + k * 2 + 1, none⟩ = some u ∧ m ≤ 9223372036854775807 ∧ ShapeV lo hi w A' m := by
  obtain ⟨g', e, h1, h2, cur, hc, hl, hi⟩ := h (by omega)
  injection e with e
  injection e with e1 e2
  subst e1 e2
  obtain ⟨A', m, c', a1, a2, a3⟩ := hi k hk
  refine ⟨rfl, h1, h2, ⟨cur, hc⟩, A', m, c', cur[k * 2 + 1]'(by omega), ?_, ?_, a2, a3⟩
  · rw [cell_of_row w g _ cur _ (0, 0) hc, Nat.zero_add]; exact a1
  · rw [cell_of_row w g _ cur _ (0, 0) hc, Nat.zero_add, Array.getElem?_eq_getElem (by omega)]
theorem shape_some {lo hi : Nat} {w : World} {A : Option Addr} {n : Nat} (h : ShapeE lo hi w A n) (h0 : 0 < n) : ∃ g o, A = some ⟨g, o, none⟩ := by
  obtain ⟨g, e, _⟩ := h h0
  exact ⟨g, 0, e⟩
theorem cell_spl {lo hi : Nat} {w w' : World} (h : Spl lo hi w w') {g o k : Nat} {u : Value} (ht : TyAt w 63 g) (ho : o = 0) (hc : w.cell? ⟨g, o + k * 2, none⟩ = some u) : w'.cell? ⟨g, o + k * 2, none⟩ = some u := by
  subst ho
  obtain ⟨cur, hcu⟩ := ht
  obtain ⟨cur', hcu', _, hE, _⟩ := h.typed g cur _ hcu
  rw [cell_of_row w g _ cur _ (0, 0) hcu, Nat.zero_add] at hc
  rw [cell_of_row w' g _ cur' _ (0, 0) hcu', Nat.zero_add, hE rfl]
  exact hc
theorem cell_spl1 {lo hi : Nat} {w w' : World} (h : Spl lo hi w w') {g p : Nat} {u : Value} (ht : TyAt w 63 g) (hc : w.cell? ⟨g, p, none⟩ = some u) : ∃ u', w'.cell? ⟨g, p, none⟩ = some u' := by
  obtain ⟨cur, hcu⟩ := ht
  obtain ⟨cur', hcu', hz, _⟩ := h.typed g cur _ hcu
  rw [cell_of_row w g _ cur _ (0, 0) hcu] at hc
  have hp := (Array.getElem?_eq_some_iff.1 hc).1
  exact ⟨cur'[p]'(by omega), by rw [cell_of_row w' g _ cur' _ (0, 0) hcu', Array.getElem?_eq_getElem (by omega)]⟩
theorem ty_frozen {w : World} {t g : Nat} (h : TyAt w t g) (o : Nat) : w.frozen? ⟨g, o, none⟩ = false := by
  obtain ⟨c, hc⟩ := h
  exact frozen_of_row w g o c t hc
theorem shapeV_at {lo hi : Nat} {w : World} {A : Option Addr} {m q : Nat} (h : ShapeV lo hi w A m) (hq : q < m) : ∃ b off, A = some ⟨b, off, none⟩ ∧ lo ≤ b ∧ b < hi ∧ TyAt w 65 b ∧ ∃ u0 u1 u2, w.cell? ⟨b, off + q * 3, none⟩ = some u0 ∧ w.cell? ⟨b, off + q * 3 + 1, none⟩ = some u1 ∧ w.cell? ⟨b, off + q * 3 + 2, none⟩ = some u2 := by
  obtain ⟨b, off, e, h1, h2, cur, hc, hl⟩ := h (by omega)
  refine ⟨b, off, e, h1, h2, ⟨cur, hc⟩, cur[off + q * 3]'(by omega), cur[off + q * 3 + 1]'(by omega), cur[off + q * 3 + 2]'(by omega), ?_, ?_, ?_⟩
  all_goals
    rw [cell_of_row w b _ cur _ (0, 0) hc, Array.getElem?_eq_getElem (by omega)]
set_option maxHeartbeats 4000000 in
set_option maxRecDepth 100000 in
theorem spoil_any (w : World) (A : Option Addr) (n c lo hi : Nat) (hn : n ≤ 9223372036854775807) (hs : ShapeE lo hi w A n) :
    Calls Tryz.prog 31 #[.slice A n c] w fun e w' => e = .returned (.tuple #[]) ∧ Spl lo hi w w' := by
  have HS := hide hs
  go_enter Tryz.func31, Tryz.ntmps31
  go_wp2
  go_loopw [6] (fun i wr => ∃ k : Nat, k ≤ n ∧ i = .int .i64 k ∧ Spl lo hi w wr) (fun i _ => n - (RowKit.intOf i).toNat)
  case atStart => exact ⟨0, Nat.zero_le _, rfl, Spl.refl _ _ _⟩
  case round =>
    obtain ⟨k, hk, rfl, hsp⟩ := hrel
    have HSP := hide hsp
    by_cases hlt : k < n
    · obtain ⟨g, o, rfl⟩ := shape_some HS.out (by omega)
      obtain ⟨ho, h1, h2, hty, A', m, c', u, e0, e1, hm, hv⟩ := shape_row (HS.out.spl hsp) hlt
      have HO := hide ho
      have HTY := hide hty
      have HV := hide hv
      have E0 := hide e0
      have E1 := hide e1
      have k0 : (0 : Int) ≤ (k : Int) := by omega
      have k1 : (k : Int) < (n : Int) := by omega
      obtain ⟨W0, hW0⟩ : ∃ W, W = wr := ⟨_, rfl⟩
      rw [← hW0] at HSP HTY HV E0 E1
      clear hsp ho hty hv e1
      go_wp2
      go_loopw [15] (fun j wr2 => ∃ q : Nat, q ≤ m ∧ j = .int .i64 q ∧ Spl lo hi W0 wr2) (fun j _ => m - (RowKit.intOf j).toNat)
      case atStart => exact ⟨0, Nat.zero_le _, rfl, by rw [hW0]; exact Spl.refl _ _ _⟩
      case round =>
        clear e0
        obtain ⟨q, hq, rfl, hs2⟩ := hrel
        have HS2 := hide hs2
        have e0 := cell_spl hs2 HTY.out HO.out E0.out
        clear hs2
        by_cases hq2 : q < m
        · obtain ⟨b, off, rfl, b1, b2, hbt, u0, u1, u2, f0, f1, f2⟩ := shapeV_at (HV.out.spl HS2.out) hq2
          have q0 : (0 : Int) ≤ (q : Int) := by omega
          have q1 : (q : Int) < (m : Int) := by omega
          have z0 := ty_frozen hbt (off + q * 3)
          have z1 := ty_frozen hbt (off + q * 3 + 1)
          have z2 := ty_frozen hbt (off + q * 3 + 2)
          have HBT := hide hbt
          have HS3 := hide (((HS2.out.set (o := off + q * 3) hbt b1 b2 (.inl rfl) (.int .i64 3)).set (o := off + q * 3 + 1) (hbt.set _ _ _) b1 b2 (.inl rfl) (.int .i64 0)).set (o := off + q * 3 + 2) ((hbt.set _ _ _).set _ _ _) b1 b2 (.inl rfl) (.string ⟨#[115, 112, 111, 105, 108, 116]⟩))
          clear hbt
          go_wp2
          go_roundw
          case rel => exact ⟨q + 1, by omega, by go_num, by first | exact HS3.out | exact HS3.out.drewN _⟩
          case measure => simp [RowKit.intOf]; omega
        · have hgt := HS2.out.ty HTY.out
          have z0 := ty_frozen hgt (o + k * 2 + 1)
          obtain ⟨u9, e1⟩ := cell_spl1 HS2.out HTY.out E1.out
          have HS3 := hide (HSP.out.trans (HS2.out.set (o := o + k * 2 + 1) hgt h1 h2 (.inr ⟨rfl, by have := HO.out; omega⟩) (.int .i64 77)))
          clear hgt
          go_wp2
          go_roundw
          case rel => exact ⟨k + 1, by omega, by go_num, by first | exact HS3.out | exact HS3.out.drewN _⟩
          case measure => simp [RowKit.intOf]; omega
    · go_wp2
      go_end0
      exact ⟨rfl, HSP.out⟩
end Go.Proofs.YtlbhnfnecfllkaaGreat

namespace Go.Proofs.YtlbhnfnecfllkaaGreat
open Go.RowKit
set_option linter.unusedSimpArgs false
set_option linter.unusedVariables false

theorem elem_valsC : Elem Tryz.prog 61 65 3 32 := elem_mk _ Tryz.underlying61 val_info rfl (by decide)
theorem OL.made {α : Type} [Rep α] {w : World} {e : TypeId} {B : Nat} {O : Nat → Prop} {T : List TypeId} {cur : Array Value} {cap : Nat} (hB : B ≤ w.heap.size) (hm : cap ≤ maxLen) (hs : cur.size = cap * Rep.size α) : OL (α := α) e B O T (w.alloc (.cells cur e)) (.slice (some ⟨w.heap.size, 0, none⟩) 0 cap) [] :=
  ⟨⟨[], World.ownsRow_made w cur cap hB hm hs, rfl⟩, Nat.le_trans hB (below_alloc (o := .cells cur e)).size⟩
theorem BS.lower {B B0 : Nat} {T : List TypeId} {w : World} {k : Nat} (h : BS B (fun _ => False) T w k) (hB : B0 ≤ B) : BS B0 (fun _ => False) T w k := by
  rcases h with ⟨h, _⟩ | ⟨h, r⟩
  · cases h
  · exact .inr ⟨Nat.le_trans hB h, r⟩
set_option maxHeartbeats 4000000 in
set_option maxRecDepth 100000 in
theorem copy_any (w : World) (A : Option Addr) (n c : Nat) (xs : List Ent) (hx : In w A n c xs) (hn : n ≤ 4096) (hr : ∀ x ∈ xs, x.row.length ≤ 4096) :
    Calls Tryz.prog 30 #[.slice A n c] w
      fun e w' => (∃ A' c', e = .returned (.slice A' n c') ∧ OE w.heap.size w' (.slice A' n c') xs) ∧ Below w.heap.size w w' := by
  obtain ⟨i0, hi, hz0, hz1, hz2⟩ := info_parts val_info
  obtain ⟨j0, hj, hy0, hy1, hy2⟩ := info_parts ent_info
  have HR := hide hr
  have HIN := hide hx
  clear hx hr
  have hw3 : IntKind.i64.wrap ((n : Int) + 3) = (n : Int) + 3 := IntWalk.i64_in _ (by omega)
  have hmk : ∀ W, (Instr.makeSlice 26 (.int .i64 0) (.int .i64 ((n : Int) + 3))).run Tryz.prog W = .ok (.slice (some ⟨W.heap.size, 0, none⟩) 0 (n + 3)) (W.alloc (.cells (madeCells (Value.agg #[.slice none 0 0, .int .i64 0]).cells ((n + 3) * 2)) 63)) := fun W => by
    have h := run_make_rowN (P := Tryz.prog) 26 63 j0 _ Tryz.underlying26 hj hy0 .i64 .i64 0 (n + 3) (Nat.zero_le _) (by rw [hy2]; omega) (by omega) W
    rw [hy1] at h
    exact h
  have HM0 : Hid (OE w.heap.size (w.alloc (.cells (madeCells (Value.agg #[.slice none 0 0, .int .i64 0]).cells ((n + 3) * 2)) 63)) (.slice (some ⟨w.heap.size, 0, none⟩) 0 (n + 3)) []) := hide (OL.made (Nat.le_refl _) (by simp only [maxLen]; omega) (size_madeCells _ _))
  go_enter Tryz.func30, Tryz.ntmps30
  go_wp2
  go_loopw [3, 4] (fun v i wr => ∃ (k : Nat) (A' : Option Addr) (c' : Nat), k ≤ n ∧ i = .int .i64 k ∧ v = .slice A' k c' ∧ OE w.heap.size wr (.slice A' k c') (xs.take k) ∧ Below w.heap.size w wr) (fun _ i _ => n - (RowKit.intOf i).toNat)
  case atStart => exact ⟨0, _, _, Nat.zero_le _, rfl, rfl, HM0.out, below_alloc⟩
  case round =>
    clear hmk hw3 HM0
    obtain ⟨k, A', c', hk, rfl, rfl, ho, hb⟩ := hrel
    have HO := hide ho
    have HB := hide hb
    clear ho hb
    by_cases hlt : k < n
    · obtain ⟨b, off, x, rfl, hBb, HX, Ax, An, Ac, e0, e1, e2, e3⟩ := HIN.out.ent hlt
      have EW0 := hide e0
      have EW1 := hide e1
      have HBB := hide hBb
      have e0 := bat HB.out hBb e0
      have e1 := bat HB.out hBb e1
      have hAn : An ≤ 4096 := by have := HR.out x (mem_of_drop HX.out); have := e2.len; omega
      have k0 : (0 : Int) ≤ (k : Int) := by omega
      have k1 : (k : Int) < (n : Int) := by omega
      have hw2 : IntKind.i64.wrap ((An : Int) + 2) = (An : Int) + 2 := IntWalk.i64_in _ (by omega)
      have hmk2 : ∀ W, (Instr.makeSlice 61 (.int .i64 0) (.int .i64 ((An : Int) + 2))).run Tryz.prog W = .ok (.slice (some ⟨W.heap.size, 0, none⟩) 0 (An + 2)) (W.alloc (.cells (madeCells (Value.agg #[.int .i64 0, .int .i64 0, .string ⟨#[]⟩]).cells ((An + 2) * 3)) 65)) := fun W => by
        have h := run_make_rowN (P := Tryz.prog) 61 65 i0 _ Tryz.underlying61 hi hz0 .i64 .i64 0 (An + 2) (Nat.zero_le _) (by rw [hz2]; omega) (by omega) W
        rw [hz1] at h
        exact h
      have hbr := lt_of_cell e0
      obtain ⟨cs, hc1, hc2⟩ := Sl.cells (e2.below HB.out)
      have HLN := hide e2.len
      have HAX : Hid (Ax = none → An = 0) := hide fun hA => by have h1 := e2.2.2.2.1 hA; have h2 := e2.2.1; omega
      have hmx := HIN.out.len
      have hk63 : (xs.take k).length + 1 ≤ maxLen := by rw [List.length_take]; simp only [maxLen]; omega
      have hk64 : ((xs.take k).length + 1) * 32 ≤ 140737488355328 := by rw [List.length_take]; omega
      have hn63 : ([] : List Val).length + An ≤ maxLen := by simp only [maxLen, List.length_nil]; omega
      have hn64 : (([] : List Val).length + An) * 32 ≤ 140737488355328 := by simp only [List.length_nil]; omega
      go_upto_region 6 with (fail)
      obtain ⟨W5, hW5⟩ : ∃ W, W = wr.alloc (.cells (madeCells #[.int .i64 0, .int .i64 0, .string ⟨#[]⟩] ((An + 2) * 3)) 65) := ⟨_, rfl⟩
      have hb5 : Below wr.heap.size wr W5 := by rw [hW5]; exact below_alloc
      have HR5 : Hid (OL (α := Val) 65 wr.heap.size (fun _ => False) [] W5 (.slice (some ⟨wr.heap.size, 0, none⟩) 0 (An + 2)) []) := hide (by rw [hW5]; exact OL.made (Nat.le_refl _) (by simp only [maxLen]; omega) (size_madeCells _ _))
      rw [← hW5]
      clear hW5 hmk2 hw2
      have HC1 : Hid (Cells W5.drew (BS wr.heap.size (fun _ => False) [] W5.drew) cs x.row) := hide (cells_val_any hc1)
      have HC2 : Hid (Src W5.drew 3 Ax An cs) := hide ⟨hc2.1, fun h0 => by
        obtain ⟨b', o', e, hj⟩ := hc2.2 h0
        exact ⟨b', o', e, fun j u hu => bat hb5 (lt_of_cell (hj j u hu)) (hj j u hu)⟩⟩
      have HB5 := hide hb5
      have E0 := hide e0
      have E1 := hide e1
      have e0 := bat hb5 hbr e0
      have e1 := bat hb5 hbr e1
      have HBR := hide hbr
      clear hb5 hc1 hc2 hbr e2 hmx
      go_region_held3 (fun V => V.cell? ⟨b, off + k * 2, none⟩ = some (.slice Ax An Ac) ∧ V.cell? ⟨b, off + k * 2 + 1, none⟩ = some (.int .i64 x.count))
        (first | exact ⟨bat HB9.out HBB.out EW0.out, bat HB9.out HBB.out EW1.out⟩ | exact ⟨bat HB6.out HBR.out E0.out, bat HB6.out HBR.out E1.out⟩ | exact ⟨e0, e1⟩ | go_keep)
        (first
          | (refine step_append_OL _ rfl _ _ _ rfl elem_valsC (by simp) (HR5.out.below (Below.refl _ _).drew) (by simp [Act.eval, Act.put]) Ax An Ac cs x.row (by simp [Act.eval, Act.put]) HAX.out HC2.out HC1.out HLN.out hn63 hn64 ?_; intro v6 w6 ho6 hb6 hg6 hat6; have HB6 : Hid (Below wr.heap.size wr w6) := hide ((HB5.out.drew).trans hb6); obtain ⟨A6, c6, hv6, hs6⟩ := ho6.sl; subst hv6; have HS6 := hide (hs6.mono fun k hk => hk.lower (B0 := w.heap.size) HB.out.size); have HO6 := hide (HO.out.below HB6.out); clear ho6 hb6 hg6 hat6 hs6)
          | (refine step_push_OL _ rfl _ _ _ rfl elem_ents (by decide) w6 _ rfl HO6.out (by simp [Act.eval, Act.put]) (by simp [Act.eval, Act.put]) ⟨x.row, x.count⟩ ⟨_, _, _, rfl, HS6.out, e3⟩ hk63 hk64 ?_; intro v9 w9 ho9 hb9 hg9 hat9; have HO9 := hide ho9; have HB9 := hide (HB.out.trans ((HB6.out.mono HB.out.size).trans hb9)); clear ho9 hb9 hg9 hat9))
      go_wp2
      go_roundw
      case rel =>
        obtain ⟨A9, c9, hv9⟩ := HO9.out.form
        have hl9 : (xs.take k ++ [x]).length = k + 1 := by rw [List.length_append, List.length_take]; have := HIN.out.len; simp; omega
        rw [hl9] at hv9
        subst hv9
        refine ⟨k + 1, A9, c9, by omega, by go_num, rfl, ?_, HB9.out⟩
        rw [take_snoc HX.out]
        exact HO9.out
      case measure => simp [RowKit.intOf]; omega
    · have hkn : k = n := by omega
      subst hkn
      have HT : Hid (xs.take k = xs) := hide (List.take_of_length_le (by have := HIN.out.len; omega))
      rw [HT.out] at HO
      go_wp2
      go_ret
      exact ⟨⟨_, _, rfl, HO.out⟩, HB.out⟩
end Go.Proofs.YtlbhnfnecfllkaaGreat

namespace Go.Proofs.YtlbhnfnecfllkaaGreat
open Go.RowKit
set_option linter.unusedSimpArgs false
set_option linter.unusedVariables false

set_option maxHeartbeats 4000000 in
set_option maxRecDepth 100000 in
theorem copyEnts_ref (w : World) (A : Option Addr) (n c : Nat) (xs : List Ent) (hx : In w A n c xs) (hn : n ≤ 1048576) (hrow : ∀ x ∈ xs, x.row.length ≤ 4096) :
    Calls Tryz.prog 40 #[.slice A n c] w
      fun e w' => (∃ v, e = .returned v ∧ FreshEnts w w' v xs) ∧ Below w.heap.size w w' := by
  obtain ⟨i0, hi, hz0, hz1, hz2⟩ := info_parts ent_info
  obtain ⟨i1, hj, hy0, hy1, hy2⟩ := info_parts val_info
  have h63 := hx.le
  go_enter Tryz.func40, Tryz.ntmps40
  go_wp2
  go_loopw [3, 4] (fun o i wr => ∃ k : Nat, k ≤ n ∧ i = .int .i64 k ∧ FreshEnts w wr o (xs.take k) ∧ Below w.heap.size w wr)
    (fun _ i _ => n - (RowKit.intOf i).toNat)
  case atStart => exact ⟨0, Nat.zero_le _, rfl, FreshEnts.nil _ _, Below.refl _ _⟩
  case round =>
    obtain ⟨k, hk, rfl, hf, hb⟩ := hrel
    have HF := hide hf
    clear hf
    by_cases hlt : k < n
    · obtain ⟨bl, off, x, rfl, hB, HX, Ax, nx, cx, e0, e1, e2, e3⟩ := hx.ent hlt
      replace e0 := bat hb hB e0
      replace e1 := bat hb hB e1
      have hBr := Nat.lt_of_lt_of_le hB hb.size
      obtain ⟨m1, m2⟩ := e3
      have hrx : x.row.length ≤ 4096 := hrow x (List.mem_of_getElem? (drop_get HX.out).1)
      have k0 : (0 : Int) ≤ (k : Int) := by omega
      have k1 : (k : Int) < (n : Int) := by omega
      obtain ⟨cs, hown, hcells⟩ := HF.out
      have HLK : Hid ((xs.take k).length = k) := hide (by rw [List.length_take, hx.len]; omega)
      rw [HLK.out] at hown
      have HW := hide hown
      have hsz := hb.size
      have HRW := hide (fun g (h : u3.ownBlock = some g) => (hown.lt g h).1)
      obtain ⟨rs, hrs, hsrc⟩ := Sl.cells e2
      have hAx : Ax = none → nx = 0 := fun h => by have := e2.2.2.2.1 h; have := e2.2.1; omega
      have hnx : nx ≤ 4096 := by rw [← e2.len]; exact hrx
      have h1s := cells_vals hrs
      have HSRC : Hid (∀ W, Below w.heap.size w W → Src W 3 Ax nx rs) := hide (fun W hW => ⟨hsrc.1, fun h0 => by
        obtain ⟨b', o', e, hc⟩ := hsrc.2 h0
        refine ⟨b', o', e, fun j u hu => ?_⟩
        have hcj := hc j u hu
        exact (hW.cell (p := ⟨b', o' + j, none⟩) (block_lt_of_cell hcj)).trans hcj⟩)
      have HRS := hide hrs
      have HCELLS := hide hcells
      clear hown hcells hsrc hrs
      go_wp2
      go_region_held3 (fun w' => w'.cell? ⟨bl, off + k * 2, none⟩ = some (.slice Ax nx cx) ∧ w'.cell? ⟨bl, off + k * 2 + 1, none⟩ = some (.int .i64 x.count)) (first | exact ⟨e0, e1⟩ | exact ⟨(hb2.cell (p := ⟨bl, off + k * 2, none⟩) hB).trans e0, (hb2.cell (p := ⟨bl, off + k * 2 + 1, none⟩) hB).trans e1⟩ | exact ⟨(hb1.cell (p := ⟨bl, off + k * 2, none⟩) hB).trans e0, (hb1.cell (p := ⟨bl, off + k * 2 + 1, none⟩) hB).trans e1⟩ | go_keep) (first | (refine step_append_src _ rfl (.const (.slice none 0 0)) (.tmp 16) 61 rfl w.heap.size 65 i1 _ 3 32 Tryz.underlying61 hj hy0 hy1 hy2 rfl (by decide) (.slice none 0 0) 0 [] rfl (World.ownsRow_nil _ _ _ _) Ax nx cx rs (by simp [Act.eval, Act.put]) hAx (by exact HSRC.out _ ((hb.drew))) h1s (by simp only [maxLen]; omega) (by omega) (by simp; omega) ?_; intro v0 w0 hown0 hg0 hat0; have hb1 : Below w.heap.size wr w0 := ((Below.refl w.heap.size wr).drew).grown hg0 (by simp; omega) (by simp [Value.ownBlock]); obtain ⟨A0, c0, rfl, hsl0, _⟩ := sl_of_own (S := fun _ => False) (T := New w w0 65) hown0 (cells_val_any HRS.out) (fun _ h => h.elim) (by rw [e2.len]; omega) (fun g hg ht => ⟨hg, ht⟩); rw [Nat.zero_add] at hsl0; have HSL0 := hide hsl0; have hbw0 : Below wr.heap.size wr w0 := ((Below.refl wr.heap.size wr).drew).grown hg0 (by simp) (by simp [Value.ownBlock]); have hsz0 : w.heap.size ≤ w0.heap.size := Nat.le_trans hsz hbw0.size; have HOWN0 := hide (own_keep HW.out (fun g hg => hbw0.block g (HW.out.lt g hg).2)); have HC0 := hide ((HCELLS.out.keep ((Same.below hbw0).sub fun k hk => hk.2.lt)).mono fun k (hk : New w wr 65 k) => (⟨hk.1, hk.2.below hbw0⟩ : New w w0 65 k)); clear hsl0 hown0 hg0 hat0) | (refine step_append_src _ rfl (.tmp 11) (.tmp 24) 26 rfl w.heap.size 63 i0 _ 2 32 Tryz.underlying26 hi hz0 hz1 hz2 rfl (by decide) u3 k cs (by simp [Act.eval, Act.put]) (by first | exact own_drew (HOWN0.out.alloc _) | exact HOWN0.out.alloc _) (some ⟨w0.heap.size, 0, none⟩) 1 1 [.slice A0 nx c0, .int .i64 x.count] (by simp [Act.eval, Act.put]) (by intro h; cases h) (by exact src_two (by simp [go_sem]) (by simp [go_sem])) one_ent (by simp only [maxLen]; omega) (by omega) (by simp; omega) ?_; intro v1 w1 hown1 hg1 hat1; have hb2 : Below w.heap.size wr w1 := (hb1.trans ((Below.refl w.heap.size w0).alloc hsz0 _)).grown hg1 (by simp; omega) HRW.out))
      have hf1 : FreshEnts w w1 v1 (xs.take k ++ [x]) := FreshEnts.add (by rw [HLK.out]; exact HOWN0.out) HC0.out HSL0.out ⟨m1, m2⟩ (fun k hk hne => (hg1.block k (by simp; omega) (fun e => hne e.symm)).trans (Below.heap_alloc _ _ _ hk)) (by rw [HLK.out]; exact hown1)
      have HF1 := hide hf1
      have hbw := hb.trans hb2
      clear hf1 hown1 hg1 hat1
      go_wp2
      go_roundw
      case rel => exact ⟨k + 1, by omega, by go_num, by rw [take_snoc HX.out]; exact HF1.out, hbw⟩
      case measure => simp [RowKit.intOf]; omega
    · have HFF : Hid (FreshEnts w wr u3 xs) := hide (by
        have h := HF.out
        rw [List.take_of_length_le (by rw [hx.len]; omega)] at h
        exact h)
      go_wp2
      go_ret
      exact ⟨⟨_, rfl, HFF.out⟩, hb⟩

set_option maxHeartbeats 4000000 in
set_option maxRecDepth 100000 in
theorem days_ref (w : World) (A1 : Option Addr) (n1 c1 : Nat) (cols : List Col) (hc : In w A1 n1 c1 cols) (col : ByteArray) (A : Option Addr) (n c : Nat) (z : Zone) (hx : In w A n c z.shifts) (ho : I64 z.offset) (A2 : Option Addr) (n2 c2 : Nat) (rows : List Ent) (hr : In w A2 n2 c2 rows) :
    Calls Tryz.prog 39 #[.slice A1 n1 c1, .string col, .agg #[.string z.name, .int .i64 z.offset, .slice A n c], .slice A2 n2 c2] w
      fun e w' => (∃ B d ds, e = .returned (.tuple #[.slice B ds.length d, .int .i64 (schemeErr cols col z rows)]) ∧ In w' B ds.length d ds ∧ (schemeErr cols col z rows = 0 → ds = daysR (findS cols col z).1 z rows)) ∧ Below w.heap.size w w' := by
  obtain ⟨i0, hi, hz0, hz1, hz2⟩ := info_parts int_infoB
  have h64 := hr.le
  have S1 := hide (scheme_find (cols := cols) (col := col) (z := z) (rows := rows))
  have S2 := hide (scheme_bag (cols := cols) (col := col) (z := z) (rows := rows))
  have S3 := hide (scheme_rows (cols := cols) (col := col) (z := z) (rows := rows))
  generalize schemeErr cols col z rows = E at *
  obtain ⟨F, hF⟩ : ∃ F, findS cols col z = F := ⟨_, rfl⟩
  rw [hF] at S1 S2 S3 ⊢
  obtain ⟨at_, fe⟩ := F
  have HFF := hide hF
  clear hF
  go_enter Tryz.func39, Tryz.ntmps39
  go_wp2_with fail
  refine (validateP_ref _ _ _ _ cols (hc.below below_alloc) col A n c z (hx.below below_alloc) ho).mono ?_
  rintro e w1 ⟨rfl, hb1⟩
  have hbb := below_trans below_alloc hb1
  have g0 := bat (b := w.heap.size) (o := 0) (v := .string z.name) hb1 (by simp) (by simp [go_sem])
  have g1 := bat (b := w.heap.size) (o := 1) (v := .int .i64 z.offset) hb1 (by simp) (by simp [go_sem])
  have g2 := bat (b := w.heap.size) (o := 2) (v := .slice A n c) hb1 (by simp) (by simp [go_sem])
  have l1 := lt_of_cell g0
  clear hb1
  rw [HFF.out]
  by_cases h0 : fe = 0
  · subst h0
    go_wp2_with fail
    refine (bag_ref _ _ _ _ rows (hr.below hbb)).mono ?_
    rintro e w2 ⟨rfl, hb2⟩
    have g0 := bat hb2 l1 g0
    have g1 := bat hb2 l1 g1
    have g2 := bat hb2 l1 g2
    have l2 := lt_of_cell g0
    have hbb2 := below_trans hbb hb2
    clear hb2 l1
    by_cases h1 : bagErr rows = 0
    · have HE : Hid (E = firstErr (fun _ x => rowErr cols x.row) 0 rows) := hide (S3.out (by trivial) h1)
      have hn2 := bag_len h1
      rw [hr.len] at hn2
      rw [h1]
      clear h1
      go_wp2
      go_loopw [12, 13] (fun o i wr => ∃ (k : Nat) (B : Option Addr) (d : Nat) (ds : List Int), k ≤ n2 ∧ i = .int .i64 k ∧ o = .slice B k d ∧ ds.length = k ∧ ds = (daysR at_ z rows).take k ∧ E = firstErr (fun _ x => rowErr cols x.row) k (rows.drop k) ∧ Stk w2.heap.size wr 3 B d ds ∧ Below w2.heap.size w2 wr) (fun _ i _ => n2 - (RowKit.intOf i).toNat)
      case atStart => exact ⟨0, none, 0, [], Nat.zero_le _, rfl, rfl, rfl, rfl, HE.out, Stk.nil_ _ _ _, Below.refl _ _⟩
      case round =>
        obtain ⟨k, B, d, ds, hk, rfl, rfl, hdl, hds, heq, hst, hb⟩ := hrel
        have HDL := hide hdl
        have HDS := hide hds
        have HQ := hide heq
        have HST := hide hst
        have HB := hide hb
        have p0 := bat hb l2 g0
        have p1 := bat hb l2 g1
        have p2 := bat hb l2 g2
        have lr := lt_of_cell p0
        clear hdl hds heq hst
        by_cases hlt : k < n2
        · obtain ⟨b, off, x, rfl, hBb, HX, Ax, nx, cx, e0, e1, e2, e3⟩ := (hr.below (below_trans hbb2 hb)).ent hlt
          have k0 : (0 : Int) ≤ (k : Int) := by omega
          have k1 : (k : Int) < (n2 : Int) := by omega
          have P0 := hide p0
          have P1 := hide p1
          have P2 := hide p2
          have E0 := hide e0
          have LR := hide lr
          have LB := hide hBb
          have HBW := hide (below_trans hbb2 hb)
          obtain ⟨D, hD⟩ : ∃ D, dayPS cols col z x.row = D := ⟨_, rfl⟩
          have HD := hide hD
          clear hb hD
          go_wp2
          go_region_held3 (fun V => V.cell? ⟨w.heap.size, 0, none⟩ = some (.string z.name) ∧ V.cell? ⟨w.heap.size, 1, none⟩ = some (.int .i64 z.offset) ∧ V.cell? ⟨w.heap.size, 2, none⟩ = some (.slice A n c) ∧ V.cell? ⟨b, off + k * 2, none⟩ = some (.slice Ax nx cx))
            (first | exact ⟨p0, p1, p2, e0⟩ | exact ⟨bat HB8.out LR.out P0.out, bat HB8.out LR.out P1.out, bat HB8.out LR.out P2.out, bat HB8.out LB.out E0.out⟩)
            (first | (go_at_call 69; refine (dayPS_ref _ _ _ _ cols (by exact hc.below HBW.out.drew) col A n c z (by exact hx.below HBW.out.drew) ho _ _ _ x.row (by exact e2.below (Below.refl _ _).drew)).mono ?_; rintro e w8 ⟨rfl, hb8⟩; have HB8 := hide (below_undrew hb8); rw [HD.out]; clear hb8))
          by_cases hre : rowErr cols x.row = 0
          · have hDe : D = (dayRow at_ z x.row, 0) := by rw [← HD.out, dayPS, if_neg (by rw [HFF.out]; simp), if_neg (by simp [hre]), HFF.out]
            have HN : Hid (E = firstErr (fun _ x => rowErr cols x.row) (k + 1) (rows.drop (k + 1))) := hide (by rw [HQ.out, HX.out]; exact firstErr_zero hre)
            subst hDe
            have hbd := dayRow_bd at_ z x.row
            have HDN : Hid (ds ++ [dayRow at_ z x.row] = (daysR at_ z rows).take (k + 1)) := hide (by
              have hm : (daysR at_ z rows).drop k = dayRow at_ z x.row :: (daysR at_ z rows).drop (k + 1) := by
                rw [daysR, ← List.map_drop, HX.out, List.map_cons, List.map_drop]
              rw [take_snoc hm, ← HDS.out])
            generalize dayRow at_ z x.row = q at *
            have hsz : w2.heap.size ≤ w8.heap.size := Nat.le_trans HB.out.size HB8.out.size
            have HST8 := hide (HST.out.keep HB8.out)
            have HKL := hide (Nat.le_of_eq HDL.out.symm)
            clear hre
            go_wp2_with (at_builtin; refine wpList_push (α := Int) _ rfl (.tmp 49) (.tmp 51) 27 rfl w2.heap.size 3 i0 _ 8 Tryz.underlying27 hi hz0 hz1 hz2 rfl (by decide) B d k ds (HST8.out.keep below_alloc) HKL.out rfl q ⟨by omega, by omega⟩ w8.heap.size rfl (oneAt_new _ _ _ _ rfl) (by omega) (by simp; omega) ?_; intro A' c' w9 hst9 hb9)
            have HS9 : Hid (Stk w2.heap.size w9 3 A' c' (ds ++ [q])) := hide (by
              rw [List.take_of_length_le (by rw [HDL.out]; omega)] at hst9
              exact hst9)
            have HB9 : Hid (Below w2.heap.size w2 w9) := hide (((below_trans HB.out HB8.out).alloc hsz _).trans hb9)
            clear hst9 hb9
            go_wp2
            go_roundw
            case rel => exact ⟨k + 1, A', c', ds ++ [q], by omega, by go_num, rfl, by rw [List.length_append, HDL.out]; rfl, HDN.out, HN.out, HS9.out, HB9.out⟩
            case measure => simp [RowKit.intOf]; omega
          · have hDe : D = (0, rowErr cols x.row) := by rw [← HD.out, dayPS, if_neg (by rw [HFF.out]; simp), if_pos hre]
            have HN : Hid (E = rowErr cols x.row) := hide (by rw [HQ.out, HX.out]; exact firstErr_err rfl hre)
            subst hDe
            have q : (rowErr cols x.row != 0) = true := by simpa using hre
            have HRE := hide hre
            clear hre
            have HBX := hide (below_trans HBW.out HB8.out)
            generalize rowErr cols x.row = r at *
            go_wp2
            all_goals (try (exfalso; go_light; simp_all; done))
            go_ret2
            exact ⟨⟨none, 0, [], by rw [HN.out]; rfl, In.nil_, fun h => absurd (HN.out.symm.trans h) HRE.out⟩, HBX.out⟩
        · have HF : Hid (E = 0) := hide (by rw [HQ.out, drop_end hr.len (by omega), firstErr])
          have HD2 : Hid (ds = daysR at_ z rows) := hide (by rw [HDS.out, List.take_of_length_le (by rw [daysR, List.length_map, hr.len]; omega)])
          have HBX := hide (below_trans hbb2 HB.out)
          have hin := HST.out.inn
          have HIN := hide hin
          clear hin
          go_wp2
          go_ret2
          exact ⟨⟨B, d, ds, by rw [HF.out, HDL.out]; rfl, HIN.out, fun _ => HD2.out⟩, HBX.out⟩
    · have HE : Hid (E = bagErr rows) := hide (S2.out (by trivial) h1)
      have q : (bagErr rows != 0) = true := by simpa using h1
      have H1 := hide h1
      clear h1
      generalize bagErr rows = r at *
      go_wp2
      all_goals (try (exfalso; go_light; simp_all; done))
      go_ret2
      exact ⟨⟨none, 0, [], by rw [HE.out]; rfl, In.nil_, fun h => absurd (HE.out.symm.trans h) H1.out⟩, hbb2⟩
  · have HE : Hid (E = fe) := hide (S1.out h0)
    have q : (fe != 0) = true := by simpa using h0
    have H0 := hide h0
    clear h0
    go_wp2
    all_goals (try (exfalso; go_light; simp_all; done))
    go_ret2
    exact ⟨⟨none, 0, [], by rw [HE.out]; rfl, In.nil_, fun h => absurd (HE.out.symm.trans h) H0.out⟩, hbb⟩
end Go.Proofs.YtlbhnfnecfllkaaGreat

namespace Go.Proofs.YtlbhnfnecfllkaaGreat
open Go.RowKit
set_option linter.unusedSimpArgs false
set_option linter.unusedVariables false

/-- A partition that a call builds in block bp: its rows lie in blocks that were there before. -/
def PBlk (w0 w : World) (bp : Nat) (d : Int) (zs : List Ent) : Prop := ∃ v cs, w.heap[bp]? = some (.cells #[.int .i64 d, v] 44 (0, 0)) ∧ w.ownsRow w0.heap.size 63 2 v zs.length cs ∧ Cells w (fun k => k < w0.heap.size) cs zs
theorem PBlk.made (w0 : World) (d : Int) : PBlk w0 (w0.alloc (.cells #[.int .i64 d, .slice none 0 0] 44)) w0.heap.size d [] := ⟨_, [], heap_alloc_new w0 _, World.ownsRow_nil _ _ _ _, rfl⟩
theorem PBlk.add {w0 w9 : World} {bp : Nat} {d : Int} {v v1 : Value} {cs : List Value} {zs : List Ent} {x : Ent} {A : Option Addr} {n c : Nat} (hbp : w9.heap[bp]? = some (.cells #[.int .i64 d, v] 44 (0, 0)))
    (hb : w0.heap.size ≤ bp) (hc : Cells w9 (fun k => k < w0.heap.size) cs zs) (hx : Sl w9 (fun k => k < w0.heap.size) A n c x.row) (h64 : I64 x.count) (hown : w9.ownsRow w0.heap.size 63 2 v1 (zs.length + 1) (cs ++ [.slice A n c, .int .i64 x.count])) :
    PBlk w0 (w9.setCell ⟨bp, 1, none⟩ v1) bp d (zs ++ [x]) := by
  have hh : ∀ k, k ≠ bp → (w9.setCell ⟨bp, 1, none⟩ v1).heap[k]? = w9.heap[k]? := fun k hk => by simp [World.setCell, Array.getElem?_modify, show ¬ bp = k from fun e => hk e.symm]
  have hs : Same (fun k => k < w0.heap.size) w9 (w9.setCell ⟨bp, 1, none⟩ v1) := fun k hk => hh k (by omega)
  refine ⟨v1, cs ++ [.slice A n c, .int .i64 x.count], by simp [World.setCell, Array.getElem?_modify, hbp], ?_, ?_⟩
  · rw [List.length_append]
    have hty : TyAt w9 44 bp := ⟨_, hbp⟩
    exact own_keep hown (fun g hg => hh g (TyAt.ne (own_ty hown hg) hty (by decide)))
  · have h3 : Rep.rd (w9.setCell ⟨bp, 1, none⟩ v1) (fun k => k < w0.heap.size) [.slice A n c, .int .i64 x.count] x := ⟨A, n, c, rfl, hx.keep hs, h64⟩
    exact Cells.app (Cells.one h3) (hc.keep hs)
theorem PBlk.inn {w0 w : World} {bp : Nat} {d : Int} {zs : List Ent} (h : PBlk w0 w bp d zs) (hb : Below w0.heap.size w0 w) : ∃ A c, w.heap[bp]? = some (.cells #[.int .i64 d, .slice A zs.length c] 44 (0, 0)) ∧ In w A zs.length c zs := by
  obtain ⟨v, cs, h1, h2, h3⟩ := h
  obtain ⟨A, c, rfl, hs, _⟩ := sl_of_own (T := fun k => k < w.heap.size) h2 h3 (fun k hk => Nat.lt_of_lt_of_le hk hb.size) rfl (fun g _ hg => hg.lt)
  exact ⟨A, c, h1, hs⟩
theorem own_slice {w : World} {base e size : Nat} {v : Value} {n : Nat} {xs : List Value} (h : w.ownsRow base e size v n xs) : ∃ A c, v = .slice A n c := by
  rcases h.2 with ⟨h2, h3⟩ | ⟨g, cap, cur, hv, _⟩
  · exact ⟨none, 0, by rw [h2, h3]⟩
  · exact ⟨_, _, hv⟩
theorem filter_snoc {α : Type} {xs : List α} {k : Nat} {x : α} {l : List α} {p : α → Bool} (h : xs.drop k = x :: l) : (xs.take (k + 1)).filter p = (xs.take k).filter p ++ (if p x then [x] else []) := by
  rw [take_snoc h, List.filter_append]
  by_cases hp : p x
  · rw [if_pos hp]; simp [hp]
  · rw [if_neg hp]; simp [hp]
theorem days_le {at_ : Int} {z : Zone} {rows : List Ent} : ∀ d ∈ daysR at_ z rows, -1 ≤ d ∧ d ≤ 400000 := by
  intro d hd
  obtain ⟨x, _, rfl⟩ := List.mem_map.1 hd
  exact dayRow_bd at_ z x.row

set_option maxHeartbeats 8000000 in
set_option maxRecDepth 100000 in
theorem splitR_ref (w : World) (A1 : Option Addr) (n1 c1 : Nat) (cols : List Col) (hc : In w A1 n1 c1 cols) (col : ByteArray) (A : Option Addr) (n c : Nat) (z : Zone) (hx : In w A n c z.shifts) (ho : I64 z.offset) (A2 : Option Addr) (n2 c2 : Nat) (rows : List Ent) (hr : In w A2 n2 c2 rows) :
    Calls Tryz.prog 13 #[.slice A1 n1 c1, .string col, .agg #[.string z.name, .int .i64 z.offset, .slice A n c], .slice A2 n2 c2] w
      fun e w' => (∃ B m d ps, e = .returned (.tuple #[.slice B m d, .int .i64 (schemeErr cols col z rows)]) ∧ In w' B m d ps ∧ (schemeErr cols col z rows ≠ 0 → ps = []) ∧ (schemeErr cols col z rows = 0 → IsSplit (findS cols col z).1 z rows ps)) ∧ Below w.heap.size w w' := by
  obtain ⟨i0, hi, hz0, hz1, hz2⟩ := info_parts part_info
  obtain ⟨i1, hinf, hy0, hy1, hy2⟩ := info_parts ent_info
  have HFIT := hide (scheme_fit (cols := cols) (col := col) (z := z) (rows := rows))
  have hdays := days_ref (w.alloc (.cells #[.string z.name, .int .i64 z.offset, .slice A n c] 25)) A1 n1 c1 cols (hc.below below_alloc) col A n c z (hx.below below_alloc) ho A2 n2 c2 rows (hr.below below_alloc)
  obtain ⟨E, hE⟩ : ∃ E, schemeErr cols col z rows = E := ⟨_, rfl⟩
  have HEE := hide hE
  rw [hE] at hdays ⊢
  obtain ⟨at_, hat⟩ : ∃ at_, (findS cols col z).1 = at_ := ⟨_, rfl⟩
  rw [hat] at hdays HFIT ⊢
  clear hE hat
  go_enter Tryz.func13, Tryz.ntmps13
  go_wp2_with fail
  refine hdays.mono ?_
  rintro e w2 ⟨⟨B, d, ds, rfl, hds, hdd⟩, hb1⟩
  have hbb := below_trans below_alloc hb1
  clear hb1 hdays
  have HDD := hide hdd
  clear hdd
  by_cases h0 : E = 0
  · subst h0
    obtain ⟨hf1, hf2, hf3⟩ := HFIT.out HEE.out
    have HDS := hide (HDD.out rfl)
    have hn2 := hr.len
    have hnd : ds.length = n2 := by rw [HDS.out, daysR, List.length_map, hn2]
    have HDB : Hid (∀ x ∈ ds, -1 ≤ x ∧ x ≤ 400000) := hide (by rw [HDS.out]; exact days_le)
    rw [hnd] at hds
    have HIN := hide hds
    have HLEN := hide hnd
    have HF2 := hide hf2
    have HR2 := hide (hr.below hbb)
    have HBB := hide hbb
    have hn4 : n2 ≤ 4096 := by omega
    clear hf1 hf2 hds hnd hbb HFIT HDD
    rw [HLEN.out]
    go_wp2
    go_loopw [12, 13] (fun o l wr => ∃ (ks : List Int) (last : Int), l = .int .i64 last ∧ Upto ds ks last ∧ ks.length + above ds last ≤ n2 ∧ OwnParts w2 wr o (ks.map fun d => ⟨d, ofDay at_ z rows d⟩) ∧ Below w2.heap.size w2 wr) (fun _ l _ => above ds (RowKit.intOf l))
    case atStart => exact ⟨[], -2, rfl, Upto.start fun x hx => (HDB.out x hx).1, (by rw [List.length_nil, Nat.zero_add, above]; exact Nat.le_trans (List.length_filter_le _ _) (Nat.le_of_eq HLEN.out)), OwnParts.nil _ _, Below.refl _ _⟩
    case round =>
      obtain ⟨wo, rfl⟩ : ∃ wo, wo = wr := ⟨wr, rfl⟩
      obtain ⟨ks, last, rfl, hup, hle, hop, hb⟩ := hrel
      have HUP := hide hup
      have HOP := hide hop
      have HB := hide hb
      have HIR := hide (HIN.out.below hb)
      have HRR := hide (HR2.out.below hb)
      have hszr := hb.size
      have HLE := hide hle
      clear hup hop hb hle
      go_wp2
      go_loop [14, 15] (fun m i => ∃ (k : Nat) (q : Int), k ≤ n2 ∧ i = .int .i64 k ∧ m = .int .i64 q ∧ leastA last ds 400001 = leastA last (ds.drop k) q) (fun _ i => n2 - (RowKit.intOf i).toNat)
      case atStart => exact ⟨0, 400001, Nat.zero_le _, rfl, rfl, rfl⟩
      case round =>
        obtain ⟨k, q, hk, rfl, rfl, hq⟩ := hrel
        have HQ := hide hq
        clear hq
        by_cases hlt : k < n2
        · obtain ⟨b, off, x, rfl, hBb, HX, e0, e1⟩ := HIR.out.int hlt
          have k0 : (0 : Int) ≤ (k : Int) := by omega
          have k1 : (k : Int) < (n2 : Int) := by omega
          have HST : Hid (leastA last ds 400001 = leastA last (ds.drop (k + 1)) (if last < x ∧ x < q then x else q)) := hide (by rw [HQ.out, HX.out, leastA])
          by_cases g1 : last < x
          · by_cases g2 : x < q
            · have d1 : decide (last < x) = true := by simpa using g1
              have d2 : decide (x < q) = true := by simpa using g2
              have HS2 : Hid (leastA last ds 400001 = leastA last (ds.drop (k + 1)) x) := hide (by rw [HST.out, if_pos ⟨g1, g2⟩])
              go_wp2
              go_round
              case rel => exact ⟨k + 1, x, by omega, by go_num, rfl, HS2.out⟩
              case measure => simp [RowKit.intOf]; omega
            · have d1 : decide (last < x) = true := by simpa using g1
              have d2 : decide (x < q) = false := by simpa using g2
              have HS2 : Hid (leastA last ds 400001 = leastA last (ds.drop (k + 1)) q) := hide (by rw [HST.out, if_neg (fun h => g2 h.2)])
              go_wp2
              go_round
              case rel => exact ⟨k + 1, q, by omega, by go_num, rfl, HS2.out⟩
              case measure => simp [RowKit.intOf]; omega
          · have d1 : decide (last < x) = false := by simpa using g1
            have HS2 : Hid (leastA last ds 400001 = leastA last (ds.drop (k + 1)) q) := hide (by rw [HST.out, if_neg (fun h => g1 h.1)])
            go_wp2
            go_round
            case rel => exact ⟨k + 1, q, by omega, by go_num, rfl, HS2.out⟩
            case measure => simp [RowKit.intOf]; omega
        · have HM : Hid (leastA last ds 400001 = q) := hide (by rw [HQ.out, List.drop_eq_nil_of_le (by have := HLEN.out; omega), leastA])
          have H64 : I64 q := by
            have h1 := HM.out
            obtain ⟨_, h2, _⟩ := leastA_spec last ds 400001
            rw [h1] at h2
            rcases h2 with rfl | h2
            · exact ⟨by omega, by omega⟩
            · have := HDB.out q h2.1; exact ⟨by omega, by omega⟩
          have H64 := hide H64
          by_cases hqe : q = 400001
          · subst hqe
            have HD : Hid (Asc ks ∧ ∀ d, d ∈ ks ↔ d ∈ ds) := hide (HUP.out.done (fun x hx => (HDB.out x hx).2) HM.out)
            obtain ⟨A6, c6, hv, hin⟩ := HOP.out.inn
            rw [List.length_map] at hv hin
            subst hv
            have HI6 := hide hin
            clear hin
            go_wp2
            go_ret2
            exact ⟨⟨A6, _, c6, rfl, _, HI6.out, ⟨ks, HD.out.1, fun d => by rw [HD.out.2 d, HDS.out], rfl⟩⟩, below_trans HBB.out HB.out⟩
          · have HNE := hide (fun h => hqe (HM.out.symm.trans h))
            have HSTEP := hide (HUP.out.step HNE.out)
            rw [HM.out] at HSTEP
            have d3 : decide (q = 400001) = false := by simpa using hqe
            have HPM := hide (PBlk.made wo q)
            have HBM : Hid (Below wo.heap.size wo (wo.alloc (.cells #[.int .i64 q, .slice none 0 0] 44))) := hide below_alloc
            go_wp2
            go_loopw [17] (fun i wr => ∃ k : Nat, k ≤ n2 ∧ i = .int .i64 k ∧ PBlk wo wr wo.heap.size q ((rows.take k).filter fun y => dayRow at_ z y.row == q) ∧ Below wo.heap.size wo wr) (fun i _ => n2 - (RowKit.intOf i).toNat)
            case atStart => exact ⟨0, Nat.zero_le _, rfl, HPM.out, HBM.out⟩
            case round =>
              obtain ⟨j, hj, rfl, hp, hbi⟩ := hrel
              have HP := hide hp
              have HBI := hide hbi
              have hszi := hbi.size
              clear hp hbi
              by_cases hlt2 : j < n2
              · obtain ⟨b, off, x, rfl, hBb, HX, e0, e1⟩ := (HIR.out.below HBI.out).int hlt2
                obtain ⟨b2, off2, y, rfl, hBb2, HY, Ay, ny, cy, f0, f1, f2, f3⟩ := HRR.out.ent hlt2
                have HBb2 := hide hBb2
                have k0 : (0 : Int) ≤ (j : Int) := by omega
                have k1 : (j : Int) < (n2 : Int) := by omega
                have HXY : Hid (x = dayRow at_ z y.row) := hide (by
                  have h1 := HX.out
                  rw [HDS.out, daysR, ← List.map_drop, HY.out, List.map_cons] at h1
                  injection h1 with h1
                  exact h1.symm)
                have HSN := hide (filter_snoc (p := fun y => dayRow at_ z y.row == q) HY.out)
                by_cases hxq : x = q
                · subst hxq
                  have HS2 : Hid ((rows.take (j + 1)).filter (fun y => dayRow at_ z y.row == x) = (rows.take j).filter (fun y => dayRow at_ z y.row == x) ++ [y]) := hide (by rw [HSN.out, ← HXY.out]; simp)
                  have HZL : Hid (((rows.take j).filter fun y => dayRow at_ z y.row == x).length ≤ j) := hide (Nat.le_trans (List.length_filter_le _ _) (by rw [List.length_take]; omega))
                  generalize hzs : ((rows.take j).filter fun y => dayRow at_ z y.row == x) = zs at *
                  have HP' := HP
                  obtain ⟨v, cs, hbp, hown, hcells⟩ := HP'.out
                  have HBP := hide hbp
                  have HOWN := hide hown
                  have HCE := hide hcells
                  have HR := hide (fun g (h : v.ownBlock = some g) => (hown.lt g h).1)
                  have HNE2 : Hid (some wo.heap.size ≠ v.ownBlock) := hide (fun e => TyAt.ne (own_ty hown e.symm) (show TyAt wr 44 wo.heap.size from ⟨_, hbp⟩) (by decide) rfl)
                  have hli := (Array.getElem?_eq_some_iff.1 hbp).1
                  have hzl := HZL.out
                  obtain ⟨N, hN⟩ : ∃ N, zs.length = N := ⟨_, rfl⟩
                  have HN := hide hN
                  rw [hN] at hown hzl HOWN
                  have p0 := (bcell HBI.out).1 b2 (off2 + j * 2) HBb2.out
                  have p1 := (bcell HBI.out).1 b2 (off2 + j * 2 + 1) HBb2.out
                  have m0 : wr.cell? ⟨b2, off2 + j * 2, none⟩ = some (.slice Ay ny cy) := p0.trans f0
                  have m1 : wr.cell? ⟨b2, off2 + j * 2 + 1, none⟩ = some (.int .i64 y.count) := p1.trans f1
                  have c1 : wr.cell? ⟨wo.heap.size, 1, none⟩ = some v := (cell_of_row wr _ 1 _ _ (0, 0) hbp).trans rfl
                  have HM0 := hide m0
                  have HM1 := hide m1
                  have hbl2 := Nat.lt_of_lt_of_le HBb2.out hszi
                  clear hbp hcells hN hzs hown p0 p1 f0 f1
                  go_wp2
                  go_region_law
                    (first
                      | (refine step_append_src _ rfl (.tmp 71) (.tmp 76) 26 rfl wo.heap.size 63 i1 _ 2 32 Tryz.underlying26 hinf hy0 hy1 hy2 rfl (by decide) v N cs (by simp [Act.eval, Act.put]) (by first | exact own_drew (HOWN.out.alloc _) | exact HOWN.out.alloc _) (some ⟨wr.heap.size, 0, none⟩) 1 1 [.slice Ay ny cy, .int .i64 y.count] (by simp [Act.eval, Act.put]) (by intro h; cases h) (by exact src_two (by simp [go_sem]) (by simp [go_sem])) one_ent (by simp only [maxLen]; omega) (by omega) (by simp; omega) ?_; intro v1 w9 hown1 hg1 hat1; have HB9 : Hid (Below wo.heap.size wr w9) := hide (by first | exact (((Below.refl wo.heap.size wr).alloc hszi _).drew).grown hg1 (by simp; omega) HR.out | exact ((((Below.refl wo.heap.size wr)).drew).alloc hszi _).grown hg1 (by simp; omega) HR.out | exact ((Below.refl wo.heap.size wr).alloc hszi _).grown hg1 (by simp; omega) HR.out); have h9 : w9.heap[wo.heap.size]? = some (.cells #[.int .i64 x, v] 44 (0, 0)) := (hg1.block wo.heap.size (by simp; omega) HNE2.out).trans ((Below.heap_alloc _ _ _ hli).trans HBP.out); have H9 := hide h9; have c9 : w9.cell? ⟨wo.heap.size, 1, none⟩ = some v := (cell_of_row w9 _ 1 _ _ (0, 0) h9).trans rfl; have z9 := frozen_of_row w9 wo.heap.size 1 _ _ h9; have q0 := (HB9.out.cell (p := ⟨b2, off2 + j * 2, none⟩) HBb2.out).trans HM0.out; have q1 := (HB9.out.cell (p := ⟨b2, off2 + j * 2 + 1, none⟩) HBb2.out).trans HM1.out; have HOW1 := hide hown1; obtain ⟨Av, cv, rfl⟩ := own_slice hown1; clear hown1 hg1 hat1 h9))
                  all_goals
                    have HBR9 := hide (HBI.out.trans HB9.out)
                    have HCE9 := hide (HCE.out.keep (fun k hk => HB9.out.block k hk))
                    have HPP : Hid (PBlk wo (w9.setCell ⟨wo.heap.size, 1, none⟩ (.slice Av (N + 1) cv)) wo.heap.size x (zs ++ [y])) := hide (PBlk.add H9.out (Nat.le_refl _) HCE9.out (f2.keep (fun k hk => HBR9.out.block k hk)) f3 (by rw [HN.out]; exact HOW1.out))
                    have HBS : Hid (Below wo.heap.size wo (w9.setCell ⟨wo.heap.size, 1, none⟩ (.slice Av (N + 1) cv))) := hide (HBR9.out.setCell (Nat.le_refl _) _)
                    clear q0 q1 c9 z9 m0 m1 c1
                    go_wp2
                    go_roundw
                    case rel => exact ⟨j + 1, by omega, by go_num, by rw [HS2.out]; exact HPP.out, HBS.out⟩
                    case measure => simp [RowKit.intOf]; omega
                · have d4 : decide (x = q) = false := by simpa using hxq
                  have HS2 : Hid ((rows.take (j + 1)).filter (fun y => dayRow at_ z y.row == q) = (rows.take j).filter (fun y => dayRow at_ z y.row == q)) := hide (by rw [HSN.out, ← HXY.out]; simp [hxq])
                  go_wp2
                  go_roundw
                  case rel => exact ⟨j + 1, by omega, by go_num, by rw [HS2.out]; exact HP.out, HBI.out⟩
                  case measure => simp [RowKit.intOf]; omega
              · have HT : Hid (rows.take j = rows) := hide (List.take_of_length_le (by omega))
                have HPF := HP.out
                rw [HT.out] at HPF
                have HZL : Hid ((rows.filter fun y => dayRow at_ z y.row == q).length ≤ n2) := hide (Nat.le_trans (List.length_filter_le _ _) (by omega))
                have HZR : Hid (∀ y ∈ (rows.filter fun y => dayRow at_ z y.row == q), y.row.length ≤ 4096) := hide (fun y hy => HF2.out y (List.mem_filter.1 hy).1)
                have HOF : Hid (ofDay at_ z rows q = rows.filter fun y => dayRow at_ z y.row == q) := hide rfl
                generalize hzs : (rows.filter fun y => dayRow at_ z y.row == q) = zs at *
                obtain ⟨A5, c5, hbp, hin5⟩ := HPF.inn HBI.out
                have c1 : wr.cell? ⟨wo.heap.size, 1, none⟩ = some (.slice A5 zs.length c5) := (cell_of_row wr _ 1 _ _ (0, 0) hbp).trans rfl
                have z1 := frozen_of_row wr wo.heap.size 1 _ _ hbp
                have HBP := hide hbp
                have hli := (Array.getElem?_eq_some_iff.1 hbp).1
                have hzl := HZL.out
                clear hbp hzs HPF
                go_wp2_with fail
                refine (copyEnts_ref _ A5 _ c5 zs hin5 (by omega) HZR.out).mono ?_
                rintro e w6 ⟨⟨v6, rfl, hf6⟩, hb6⟩
                obtain ⟨A6, c6, rfl, hs6⟩ := hf6.sp
                have h6 : w6.heap[wo.heap.size]? = some (.cells #[.int .i64 q, .slice A5 zs.length c5] 44 (0, 0)) := (hb6.block _ hli).trans HBP.out
                have HS6 := hide hs6
                have HB6 := hide (HBI.out.trans (hb6.mono hszi))
                have c6' : w6.cell? ⟨wo.heap.size, 1, none⟩ = some (.slice A5 zs.length c5) := (cell_of_row w6 _ 1 _ _ (0, 0) h6).trans rfl
                have c60 : w6.cell? ⟨wo.heap.size, 0, none⟩ = some (.int .i64 q) := (cell_of_row w6 _ 0 _ _ (0, 0) h6).trans rfl
                have z6 := frozen_of_row w6 wo.heap.size 1 _ _ h6
                have HT6 : Hid (TyAt w6 44 wo.heap.size) := hide ⟨_, h6⟩
                have hl6 := HT6.out.lt
                clear hs6 hf6 hb6 h6 c1 z1
                go_upto_region 21 with (fail)
                obtain ⟨w7, hw7⟩ : ∃ w7, w7 = w6.setCell ⟨wo.heap.size, 1, none⟩ (.slice A6 zs.length c6) := ⟨_, rfl⟩
                have d0 : w7.cell? ⟨wo.heap.size, 0, none⟩ = some (.int .i64 q) := by rw [hw7]; exact set_far c60 (.inr (by omega))
                have d1 : w7.cell? ⟨wo.heap.size, 1, none⟩ = some (.slice A6 zs.length c6) := by rw [hw7]; exact set_same c6'
                have HS7 : Hid (Sl w7 (SP w7) A6 zs.length c6 zs) := hide (by
                  have hh : ∀ k, SP w6 k → k ≠ wo.heap.size := fun k hk => hk.elim (fun h => TyAt.ne h HT6.out (by decide)) (fun h => TyAt.ne h HT6.out (by decide))
                  refine (HS6.out.keep (fun k hk => ?_)).mono fun k hk => ?_
                  · rw [hw7]; exact Below.heap_setCell _ _ _ k (fun e => hh k hk e)
                  · rw [hw7]; exact hk.imp (fun h => h.set _ _ _) (fun h => h.set _ _ _))
                have HB7 : Hid (Below wo.heap.size wo w7) := hide (by rw [hw7]; exact HB6.out.setCell (Nat.le_refl _) _)
                have hl7 : wo.heap.size < w7.heap.size := lt_of_cell d0
                rw [← hw7]
                clear hw7 c6' c60 z6
                obtain ⟨cs, hown, hcells⟩ := (HOP.out.below HB7.out)
                rw [List.length_map] at hown
                have HOW := hide hown
                have HCE := hide hcells
                have HKL : Hid (ks.length < n2) := hide (by
                  have h1 := HSTEP.out
                  have h2 := above_less h1.2.1 h1.2.2
                  have h3 := HLE.out
                  omega)
                have hkl := HKL.out
                obtain ⟨K, hK⟩ : ∃ K, ks.length = K := ⟨_, rfl⟩
                have HKK := hide hK
                rw [hK] at HOW hkl
                have HBW := hide (HB.out.trans (HB7.out.mono hszr))
                have hszw := HBW.out.size
                clear hown hcells hK
                go_wp2_with (at_builtin; refine wpList_append_src _ rfl (.tmp 83) (.tmp 85) 31 rfl w2.heap.size 44 i0 _ 2 32 Tryz.underlying31 hi hz0 hz1 hz2 rfl (by decide) u12 K cs rfl (HOW.out.alloc _) (some ⟨w7.heap.size, 0, none⟩) 1 1 [.int .i64 q, .slice A6 zs.length c6] rfl (by intro h; cases h) (src_two (by simp [go_sem]) (by simp [go_sem])) one_part (by simp only [maxLen]; omega) (by omega) (by simp; omega) ?_; intro v8 w8 hown8 hg8 hat8)
                have HO8 : Hid (OwnParts w2 w8 v8 ((ks.map fun d => (⟨d, ofDay at_ z rows d⟩ : Partn)) ++ [⟨q, zs⟩])) := hide (OwnParts.add (p := ⟨q, zs⟩) (by rw [List.length_map, HKK.out]; exact HOW.out.alloc _) ((HCE.out.keep ((Same.below below_alloc).sub fun k hk => hk.lt)).mono fun k hk => hk.below below_alloc) ((HS7.out.keep ((Same.below below_alloc).sub fun k hk => hk.lt)).mono fun k hk => hk.below below_alloc) H64.out (fun j hj hne => hg8.block j hj (fun e => hne e.symm)) (by rw [List.length_map, HKK.out]; exact hown8))
                have HB8 : Hid (Below w2.heap.size w2 w8) := hide ((HBW.out.alloc hszw _).grown hg8 (by simp; omega) (fun j e => (HOW.out.lt j e).1))
                clear hown8 hg8 hat8
                go_wp2
                go_roundw
                case rel =>
                  have h1 := HSTEP.out
                  have h2 := above_less h1.2.1 h1.2.2
                  have h3 := HLE.out
                  refine ⟨ks ++ [q], q, rfl, h1.1, by rw [List.length_append, List.length_singleton]; omega, ?_, HB8.out⟩
                  rw [List.map_append, List.map_cons, List.map_nil, HOF.out]
                  exact HO8.out
                case measure =>
                  have h1 := HSTEP.out
                  simp only [RowKit.intOf]
                  exact above_less h1.2.1 h1.2.2
  · have q : (E != 0) = true := by simpa using h0
    have HE := hide h0
    clear h0
    go_wp2
    all_goals (try (exfalso; go_light; simp_all; done))
    go_ret2
    exact ⟨⟨none, 0, 0, [], rfl, In.nil_, fun _ => rfl, fun h => absurd h HE.out⟩, hbb⟩
end Go.Proofs.YtlbhnfnecfllkaaGreat
