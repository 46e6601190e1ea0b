/-
  warehouseworld.Columns, Table; warehouselaw22.table: columns, a zone and a table that fits.
-/
import Derived.Test.YtlbhnfnecfllkaaGreatGaf
namespace Go.Proofs.YtlbhnfnecfllkaaGreat
open Go.RowKit
set_option linter.unusedSimpArgs false
set_option linter.unusedVariables false

def cAt (k : Int) (nl : Bool) : Col := ⟨⟨#[97, 116]⟩, k, nl⟩
def cId (nl : Bool) : Col := ⟨⟨#[105, 100]⟩, 2, nl⟩
def cName (nl : Bool) : Col := ⟨⟨#[110, 97, 109, 101]⟩, 3, nl⟩
def cOk : Col := ⟨⟨#[111, 107]⟩, 1, false⟩
def wCols : List (List Col) := [[cId false, cName true, cAt 4 false], [cAt 4 true, cId true, cOk], [cName false, cAt 2 true]]
theorem col_ok {c : Col} (h1 : c.name.size ≤ 4) (h2 : 0 ≤ c.kind) (h3 : c.kind ≤ 4) : c.ok := ⟨by unfold Str; omega, by omega, by omega⟩
theorem wCols_good : ∀ cols ∈ wCols, (∀ x ∈ cols, x.good) ∧ cols.length ≤ 3 := by
  intro cols hc
  simp only [wCols, List.mem_cons, List.not_mem_nil, or_false] at hc
  rcases hc with rfl | rfl | rfl <;>
    exact ⟨fun x hx => by
      simp only [List.mem_cons, List.not_mem_nil, or_false] at hx
      rcases hx with rfl | rfl | rfl <;> exact ⟨col_ok (by decide) (by decide) (by decide), by decide, by decide⟩, by decide⟩
theorem cells_cols (xs : List Col) (w : World) (S : Nat → Prop) (h : ∀ x ∈ xs, x.ok) : Cells w S (xs.flatMap Col.cells) xs := by
  induction xs with
  | nil => rfl
  | cons x l ih => exact ⟨x.cells, _, rfl, ⟨rfl, h x (by simp)⟩, ih fun y hy => h y (by simp [hy])⟩
theorem in_wcols (w : World) {cols : List Col} (hc : cols ∈ wCols) {arr : Array Value} (ha : arr.toList = cols.flatMap Col.cells) {n : Nat} (hn : cols.length = n) : In (w.alloc (.cells arr 67)) (some ⟨w.heap.size, 0, none⟩) n n cols := by
  have h := (wCols_good cols hc)
  exact in_built (heap_alloc_new w _) (by rw [ha]; exact cells_cols cols _ _ fun x hx => (h.1 x hx).1) hn (by have := h.2; unfold maxLen; omega)

set_option maxHeartbeats 1000000 in
set_option maxRecDepth 100000 in
theorem columnsW_any (z : Int) (w : World) : Calls Tryz.prog 41 #[.int .i64 z] w
    fun e w' => (∃ cols m, e = .returned (.slice (some ⟨w.heap.size, 0, none⟩) m m) ∧ In w' (some ⟨w.heap.size, 0, none⟩) m m cols ∧ cols ∈ wCols) ∧ Below w.heap.size w w' := by
  have h4 : 0 ≤ z % 3 := Int.emod_nonneg _ (by omega)
  have h5 : z % 3 < 3 := Int.emod_lt_of_pos _ (by omega)
  obtain hk | hk | hk : z % 3 = 0 ∨ z % 3 = 1 ∨ z % 3 = 2 := by omega
  all_goals
    clear h4 h5
    have HK := hide hk
    clear hk
    go_enter Tryz.func41, Tryz.ntmps41
    go_wp2_with fail
    refine (placeW_any z 3 (by omega) (by omega) _).mono ?_
    rintro e w1 ⟨rfl, rfl⟩
    rw [HK.out]
    go_wp2
    go_ret
  · exact ⟨⟨[cId false, cName true, cAt 4 false], 3, rfl, in_wcols _ (by simp [wCols]) rfl rfl, by simp [wCols]⟩, below_alloc⟩
  · exact ⟨⟨[cAt 4 true, cId true, cOk], 3, rfl, in_wcols _ (by simp [wCols]) rfl rfl, by simp [wCols]⟩, below_alloc⟩
  · exact ⟨⟨[cName false, cAt 2 true], 2, rfl, in_wcols _ (by simp [wCols]) rfl rfl, by simp [wCols]⟩, below_alloc⟩

theorem new_grown {α : Type} [Rep α] {w w2 w3 : World} {gb : Nat} {A : Option Addr} {n c : Nat} {xs : List α} {t : Nat} (ht : t ≠ 81) (hb : TyAt w2 81 gb) (hg : w2.grownBy w3 (some gb)) (h : Sl w2 (New w w2 t) A n c xs) : Sl w3 (New w w3 t) A n c xs := by
  have hs : ∀ k, TyAt w2 t k → w3.heap[k]? = w2.heap[k]? := fun k hk => hg.block k hk.lt fun e => by
    injection e with e
    exact TyAt.ne hk hb ht e
  refine (h.keep fun k hk => hs k hk.2).mono fun k hk => ⟨hk.1, ?_⟩
  obtain ⟨q, hq⟩ := hk.2
  exact ⟨q, (hs k hk.2).trans hq⟩
theorem fresh_grown {w w2 w3 : World} {gb : Nat} {v : Value} {zs : List Ent} (hb : TyAt w2 81 gb) (hg : w2.grownBy w3 (some gb)) (h : FreshEnts w w2 v zs) : FreshEnts w w3 v zs :=
  h.kept hg (by
    by_cases q : v.ownBlock = some gb
    · exact absurd rfl (TyAt.ne (h.row q).2.2 hb (by decide))
    · exact .inr q) fun k e hk => by
      injection e with e
      exact TyAt.ne hk hb (by decide) e.symm
/-- An entry of a table of the world. -/
def TEnt (cols : List Col) (x : Ent) : Prop := x.row.length = cols.length ∧ (∀ i, i < cols.length → Fits (cols.getD i default) (x.row.getD i default)) ∧ 1 ≤ x.count ∧ x.count ≤ 2
/-- The entries so far. -/
structure TabAt (w W : World) (gb : Nat) (A : Option Addr) (n c : Nat) (l : List Int) (cols : List Col) (v : Value) (xs : List Ent) : Prop where
  fresh : FreshEnts w W v xs
  ents : ∀ x ∈ xs, TEnt cols x
  num : ∃ j, Num W gb A n c l j
  grown : w.grownBy W (some gb)
theorem half_small {x : Int} (h0 : 0 ≤ x) (h1 : x < 3) : x.tdiv 2 = x / 2 ∧ 0 ≤ x / 2 ∧ x / 2 ≤ 1 := ⟨Int.tdiv_eq_ediv_of_nonneg h0, by omega, by omega⟩

set_option maxHeartbeats 4000000 in
set_option maxRecDepth 100000 in
theorem tableW_any (w : World) (gb : Nat) (A : Option Addr) (n c : Nat) (l : List Int) (i : Nat) (hN : Num w gb A n c l i) (A1 : Option Addr) (n1 c1 : Nat) (cols : List Col) (hc : Off w gb A1 n1 c1 cols) (hgood : ∀ x ∈ cols, x.good) (hn1 : n1 ≤ 12) (m : Int) (hm0 : 0 ≤ m) (hm : m ≤ 1000) :
    Calls Tryz.prog 22 #[.slice A1 n1 c1, .pointer (some ⟨gb, 0, none⟩), .int .i64 m] w
      fun e w' => ∃ v xs zs q j, e = .returned v ∧ FreshEnts w w' v zs ∧ (∀ x ∈ xs, TEnt cols x) ∧ xs.length ≤ 1000 ∧ Normed xs q zs ∧ Num w' gb A n c l j ∧ w.grownBy w' (some gb) := by
  obtain ⟨i0, hi, hz0, hz1, hz2⟩ := info_parts ent_info
  have hlow := hN.lt
  have hcl := hide hc.inn.len
  have q0 : IntKind.i64.wrap (m + 1) = m + 1 := IntWalk.i64_in _ (by omega)
  go_enter Tryz.func22, Tryz.ntmps22
  go_wp2_with fail
  refine (next_any w gb A n c l i hN (m + 1) (by omega)).mono ?_
  rintro e w1 ⟨⟨s, j, rfl, s0, s1, hn1'⟩, hg1⟩
  have s1 := s1 (by omega)
  have HT0 : Hid (TabAt w w1 gb A n c l cols (.slice none 0 0) []) := hide ⟨FreshEnts.nil _ _, (fun x hx => by cases hx), ⟨_, hn1'⟩, hg1⟩
  clear hn1' hg1 hN
  obtain ⟨s, rfl⟩ : ∃ s' : Nat, s = (s' : Int) := ⟨s.toNat, by omega⟩
  have s2 : s ≤ 1000 := by omega
  clear s0 s1
  go_wp2
  go_loopw [7, 8] (fun o q wr => ∃ (k : Nat) (xs : List Ent), q = .int .i64 k ∧ xs.length + k ≤ 1000 ∧ TabAt w wr gb A n c l cols o xs) (fun _ q _ => (intOf q).toNat)
  case atStart => exact ⟨s, [], rfl, by simp; omega, HT0.out⟩
  case round =>
    obtain ⟨k, xs, rfl, hlen, hT⟩ := hrel
    have HT := hide hT
    clear hT
    obtain ⟨j2, hnum⟩ := HT.out.num
    have hszr := HT.out.grown.size
    by_cases hk : 0 < k
    · have k0 : (0 : Int) < (k : Int) := by omega
      have k2 : IntKind.i64.wrap ((k : Int) - 1) = (k : Int) - 1 := IntWalk.i64_in _ (by omega)
      go_wp2_with fail
      refine (rowW_any wr gb A n c l j2 hnum A1 n1 c1 cols (hc.grown HT.out.grown) hgood (by omega)).mono ?_
      rintro e w2 ⟨B, d, vs, rfl, hR⟩
      obtain ⟨j3, hn3⟩ := hR.num
      have HR := hide hR
      have HN3 := hide hn3
      clear hR
      go_wp2_with fail
      refine (next_any w2 gb A n c l j3 hn3 3 (by omega)).mono ?_
      rintro e w3 ⟨⟨x, j4, rfl, x0, x1, hn4⟩, hg4⟩
      have x1 := x1 (by omega)
      obtain ⟨p1, p2, p3⟩ := half_small x0 x1
      have p4 : IntKind.i64.wrap (x / 2) = x / 2 := IntWalk.i64_in _ (by omega)
      have p5 : IntKind.i64.wrap (1 + x / 2) = 1 + x / 2 := IntWalk.i64_in _ (by omega)
      have HN4 := hide hn4
      have HG4 := hide hg4
      have hnum' := hnum
      clear hnum hn3 hn4 hg4
      have HSZ3 : Hid (w.heap.size ≤ w3.heap.size) := hide (Nat.le_trans (Nat.le_trans hszr HR.out.grown.size) HG4.out.size)
      have hsz3 := HSZ3.out
      have HF3 := hide (fresh_grown HN3.out.blk.ty HG4.out (fresh_grown hnum'.blk.ty HR.out.grown HT.out.fresh))
      have HSL : Hid (Sl w2 (New w w2 65) B n1 d vs) := hide (by
        have hl := HR.out.len
        obtain ⟨A', c', hv, hs, _⟩ := sl_of_own (S := fun _ => False) (T := New w w2 65) HR.out.stk.own (cells_flat w2 _ HR.out.stk.ok) (fun _ h => h.elim) rfl (fun g hg ht => ⟨Nat.le_trans hszr hg, ht⟩)
        injection hv with h1 _ h3
        subst h1 h3
        rw [hl] at hs
        exact hs)
      have HSL3 := hide (new_grown (by decide) HN3.out.blk.ty HG4.out HSL.out)
      have HENT : Hid (TEnt cols ⟨vs, 1 + x / 2⟩) := hide ⟨by show vs.length = _; rw [HR.out.len, hcl.out], fun i hi => HR.out.fits i (by rw [← hcl.out]; exact hi), by show 1 ≤ 1 + x / 2; omega, by show 1 + x / 2 ≤ 2; omega⟩
      obtain ⟨cs, hown, hcells⟩ := HF3.out
      obtain ⟨kx, hkx⟩ : ∃ kx, xs.length = kx := ⟨_, rfl⟩
      rw [hkx] at hown
      have HKX := hide hkx
      have hkx1 : kx ≤ 1000 := by omega
      have HOW := hide hown
      have HCE := hide hcells
      clear hkx hown hcells
      go_wp2_with (at_builtin; refine wpList_append_src _ rfl (.tmp 19) (.tmp 28) 26 rfl w.heap.size 63 i0 _ 2 32 Tryz.underlying26 hi hz0 hz1 hz2 rfl (by decide) u7 kx cs rfl (HOW.out.alloc _) (some ⟨w3.heap.size, 0, none⟩) 1 1 [.slice B n1 d, .int .i64 (1 + x / 2)] rfl (by intro h; cases h) (src_two (by simp [go_sem]) (by simp [go_sem])) one_ent (by simp only [maxLen]; omega) (by omega) (by simp; omega) ?_; intro v1 w5 hown1 hg1 hat1)
      have HBX : Hid (Below w.heap.size (w3.alloc (.cells #[.slice B n1 d, .int .i64 (1 + x / 2)] 63)) w5) := hide ((Below.refl _ _).grown hg1 (by simp; omega) (fun j e => (HOW.out.lt j e).1))
      have HTN : Hid (TabAt w w5 gb A n c l cols v1 (xs ++ [⟨vs, 1 + x / 2⟩])) := hide (by
        refine ⟨FreshEnts.add (x := ⟨vs, 1 + x / 2⟩) (by rw [HKX.out]; exact HOW.out.alloc _) ((HCE.out.keep ((Same.below below_alloc).sub fun k hk => hk.2.lt)).mono fun k hk => ⟨hk.1, hk.2.below below_alloc⟩) ((HSL3.out.keep ((Same.below below_alloc).sub fun k hk => hk.2.lt)).mono fun k hk => ⟨hk.1, hk.2.below below_alloc⟩) ⟨by show -9223372036854775808 ≤ 1 + x / 2; omega, by show 1 + x / 2 ≤ 9223372036854775807; omega⟩ (fun k hk hne => hg1.block k hk (fun e => hne e.symm)) (by rw [HKX.out]; exact hown1), fun y hy => ?_, ⟨j4, (HN4.out.below below_alloc).low HBX.out hlow⟩, grown_low (((HT.out.grown.trans HR.out.grown).trans HG4.out).trans (Below.grows below_alloc _)) HBX.out⟩
        rcases List.mem_append.1 hy with hy | hy
        · exact HT.out.ents y hy
        · simp at hy; subst hy; exact HENT.out)
      clear hown1 hg1 hat1
      go_wp2
      go_roundw
      case rel => exact ⟨k - 1, xs ++ [⟨vs, 1 + x / 2⟩], by go_num, by rw [List.length_append]; show xs.length + 1 + (k - 1) ≤ 1000; omega, HTN.out⟩
      case measure => simp [intOf]; omega
    · have hk0 : k = 0 := by omega
      subst hk0
      obtain ⟨A7, c7, rfl, hin⟩ := HT.out.fresh.sl
      go_wp2_with fail
      refine (normalize_ref wr A7 _ c7 xs hin (by omega)).mono ?_
      rintro e w2 ⟨⟨v, q, zs, rfl, hf, hn⟩, hb2⟩
      have HF := hide (hf.base hszr)
      have HN := hide hn
      have HB2 := hide hb2
      have HNU := hide hnum
      clear hf hn hb2 hnum hin
      go_wp2
      go_ret
      exact ⟨v, xs, zs, q, j2, rfl, HF.out, HT.out.ents, by omega, HN.out, HNU.out.below HB2.out, HT.out.grown.trans (Below.grows HB2.out _)⟩

section
variable {P : Program}
theorem results_cells4 {fn : Func} {a p b c : Tmp} {ty : TypeId} (h : fn.results = #[.tmp a, .cell p ty, .tmp b, .tmp c]) (tmps : Array Value) (w : World) (g : Nat) (cs : List Value) (d : TypeDesc) (ua ub uc : Value)
    (hp : tmps.getD p undef = .pointer (some ⟨g, 0, none⟩)) (ha : tmps.getD a undef = ua) (hb : tmps.getD b undef = ub) (hc' : tmps.getD c undef = uc) (hc : ∀ j v, cs[j]? = some v → w.cell? ⟨g, j, none⟩ = some v)
    (hu : P.underlying ty = some d) (hd : (match d with | .struct _ | .array _ _ => true | _ => false) = true) (hi : (P.info? ty).map (·.size) = some cs.length) :
    (results fn tmps).run P w = .ok (.tuple #[ua, .agg cs.toArray, ub, uc]) w := by
  have h1 := results_cells (P := P) (fn := { fn with results := #[.cell p ty] }) (p := p) (ty := ty) rfl tmps w g cs d hp hc hu hd hi
  have hp' : tmps[p]?.getD undef = .pointer (some ⟨g, 0, none⟩) := by simpa using hp
  have hl : (loadVar ty ⟨g, 0, none⟩).run P w = .ok (.agg cs.toArray) w := by
    simp only [results] at h1
    simpa [hp', asAddr, Sem.run_bind, Result.andThen] using h1
  have ha' : tmps[a]?.getD undef = ua := by simpa using ha
  have hb' : tmps[b]?.getD undef = ub := by simpa using hb
  have hc'' : tmps[c]?.getD undef = uc := by simpa using hc'
  simp [results, h, hp', ha', hb', hc'', asAddr, hl]
end
/-- A list in blocks from B on. -/
def Hi {α : Type} [Rep α] (B : Nat) (w : World) (A : Option Addr) (n c : Nat) (xs : List α) : Prop := Sl w (fun k => B ≤ k ∧ k < w.heap.size) A n c xs
section
variable {α : Type} [Rep α] {B gb : Nat} {w w' : World} {A : Option Addr} {n c : Nat} {xs : List α}
theorem Hi.inn (h : Hi B w A n c xs) : In w A n c xs := Sl.mono (fun k hk => hk.2) h
theorem Hi.off (h : Hi B w A n c xs) (hg : gb < B) : Off w gb A n c xs := Sl.mono (fun k hk => ⟨hk.2, by omega⟩) h
theorem Hi.grown {row : Option Nat} (h : Hi B w A n c xs) (hg : w.grownBy w' row) (hr : ∀ k, row = some k → k < B) : Hi B w' A n c xs :=
  (Sl.keep (fun k hk => hg.block k hk.2 fun e => by have := hr k e.symm; omega) h).mono fun k hk => ⟨hk.1, Nat.lt_of_lt_of_le hk.2 hg.size⟩
theorem Hi.below (h : Hi B w A n c xs) (hb : Below w.heap.size w w') : Hi B w' A n c xs := h.grown (row := none) (Below.grows hb _) fun k e => by cases e
theorem hi_of (h : In w A n c xs) (hr : ∀ (S T : Nat → Prop) (cs : List Value) (a : α), Rep.rd w S cs a → Rep.rd w T cs a) (hb : ∀ b off, A = some ⟨b, off, none⟩ → B ≤ b) : Hi B w A n c xs := by
  refine ⟨h.1, h.2.1, h.2.2.1, h.2.2.2.1, fun hn => ?_⟩
  obtain ⟨b, off, e, hlt, hi⟩ := h.2.2.2.2 hn
  refine ⟨b, off, e, ⟨hb b off e, hlt⟩, fun i hi' => ?_⟩
  obtain ⟨cs, h1, h3⟩ := hi i hi'
  exact ⟨cs, hr _ _ cs _ h1, h3⟩
end
theorem FreshEnts.hi {w w' : World} {v : Value} {zs : List Ent} (h : FreshEnts w w' v zs) : ∃ A c, v = .slice A zs.length c ∧ Hi w.heap.size w' A zs.length c zs := by
  obtain ⟨cs, h1, h2⟩ := h
  obtain ⟨A, c, e, hs, _⟩ := sl_of_own (T := fun k => w.heap.size ≤ k ∧ k < w'.heap.size) h1 h2 (fun k hk => ⟨hk.1, hk.2.lt⟩) rfl (fun g hb hg => ⟨hb, hg.lt⟩)
  exact ⟨A, c, e, hs⟩
/-- What a table of the world is: Normalize's answer on entries that fit. -/
def TabOf (cols : List Col) (zs : List Ent) : Prop := ∃ xs q, (∀ x ∈ xs, TEnt cols x) ∧ xs.length ≤ 1000 ∧ Normed xs q zs
set_option maxHeartbeats 4000000 in
set_option maxRecDepth 100000 in
theorem tableL_any (w : World) (A : Option Addr) (n c : Nat) (l : List Int) (hl : In w A n c l) (hn : n ≤ 80) (nn zz : Int) :
    Calls Tryz.prog 14 #[.int .i64 nn, .int .i64 zz, .slice A n c] w
      fun e w' => (∃ gb A1 m1 cols Z A2 m2 c2 A3 m3 c3 zs j, e = .returned (.tuple #[.slice A1 m1 m1, .agg #[.string Z.name, .int .i64 Z.offset, .slice A2 m2 c2], .slice A3 m3 c3, .pointer (some ⟨gb, 0, none⟩)]) ∧
        Off w' gb A1 m1 m1 cols ∧ cols ∈ wCols ∧ Off w' gb A2 m2 c2 Z.shifts ∧ Z ∈ wZones ∧ Off w' gb A3 m3 c3 zs ∧ TabOf cols zs ∧ Num w' gb A n c l j ∧ w.heap.size ≤ gb) ∧ Below w.heap.size w w' := by
  go_enter Tryz.func14, Tryz.ntmps14
  go_wp2_with fail
  have HN1 := hide (Num.made (w.alloc (.cells #[.string ⟨#[]⟩, .int .i64 0, .slice none 0 0] 25)) A n c l (hl.below below_alloc) (by omega))
  rw [World.size_alloc] at HN1
  have hb01 : Below w.heap.size w ((w.alloc (.cells #[.string ⟨#[]⟩, .int .i64 0, .slice none 0 0] 25)).alloc (.cells #[.slice A n c, .int .i64 0] 81)) := below_alloc2
  have hr0 : RowBlk ((w.alloc (.cells #[.string ⟨#[]⟩, .int .i64 0, .slice none 0 0] 25)).alloc (.cells #[.slice A n c, .int .i64 0] 81)) w.heap.size 25 3 := (RowBlk.made w _ _ 3 rfl).below below_alloc
  have hs01 : ((w.alloc (.cells #[.string ⟨#[]⟩, .int .i64 0, .slice none 0 0] 25)).alloc (.cells #[.slice A n c, .int .i64 0] 81)).heap.size = w.heap.size + 2 := by rw [World.size_alloc, World.size_alloc]
  generalize ((w.alloc (.cells #[.string ⟨#[]⟩, .int .i64 0, .slice none 0 0] 25)).alloc (.cells #[.slice A n c, .int .i64 0] 81)) = W1 at *
  refine (columnsW_any nn W1).mono ?_
  rintro e w2 ⟨⟨cols, m1, rfl, hin, hcm⟩, hb2⟩
  have HOC : Hid (Hi (w.heap.size + 2) w2 (some ⟨W1.heap.size, 0, none⟩) m1 m1 cols) := hide (hi_of (B := w.heap.size + 2) hin (fun _ _ _ _ h => h) fun b off e => by injection e with e; injection e with e1 e2; omega)
  have HB2 := hide (below_trans hb01 hb2)
  have HN2 := hide (HN1.out.below hb2)
  have HR2 := hide (hr0.below hb2)
  have hs2 : w.heap.size + 2 ≤ w2.heap.size := by have := hb2.size; omega
  have HS2 := hide hs2
  clear hb01 hb2 hin hs01 hr0 HN1 hs2
  go_wp2_with fail
  refine (zoneW_any zz w2).mono ?_
  rintro e w3 ⟨⟨Z, A2, m2, c2, rfl, hinZ, hmZ, hfrZ⟩, hb3⟩
  have HB3 := hide (below_trans HB2.out hb3)
  have HN3 := hide (HN2.out.below hb3)
  have HR3 := hide (HR2.out.below hb3)
  have HO3 := hide (HOC.out.below hb3)
  have HS3 : Hid (w.heap.size + 2 ≤ w3.heap.size) := hide (Nat.le_trans HS2.out hb3.size)
  have HZ3 : Hid (Hi (w.heap.size + 2) w3 A2 m2 c2 Z.shifts) := hide (hi_of hinZ (fun _ _ _ _ h => h) fun b off e => by have := hfrZ b off e; have := HS2.out; omega)
  clear hb3 hinZ hfrZ HB2 HN2 HR2 HOC HS2
  have hcg := wCols_good cols hcm
  have hm1 := HO3.out.inn.len
  go_wp2_with fail
  refine (tableW_any w3 (w.heap.size + 1) A n c l 0 HN3.out _ m1 m1 cols (HO3.out.off (by omega)) hcg.1 (by omega) 10 (by omega) (by omega)).mono ?_
  rintro e w4 ⟨v4, xs, zs, q, j, rfl, hf, hx, hxl, hno, hn4, hg4⟩
  obtain ⟨A4, c4, rfl, hin4⟩ := hf.hi
  have hlow : w.heap.size + 1 ≤ w3.heap.size := by have := HS3.out; omega
  have HB4 : Hid (Below w.heap.size w w4) := hide (below_of_grown HB3.out hg4 (by omega) (by omega))
  have hk : ∀ k, k < w3.heap.size → k ≠ w.heap.size + 1 → w4.heap[k]? = w3.heap[k]? := fun k h1 h2 => hg4.block k h1 fun e => by injection e with e; exact h2 e
  have HR4 : Hid (RowBlk w4 w.heap.size 25 3) := hide (by
    obtain ⟨cur, h1, h2⟩ := HR3.out
    exact ⟨cur, (hk _ (by omega) (by omega)).trans h1, h2⟩)
  have HO4 := hide (HO3.out.grown hg4 (fun k e => by injection e with e; omega))
  have HZ4 := hide (HZ3.out.grown hg4 (fun k e => by injection e with e; omega))
  have HF4 : Hid (TabOf cols zs) := hide ⟨xs, q, hx, hxl, hno⟩
  have HN4 := hide hn4
  have HI4 := hide hin4
  obtain ⟨cu0, e0⟩ := HR4.out.cell (o := 0) (by omega)
  obtain ⟨cu1, e1⟩ := HR4.out.cell (o := 1) (by omega)
  obtain ⟨cu2, e2⟩ := HR4.out.cell (o := 2) (by omega)
  have b0 := HR4.out.frozen 0
  have b1 := HR4.out.frozen 1
  have b2 := HR4.out.frozen 2
  have E0 := hide e0
  have E1 := hide e1
  have E2 := hide e2
  clear hf hx hno hn4 hg4 hin4 hk
  go_wp2
  have GZ : w4.grownBy (((w4.setCell ⟨w.heap.size, 0, none⟩ (.string Z.name)).setCell ⟨w.heap.size, 1, none⟩ (.int .i64 Z.offset)).setCell ⟨w.heap.size, 2, none⟩ (.slice A2 m2 c2)) (some w.heap.size) := (grown_set.trans grown_set).trans grown_set
  have hs3 := HS3.out
  have hc := set_three (v0 := .string Z.name) (v1 := .int .i64 Z.offset) (v2 := .slice A2 m2 c2) E0.out E1.out E2.out
  have HBZ : Below w.heap.size w (((w4.setCell ⟨w.heap.size, 0, none⟩ (.string Z.name)).setCell ⟨w.heap.size, 1, none⟩ (.int .i64 Z.offset)).setCell ⟨w.heap.size, 2, none⟩ (.slice A2 m2 c2)) := ((HB4.out.setCell (Nat.le_refl _) _).setCell (Nat.le_refl _) _).setCell (Nat.le_refl _) _
  have HNZ : Num (((w4.setCell ⟨w.heap.size, 0, none⟩ (.string Z.name)).setCell ⟨w.heap.size, 1, none⟩ (.int .i64 Z.offset)).setCell ⟨w.heap.size, 2, none⟩ (.slice A2 m2 c2)) (w.heap.size + 1) A n c l j :=
    ⟨set_far (set_far (set_far HN4.out.c0 (.inl (by omega))) (.inl (by omega))) (.inl (by omega)), set_far (set_far (set_far HN4.out.c1 (.inl (by omega))) (.inl (by omega))) (.inl (by omega)), ((HN4.out.blk.set _ _ _).set _ _ _).set _ _ _, (Sl.keep (Same.below HBZ) hl).mono fun k hk => Nat.lt_succ_of_lt hk, HN4.out.le, HN4.out.nn⟩
  refine bodyPost_ret (v := .tuple #[.slice (some ⟨W1.heap.size, 0, none⟩) m1 m1, .agg #[.string Z.name, .int .i64 Z.offset, .slice A2 m2 c2], .slice A4 zs.length c4, .pointer (some ⟨w.heap.size + 1, 0, none⟩)]) (results_cells4 (cs := [.string Z.name, .int .i64 Z.offset, .slice A2 m2 c2]) rfl _ _ w.heap.size _ _ _ _ rfl rfl rfl rfl hc Tryz.underlying25 rfl (by kernel_rfl)) rfl
    ⟨⟨w.heap.size + 1, _, m1, cols, Z, A2, m2, c2, A4, _, c4, zs, j, rfl, (HO4.out.grown GZ (fun k e => by injection e with e; omega)).off (by omega), hcm, (HZ4.out.grown GZ (fun k e => by injection e with e; omega)).off (by omega), hmZ, (HI4.out.grown GZ (fun k e => by injection e with e; omega)).off (by omega), HF4.out, HNZ, Nat.le_succ _⟩, HBZ⟩
end Go.Proofs.YtlbhnfnecfllkaaGreat
