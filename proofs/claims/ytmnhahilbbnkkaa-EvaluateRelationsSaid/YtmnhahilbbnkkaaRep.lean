/-
  How data lies in memory: a class 'Rep' (what cells of a world a datum reads as), with its instances for ints, bools, strings, slices and the structs of package api; its frame; and the road from the claim's own reading ('DataW.trod') to it. No program is in sight.
-/
import Derived.WalkKit
import Derived.Deep.Slices
import Derived.ChangeSame
namespace Go.Proofs.Ytmnhahilbbnkkaa
set_option linter.unusedVariables false
set_option linter.unusedSimpArgs false
open Go.RowKit Go.ChangeShapes Go.WideShapes

/-- The blocks of S are in w' as in w. -/
def Same (S : Nat → Prop) (w w' : World) : Prop := ∀ k, S k → w'.heap[k]? = w.heap[k]?
theorem Same.refl (S : Nat → Prop) (w : World) : Same S w w := fun _ _ => rfl
theorem Same.trans {S : Nat → Prop} {a b c : World} (h : Same S a b) (h' : Same S b c) : Same S a c := fun k hk => (h' k hk).trans (h k hk)
theorem Same.sub {S T : Nat → Prop} {a b : World} (h : Same T a b) (hs : ∀ k, S k → T k) : Same S a b := fun k hk => h k (hs k hk)
theorem Same.below {B : Nat} {w w' : World} (h : Below B w w') : Same (· < B) w w' := fun k hk => h.block k hk
theorem Same.cell {S : Nat → Prop} {w w' : World} (h : Same S w w') {a : Addr} (ha : S a.block) : w'.cell? a = w.cell? a := World.cell?_of_block (w := w) (h _ ha)

class Rep (α : Type) where
  size : Nat
  rd : World → (Nat → Prop) → List Value → α → Prop
  len : ∀ {w : World} {S : Nat → Prop} {cs : List Value} {a : α}, rd w S cs a → cs.length = size
  keep : ∀ {w w' : World} {S : Nat → Prop} {cs : List Value} {a : α}, Same S w w' → rd w S cs a → rd w' S cs a
  mono : ∀ {w : World} {S T : Nat → Prop} {cs : List Value} {a : α}, (∀ k, S k → T k) → rd w S cs a → rd w T cs a

/-- An int. -/
def I64 (n : Int) : Prop := -9223372036854775808 ≤ n ∧ n ≤ 9223372036854775807
instance : Rep Int where
  size := 1
  rd _ _ cs n := cs = [.int .i64 n] ∧ I64 n
  len h := by rw [h.1]; rfl
  keep _ h := h
  mono _ h := h
instance : Rep Bool where
  size := 1
  rd _ _ cs b := cs = [.bool b]
  len h := by rw [h]; rfl
  keep _ h := h
  mono _ h := h
instance : Rep ByteArray where
  size := 1
  rd _ _ cs s := cs = [.string s] ∧ s.size ≤ 9223372036854775807
  len h := by rw [h.1]; rfl
  keep _ h := h
  mono _ h := h

/-- The cells of an element lie at b, off. -/
def At {α : Type} [Rep α] (w : World) (S : Nat → Prop) (b off : Nat) (a : α) : Prop :=
  ∃ cs : List Value, Rep.rd w S cs a ∧ ∀ j, (hj : j < cs.length) → w.cell? ⟨b, off + j, none⟩ = some cs[j]
theorem At.keep {α : Type} [Rep α] {w w' : World} {S : Nat → Prop} {b off : Nat} {a : α} (hb : S b) (hs : Same S w w') (h : At w S b off a) : At w' S b off a := by
  obtain ⟨cs, h1, h2⟩ := h
  exact ⟨cs, Rep.keep hs h1, fun j hj => (hs.cell (a := ⟨b, off + j, none⟩) hb).trans (h2 j hj)⟩
theorem At.mono {α : Type} [Rep α] {w : World} {S T : Nat → Prop} {b off : Nat} {a : α} (hs : ∀ k, S k → T k) (h : At w S b off a) : At w T b off a := by
  obtain ⟨cs, h1, h2⟩ := h
  exact ⟨cs, Rep.mono hs h1, h2⟩

/-- A slice value reads as a list. -/
def Sl {α : Type} [Rep α] (w : World) (S : Nat → Prop) (A : Option Addr) (n c : Nat) (xs : List α) : Prop :=
  xs.length = n ∧ n ≤ c ∧ c ≤ 9223372036854775807 ∧ (A = none → c = 0) ∧
    (0 < n → ∃ b off, A = some ⟨b, off, none⟩ ∧ S b ∧ ∀ i, (hi : i < xs.length) → At w S b (off + i * Rep.size α) xs[i])
section
variable {α : Type} [Rep α] {w w' : World} {S T : Nat → Prop} {A : Option Addr} {n c : Nat} {xs : List α}
theorem Sl.keep (hs : Same S w w') (h : Sl w S A n c xs) : Sl w' S A n c xs := by
  refine ⟨h.1, h.2.1, h.2.2.1, h.2.2.2.1, fun hn => ?_⟩
  obtain ⟨b, off, e, hb, hi⟩ := h.2.2.2.2 hn
  exact ⟨b, off, e, hb, fun i h' => (hi i h').keep hb hs⟩
theorem Sl.mono (hs : ∀ k, S k → T k) (h : Sl w S A n c xs) : Sl w T A n c xs := by
  refine ⟨h.1, h.2.1, h.2.2.1, h.2.2.2.1, fun hn => ?_⟩
  obtain ⟨b, off, e, hb, hi⟩ := h.2.2.2.2 hn
  exact ⟨b, off, e, hs _ hb, fun i h' => (hi i h').mono hs⟩
theorem Sl.len (h : Sl w S A n c xs) : xs.length = n := h.1
theorem Sl.nil_ : Sl (α := α) w S none 0 0 [] := ⟨rfl, Nat.le_refl _, by omega, fun _ => rfl, fun h => absurd h (by omega)⟩
theorem Sl.empty (h : c ≤ 9223372036854775807) (hA : A = none → c = 0) : Sl (α := α) w S A 0 c [] := ⟨rfl, by omega, h, hA, fun h => absurd h (by omega)⟩
end
instance {α : Type} [Rep α] : Rep (List α) where
  size := 1
  rd w S cs xs := ∃ A n c, cs = [.slice A n c] ∧ Sl w S A n c xs
  len h := by obtain ⟨A, n, c, rfl, _⟩ := h; rfl
  keep hs h := by obtain ⟨A, n, c, rfl, h⟩ := h; exact ⟨A, n, c, rfl, h.keep hs⟩
  mono hs h := by obtain ⟨A, n, c, rfl, h⟩ := h; exact ⟨A, n, c, rfl, h.mono hs⟩

/-! ### The claim's own reading gives a Rep -/
def Opens (P : Program) (t : TypeId) (α : Type) [Rep α] : Prop :=
  ∀ (H : Type) (enc : TypeId × Value → H) (w : World) (spare : Nat → Bool) (held : Bool) (fuel : Nat) (cs : List Value) (y : DataW H × List MemPlace),
    DataW.trod enc P w 0 spare held fuel t cs = some y → ∃ a : α, Rep.rd w (· < w.heap.size) cs a
section
variable {P : Program} {t e : TypeId}
theorem wf_i64 {n : Int} (h : (Lit.int .i64 n).wf = true) : I64 n := by
  simp [Lit.wf, IntKind.min, IntKind.max, IntKind.signed, IntKind.bits] at h
  unfold I64
  omega
theorem opens_int (h : P.underlying t = some (.int .i64)) : Opens P t Int := fun _ _ _ _ _ _ _ _ hy => by
  obtain ⟨n, hc, _, hw⟩ := DataW.trod_int h hy
  exact ⟨n, hc, wf_i64 hw⟩
theorem opens_bool (h : P.underlying t = some .bool) : Opens P t Bool := fun _ _ _ _ _ _ _ _ hy => by
  obtain ⟨b, hc, _⟩ := DataW.trod_bool h hy
  exact ⟨b, hc⟩
theorem opens_string (h : P.underlying t = some .string) : Opens P t ByteArray := fun _ _ _ _ _ _ _ _ hy => by
  obtain ⟨s, hc, _, hw⟩ := DataW.trod_string h hy
  exact ⟨s, hc, by unfold maxLen at hw; omega⟩
theorem lt_of_cell {w : World} {a : Addr} {v : Value} (h : w.cell? a = some v) : a.block < w.heap.size := block_lt_of_cell h
theorem opens_slice {α : Type} [Rep α] [Inhabited α] (h : P.underlying t = some (.slice e)) (hsz : P.cellsOf e = Rep.size α) (hpos : 0 < Rep.size α) (he : Opens P e α) : Opens P t (List α) := fun H enc w spare held fuel cs y hy => by
  rcases Go.Deep.open_slice h hy with ⟨hc, _⟩ | ⟨a, len, cap, m, n, D, Pl, hcs, hb, hl, hm, hmm, hx, hi⟩
  · exact ⟨[], none, 0, 0, hc, Sl.nil_⟩
  · have hmax : cap ≤ 9223372036854775807 := by unfold maxLen at hm; omega
    have hm' : len ≤ m := by rw [hmm]; split <;> omega
    have H1 : ∀ i, i < len → ∃ x : α, ∃ cs', w.cells? 0 (a.add (i * P.cellsOf e)) (P.cellsOf e) = some cs' ∧ Rep.rd w (· < w.heap.size) cs' x := fun i hil => by
      obtain ⟨cs', hc', ht⟩ := hi i (by omega)
      obtain ⟨x, hx⟩ := he H enc w spare held n cs' _ ht
      exact ⟨x, cs', hc', hx⟩
    obtain ⟨f, hf⟩ := Go.Deep.choose_lt H1
    refine ⟨(List.range len).map f, some a, len, cap, hcs, by simp, hl, hmax, (fun h => by cases h), fun hn => ?_⟩
    have hspot : a.spot = none := by
      obtain ⟨cs', hc', hr⟩ := hf 0 hn
      obtain ⟨_, hlen, hcell⟩ := World.cells?_some hc'
      have h0 := hcell 0 (by omega)
      rw [List.getElem?_eq_getElem (by omega)] at h0
      have := World.cell?_spot h0
      simpa [Addr.add] using this
    obtain ⟨b, off, spot⟩ := a
    obtain rfl : spot = none := hspot
    have hblk : b < w.heap.size := by
      obtain ⟨cs', hc', hr⟩ := hf 0 hn
      obtain ⟨_, hlen, hcell⟩ := World.cells?_some hc'
      have h0 := hcell 0 (by omega)
      rw [List.getElem?_eq_getElem (by omega)] at h0
      have := lt_of_cell h0
      simpa [Addr.add] using this
    refine ⟨b, off, rfl, hblk, fun i hi' => ?_⟩
    have hil : i < len := by simpa using hi'
    obtain ⟨cs', hc', hr⟩ := hf i hil
    obtain ⟨_, hlen, hcell⟩ := World.cells?_some hc'
    refine ⟨cs', by simpa using hr, fun j hj => ?_⟩
    have := hcell j (by omega)
    rw [List.getElem?_eq_getElem hj] at this
    rw [← this]
    congr 1
    unfold Addr.add
    by_cases h1 : i * P.cellsOf e = 0 <;> by_cases h2 : j = 0 <;> simp_all [Nat.add_assoc]
end

/-! ### The structs of package api -/
structure Val where
  kind : Int
  num : Int
  str : ByteArray
structure Col where
  name : ByteArray
  kind : Int
  nullable : Bool
structure Ent where
  row : List Val
  count : Int
structure Rel where
  name : ByteArray
  columns : List Col
  keys : List (List ByteArray)
  rows : List Ent
structure Shift where
  at_ : Int
  offset : Int
structure Zone where
  name : ByteArray
  offset : Int
  shifts : List Shift
structure Node where
  op : Int
  value : Val
  name : ByteArray
  arity : Int
instance : Inhabited Val := ⟨⟨0, 0, ByteArray.empty⟩⟩
instance : Inhabited Col := ⟨⟨ByteArray.empty, 0, false⟩⟩
instance : Inhabited Ent := ⟨⟨[], 0⟩⟩
instance : Inhabited Shift := ⟨⟨0, 0⟩⟩
instance : Inhabited Zone := ⟨⟨ByteArray.empty, 0, []⟩⟩
instance : Inhabited Node := ⟨⟨0, default, ByteArray.empty, 0⟩⟩

def Str (s : ByteArray) : Prop := s.size ≤ 9223372036854775807
def Val.ok (v : Val) : Prop := I64 v.kind ∧ I64 v.num ∧ Str v.str
def Col.ok (c : Col) : Prop := Str c.name ∧ I64 c.kind
def Node.ok (n : Node) : Prop := I64 n.op ∧ n.value.ok ∧ Str n.name ∧ I64 n.arity
def Val.cells (v : Val) : List Value := [.int .i64 v.kind, .int .i64 v.num, .string v.str]
def Col.cells (c : Col) : List Value := [.string c.name, .int .i64 c.kind, .bool c.nullable]
def Shift.cells (s : Shift) : List Value := [.int .i64 s.at_, .int .i64 s.offset]
def Node.cells (n : Node) : List Value := [.int .i64 n.op, .int .i64 n.value.kind, .int .i64 n.value.num, .string n.value.str, .string n.name, .int .i64 n.arity]
instance : Rep Val where
  size := 3
  rd _ _ cs v := cs = v.cells ∧ v.ok
  len h := by rw [h.1]; rfl
  keep _ h := h
  mono _ h := h
instance : Rep Col where
  size := 3
  rd _ _ cs v := cs = v.cells ∧ v.ok
  len h := by rw [h.1]; rfl
  keep _ h := h
  mono _ h := h
instance : Rep Shift where
  size := 2
  rd _ _ cs v := cs = v.cells ∧ I64 v.at_ ∧ I64 v.offset
  len h := by rw [h.1]; rfl
  keep _ h := h
  mono _ h := h
instance : Rep Node where
  size := 6
  rd _ _ cs v := cs = v.cells ∧ v.ok
  len h := by rw [h.1]; rfl
  keep _ h := h
  mono _ h := h
instance : Rep Ent where
  size := 2
  rd w S cs x := ∃ A n c, cs = [.slice A n c, .int .i64 x.count] ∧ Sl w S A n c x.row ∧ I64 x.count
  len h := by obtain ⟨A, n, c, rfl, _⟩ := h; rfl
  keep hs h := by obtain ⟨A, n, c, rfl, h, hc⟩ := h; exact ⟨A, n, c, rfl, h.keep hs, hc⟩
  mono hs h := by obtain ⟨A, n, c, rfl, h, hc⟩ := h; exact ⟨A, n, c, rfl, h.mono hs, hc⟩
instance : Rep Zone where
  size := 3
  rd w S cs x := ∃ A n c, cs = [.string x.name, .int .i64 x.offset, .slice A n c] ∧ Sl w S A n c x.shifts ∧ Str x.name ∧ I64 x.offset
  len h := by obtain ⟨A, n, c, rfl, _⟩ := h; rfl
  keep hs h := by obtain ⟨A, n, c, rfl, h, hc⟩ := h; exact ⟨A, n, c, rfl, h.keep hs, hc⟩
  mono hs h := by obtain ⟨A, n, c, rfl, h, hc⟩ := h; exact ⟨A, n, c, rfl, h.mono hs, hc⟩
instance : Rep Rel where
  size := 4
  rd w S cs x := ∃ A n c A' n' c' A'' n'' c'', cs = [.string x.name, .slice A n c, .slice A' n' c', .slice A'' n'' c''] ∧ Sl w S A n c x.columns ∧ Sl w S A' n' c' x.keys ∧ Sl w S A'' n'' c'' x.rows ∧ Str x.name
  len h := by obtain ⟨_, _, _, _, _, _, _, _, _, rfl, _⟩ := h; rfl
  keep hs h := by obtain ⟨A, n, c, A', n', c', A'', n'', c'', rfl, h1, h2, h3, h4⟩ := h; exact ⟨A, n, c, A', n', c', A'', n'', c'', rfl, h1.keep hs, h2.keep hs, h3.keep hs, h4⟩
  mono hs h := by obtain ⟨A, n, c, A', n', c', A'', n'', c'', rfl, h1, h2, h3, h4⟩ := h; exact ⟨A, n, c, A', n', c', A'', n'', c'', rfl, h1.mono hs, h2.mono hs, h3.mono hs, h4⟩

section
variable {P : Program} {t : TypeId}
/-- Field i of a struct lies at its offset and reads as β. -/
def FieldAt (P : Program) (f : Field) (o : Nat) (β : Type) [Rep β] : Prop := f.offset = o ∧ P.cellsOf f.type = Rep.size β ∧ Opens P f.type β
theorem opens_two {α β γ : Type} [Rep α] [Rep β] [Rep γ] {f0 f1 : Field} (h : P.underlying t = some (.struct #[f0, f1])) (hc : P.cellsOf t = Rep.size α + Rep.size β)
    (h0 : FieldAt P f0 0 α) (h1 : FieldAt P f1 (Rep.size α) β)
    (mk : ∀ w S ca cb (a : α) (b : β), Rep.rd w S ca a → Rep.rd w S cb b → ∃ g : γ, Rep.rd w S (ca ++ cb) g) : Opens P t γ := fun H enc w spare held fuel cs y hy => by
  obtain ⟨xs, n, _, _, hl, hlen, hf⟩ := DataW.trod_struct h hy
  match xs, hlen with
  | [y0, y1], _ =>
    have e0 := hf 0 f0 rfl
    have e1 := hf 1 f1 rfl
    rw [h0.1, h0.2.1] at e0
    rw [h1.1, h1.2.1] at e1
    obtain ⟨a, ra⟩ := h0.2.2 H enc w spare held n _ y0 (by simpa using e0)
    obtain ⟨b, rb⟩ := h1.2.2 H enc w spare held n _ y1 (by simpa using e1)
    obtain ⟨g, rg⟩ := mk _ _ _ _ a b ra rb
    refine ⟨g, ?_⟩
    have : cs = (cs.drop 0).take (Rep.size α) ++ (cs.drop (Rep.size α)).take (Rep.size β) := by
      rw [List.drop_zero, List.take_of_length_le (l := cs.drop (Rep.size α)) (by rw [List.length_drop]; omega), List.take_append_drop]
    rw [this]
    exact rg
theorem opens_three {α β δ γ : Type} [Rep α] [Rep β] [Rep δ] [Rep γ] {f0 f1 f2 : Field} (h : P.underlying t = some (.struct #[f0, f1, f2])) (hc : P.cellsOf t = Rep.size α + Rep.size β + Rep.size δ)
    (h0 : FieldAt P f0 0 α) (h1 : FieldAt P f1 (Rep.size α) β) (h2 : FieldAt P f2 (Rep.size α + Rep.size β) δ)
    (mk : ∀ w S ca cb cd (a : α) (b : β) (d : δ), Rep.rd w S ca a → Rep.rd w S cb b → Rep.rd w S cd d → ∃ g : γ, Rep.rd w S (ca ++ cb ++ cd) g) : Opens P t γ := fun H enc w spare held fuel cs y hy => by
  obtain ⟨xs, n, _, _, hl, hlen, hf⟩ := DataW.trod_struct h hy
  match xs, hlen with
  | [y0, y1, y2], _ =>
    have e0 := hf 0 f0 rfl
    have e1 := hf 1 f1 rfl
    have e2 := hf 2 f2 rfl
    rw [h0.1, h0.2.1] at e0
    rw [h1.1, h1.2.1] at e1
    rw [h2.1, h2.2.1] at e2
    obtain ⟨a, ra⟩ := h0.2.2 H enc w spare held n _ y0 (by simpa using e0)
    obtain ⟨b, rb⟩ := h1.2.2 H enc w spare held n _ y1 (by simpa using e1)
    obtain ⟨d, rd⟩ := h2.2.2 H enc w spare held n _ y2 (by simpa using e2)
    obtain ⟨g, rg⟩ := mk _ _ _ _ _ a b d ra rb rd
    refine ⟨g, ?_⟩
    have : cs = (cs.drop 0).take (Rep.size α) ++ (cs.drop (Rep.size α)).take (Rep.size β) ++ (cs.drop (Rep.size α + Rep.size β)).take (Rep.size δ) := by
      rw [List.drop_zero, ← List.take_add, List.take_of_length_le (l := cs.drop (Rep.size α + Rep.size β)) (by rw [List.length_drop]; omega), List.take_append_drop]
    rw [this]
    exact rg
theorem opens_four {α β δ ε γ : Type} [Rep α] [Rep β] [Rep δ] [Rep ε] [Rep γ] {f0 f1 f2 f3 : Field} (h : P.underlying t = some (.struct #[f0, f1, f2, f3])) (hc : P.cellsOf t = Rep.size α + Rep.size β + Rep.size δ + Rep.size ε)
    (h0 : FieldAt P f0 0 α) (h1 : FieldAt P f1 (Rep.size α) β) (h2 : FieldAt P f2 (Rep.size α + Rep.size β) δ) (h3 : FieldAt P f3 (Rep.size α + Rep.size β + Rep.size δ) ε)
    (mk : ∀ w S ca cb cd ce (a : α) (b : β) (d : δ) (x : ε), Rep.rd w S ca a → Rep.rd w S cb b → Rep.rd w S cd d → Rep.rd w S ce x → ∃ g : γ, Rep.rd w S (ca ++ cb ++ cd ++ ce) g) : Opens P t γ := fun H enc w spare held fuel cs y hy => by
  obtain ⟨xs, n, _, _, hl, hlen, hf⟩ := DataW.trod_struct h hy
  match xs, hlen with
  | [y0, y1, y2, y3], _ =>
    have e0 := hf 0 f0 rfl
    have e1 := hf 1 f1 rfl
    have e2 := hf 2 f2 rfl
    have e3 := hf 3 f3 rfl
    rw [h0.1, h0.2.1] at e0
    rw [h1.1, h1.2.1] at e1
    rw [h2.1, h2.2.1] at e2
    rw [h3.1, h3.2.1] at e3
    obtain ⟨a, ra⟩ := h0.2.2 H enc w spare held n _ y0 (by simpa using e0)
    obtain ⟨b, rb⟩ := h1.2.2 H enc w spare held n _ y1 (by simpa using e1)
    obtain ⟨d, rd⟩ := h2.2.2 H enc w spare held n _ y2 (by simpa using e2)
    obtain ⟨x, rx⟩ := h3.2.2 H enc w spare held n _ y3 (by simpa using e3)
    obtain ⟨g, rg⟩ := mk _ _ _ _ _ _ a b d x ra rb rd rx
    refine ⟨g, ?_⟩
    have : cs = (cs.drop 0).take (Rep.size α) ++ (cs.drop (Rep.size α)).take (Rep.size β) ++ (cs.drop (Rep.size α + Rep.size β)).take (Rep.size δ) ++ (cs.drop (Rep.size α + Rep.size β + Rep.size δ)).take (Rep.size ε) := by
      rw [List.drop_zero, ← List.take_add, ← List.take_add, List.take_of_length_le (l := cs.drop (Rep.size α + Rep.size β + Rep.size δ)) (by rw [List.length_drop]; omega), List.take_append_drop]
    rw [this]
    exact rg
variable {f0 f1 f2 f3 : Field}
theorem opens_val (h : P.underlying t = some (.struct #[f0, f1, f2])) (hc : P.cellsOf t = 3) (h0 : FieldAt P f0 0 Int) (h1 : FieldAt P f1 1 Int) (h2 : FieldAt P f2 2 ByteArray) : Opens P t Val :=
  opens_three h hc h0 h1 h2 fun _ _ _ _ _ a b d ra rb rd => ⟨⟨a, b, d⟩, by rw [ra.1, rb.1, rd.1]; rfl, ra.2, rb.2, rd.2⟩
theorem opens_col (h : P.underlying t = some (.struct #[f0, f1, f2])) (hc : P.cellsOf t = 3) (h0 : FieldAt P f0 0 ByteArray) (h1 : FieldAt P f1 1 Int) (h2 : FieldAt P f2 2 Bool) : Opens P t Col :=
  opens_three h hc h0 h1 h2 fun _ _ _ _ _ a b d ra rb rd => ⟨⟨a, b, d⟩, by rw [ra.1, rb.1, rd]; rfl, ra.2, rb.2⟩
theorem opens_shift (h : P.underlying t = some (.struct #[f0, f1])) (hc : P.cellsOf t = 2) (h0 : FieldAt P f0 0 Int) (h1 : FieldAt P f1 1 Int) : Opens P t Shift :=
  opens_two h hc h0 h1 fun _ _ _ _ a b ra rb => ⟨⟨a, b⟩, by rw [ra.1, rb.1]; rfl, ra.2, rb.2⟩
theorem opens_ent (h : P.underlying t = some (.struct #[f0, f1])) (hc : P.cellsOf t = 2) (h0 : FieldAt P f0 0 (List Val)) (h1 : FieldAt P f1 1 Int) : Opens P t Ent :=
  opens_two h hc h0 h1 fun _ _ _ _ a b ⟨A, n, c, hcs, ha⟩ rb => ⟨⟨a, b⟩, A, n, c, by rw [hcs, rb.1]; rfl, ha, rb.2⟩
theorem opens_zone (h : P.underlying t = some (.struct #[f0, f1, f2])) (hc : P.cellsOf t = 3) (h0 : FieldAt P f0 0 ByteArray) (h1 : FieldAt P f1 1 Int) (h2 : FieldAt P f2 2 (List Shift)) : Opens P t Zone :=
  opens_three h hc h0 h1 h2 fun _ _ _ _ _ a b d ra rb ⟨A, n, c, hcs, hd⟩ => ⟨⟨a, b, d⟩, A, n, c, by rw [ra.1, rb.1, hcs]; rfl, hd, ra.2, rb.2⟩
theorem opens_node (h : P.underlying t = some (.struct #[f0, f1, f2, f3])) (hc : P.cellsOf t = 6) (h0 : FieldAt P f0 0 Int) (h1 : FieldAt P f1 1 Val) (h2 : FieldAt P f2 4 ByteArray) (h3 : FieldAt P f3 5 Int) : Opens P t Node :=
  opens_four h hc h0 h1 h2 h3 fun _ _ _ _ _ _ a b d x ra rb rd rx => ⟨⟨a, b, d, x⟩, by rw [ra.1, rb.1, rd.1, rx.1]; rfl, ra.2, rb.2, rd.2, rx.2⟩
theorem opens_rel (h : P.underlying t = some (.struct #[f0, f1, f2, f3])) (hc : P.cellsOf t = 4) (h0 : FieldAt P f0 0 ByteArray) (h1 : FieldAt P f1 1 (List Col)) (h2 : FieldAt P f2 2 (List (List ByteArray))) (h3 : FieldAt P f3 3 (List Ent)) : Opens P t Rel :=
  opens_four h hc h0 h1 h2 h3 fun _ _ _ _ _ _ a b d x ra ⟨A, n, c, e1, r1⟩ ⟨A', n', c', e2, r2⟩ ⟨A'', n'', c'', e3, r3⟩ => ⟨⟨a, b, d, x⟩, A, n, c, A', n', c', A'', n'', c'', by rw [ra.1, e1, e2, e3]; rfl, r1, r2, r3, ra.2⟩
end
end Go.Proofs.Ytmnhahilbbnkkaa
