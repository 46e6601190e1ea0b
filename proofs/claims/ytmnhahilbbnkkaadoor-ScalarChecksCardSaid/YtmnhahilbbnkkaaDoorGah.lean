/-
  Plain law: soundness of a node and of a whole expression; equality of values. No program is in sight. Plain law: expressions as trees: their nodes, heights, types and values. No program is in sight. Plain law: the expressions that the statements' builders make have types and values. No program is in sight. The statements' columns, zones, and small expressions. Plain law: the loop that evaluates an expression, step by step. No program is in sight. Plain law: values of trees: three-valued logic, order, and dependence on columns. No program is in sight. Plain law: the closed examples of the statements of chapter 9. warehousebase.Row over the statements' columns.
-/
import Derived.Test.YtmnhahilbbnkkaaDoorGag
import Derived.Test.YtmnhahilbbnkkaaDoorTypG
import Derived.Test.YtmnhahilbbnkkaaDoorGaf
import Derived.Test.YtmnhahilbbnkkaaDoorZone
import Derived.Test.YtmnhahilbbnkkaaDoorGac
namespace Go.Proofs.YtmnhahilbbnkkaaDoor
set_option linter.unusedVariables false
set_option linter.unusedSimpArgs false

theorem firstErr_zero_all {α : Type} {f : Nat → α → Int} : ∀ {l : List α} {k : Nat}, firstErr f k l = 0 → ∀ i x, l[i]? = some x → f (k + i) x = 0
  | [], _, _, i, x, h => by simp at h
  | y :: l, k, h, i, x, hx => by
    rw [firstErr] at h
    split at h
    · contradiction
    · rename_i h0
      cases i with
      | zero => simp at hx; subst hx; simpa using h0
      | succ i =>
        have := firstErr_zero_all h i x (by simpa using hx)
        rw [show k + (i + 1) = k + 1 + i by omega]; exact this
theorem cols_col {cols : List Col} (h : colsErr cols = 0) {i : Nat} {c : Col} (hc : cols[i]? = some c) : 1 ≤ c.kind ∧ c.kind ≤ 4 := by
  rw [colsErr] at h
  split at h
  · omega
  · have := firstErr_zero_all h i c hc
    rw [colErr] at this
    split at this
    · omega
    · split at this
      · omega
      · omega
theorem row_cell {cols : List Col} {row : List Val} (h : rowErr cols row = 0) {i : Nat} {v : Val} (hv : row[i]? = some v) : cellErr (cols.getD i default) v = 0 := by
  rw [rowErr] at h
  split at h
  · omega
  · have := firstErr_zero_all h i v hv
    simpa using this
theorem row_len {cols : List Col} {row : List Val} (h : rowErr cols row = 0) : row.length = cols.length := by
  rw [rowErr] at h
  split at h
  · omega
  · rename_i q; omega
theorem zones_zone {zs : List Zone} (h : zonesErr zs = 0) {i : Nat} {z : Zone} (hz : zs[i]? = some z) : zoneErr z = 0 := firstErr_zero_all h i z hz
theorem check_parts {es : List Node} {cols : List Col} {zs : List Zone} (h : checkErr es cols zs = 0) : exprErr es = 0 ∧ colsErr cols = 0 ∧ zonesErr zs = 0 := by
  rw [checkErr] at h
  split at h
  · omega
  · split at h
    · omega
    · omega
theorem col_at {cols : List Col} {name : ByteArray} (h : ¬ index cols name < 0) : ∃ (i : Nat) (c : Col), index cols name = (i : Int) ∧ cols[i]? = some c ∧ i < cols.length := by
  rcases indexFrom_range name cols 0 with hr | ⟨h1, h2⟩
  · exact absurd (by rw [index, hr]; omega) h
  · have hi : (index cols name).toNat < cols.length := by rw [index]; omega
    exact ⟨(index cols name).toNat, cols[(index cols name).toNat], by rw [index] at *; omega, List.getElem?_eq_getElem hi, hi⟩
theorem getD_of {α : Type} {l : List α} {i : Nat} {x d : α} (h : l[i]? = some x) : l.getD i d = x := by rw [List.getD, h]; rfl
theorem list1 {α : Type} {l : List α} (h : l.length = 1) : ∃ x, l = [x] := by
  match l, h with
  | [x], _ => exact ⟨x, rfl⟩
theorem list2 {α : Type} {l : List α} (h : l.length = 2) : ∃ x y, l = [x, y] := by
  match l, h with
  | [x, y], _ => exact ⟨x, y, rfl⟩
theorem list3 {α : Type} {l : List α} (h : l.length = 3) : ∃ x y z, l = [x, y, z] := by
  match l, h with
  | [x, y, z], _ => exact ⟨x, y, z, rfl⟩
theorem shaped_const {n : Node} (h : shaped n = true) (h0 : n.op = 0) : valid n.value = true := by
  rw [shaped, if_pos h0] at h
  simp at h
  exact h.1.1
theorem col_value {cols : List Col} {row : List Val} (hc : colsErr cols = 0) (hr : rowErr cols row = 0) {i : Nat} {c : Col} (hi : cols[i]? = some c) : KdOk ⟨c.kind, c.nullable⟩ ∧ Has ⟨c.kind, c.nullable⟩ (row.getD i nullV) := by
  have hk := cols_col hc hi
  have hl := (List.getElem?_eq_some_iff.1 hi).1
  have hl' : i < row.length := by rw [row_len hr]; exact hl
  have hv := List.getElem?_eq_getElem hl'
  have he := row_cell hr hv
  rw [getD_of hi] at he
  rw [getD_of hv]
  generalize row[i] = v at he
  refine ⟨⟨by simp only; omega, by simp only; omega, fun q => by simp only at q; omega⟩, ?_⟩
  rw [cellErr] at he
  split at he
  · omega
  · rename_i h1
    split at he
    · omega
    · rename_i h2
      have hv : valid v = true := by cases h : valid v; exact absurd h h1; rfl
      refine ⟨hv, ?_⟩
      simp only
      by_cases h0 : v.kind = 0
      · refine .inr ⟨h0, ?_⟩
        cases hn : c.nullable
        · exact absurd (.inl ⟨h0, hn⟩) h2
        · rfl
      · refine .inl ?_
        by_cases h3 : v.kind = c.kind
        · exact h3
        · exact absurd (.inr ⟨h0, h3⟩) h2
theorem node_sound {cols : List Col} {row : List Val} {zs : List Zone} {n : Node} {ks : List Kd} {vs : List Val} {k : Kd} {m : Nat} (hc : colsErr cols = 0) (hr : rowErr cols row = 0) (hsh : shaped n = true) (hm : arity n.op n.arity = (m : Int)) (hl : ks.length = m)
    (hf : Fit2 ks vs) (h : nodeKd cols zs n ks = (0, k)) : KdOk k ∧ Has k (nodeV cols row zs n vs) := by
  have hlv := hf.len
  rw [nodeKd] at h
  by_cases h1 : n.op = 1
  · rw [if_pos h1] at h
    split at h
    · injection h with h _; omega
    · rename_i hi
      obtain ⟨i, c, e1, e2, e3⟩ := col_at hi
      injection h with _ h
      rw [e1, Int.toNat_natCast, getD_of e2] at h
      subst h
      rw [nodeV, if_pos h1, e1, Int.toNat_natCast]
      exact col_value hc hr e2
  rw [if_neg h1] at h
  by_cases h21 : n.op = 21
  · rw [if_pos h21] at h; injection h with h _; omega
  rw [if_neg h21] at h
  split at h
  · injection h with h _; omega
  split at h
  · injection h with h _; omega
  rename_i hok
  have hok : (opKd n ks).2 = true := by cases q : (opKd n ks).2; exact absurd q hok; rfl
  injection h with _ h
  subst h
  rw [nodeV, if_neg h1]
  rcases shaped_op hsh h1 h21 with h0 | ⟨hlo, hhi⟩
  · have : m = 0 := by rw [arity, if_pos (.inl h0)] at hm; omega
    subst this
    obtain rfl := List.eq_nil_of_length_eq_zero hl
    obtain rfl := List.eq_nil_of_length_eq_zero (hlv.symm.trans hl)
    have hv := shaped_const hsh h0
    have hk := valid_kind hv
    simp only [opKd, opV]
    exact ⟨⟨hk.1, hk.2, fun q => by simpa using q⟩, has_mk hv (.inl rfl)⟩
  by_cases ha : n.op = 2 ∨ n.op = 3 ∨ n.op = 16 ∨ n.op = 19 ∨ n.op = 20
  · have : m = 1 := by rw [arity, if_neg (by omega), if_pos ha] at hm; omega
    subst this
    obtain ⟨x, rfl⟩ := list1 hl
    obtain ⟨v, rfl⟩ := list1 (hlv.symm.trans hl)
    exact un_sound ha hf.1.1 hf.1.2 hok
  by_cases h17 : n.op = 17
  · have : m = 3 := by rw [arity, if_neg (by omega), if_neg ha, if_pos h17] at hm; omega
    subst this
    obtain ⟨x, y, z, rfl⟩ := list3 hl
    obtain ⟨a, b, c, rfl⟩ := list3 (hlv.symm.trans hl)
    simp only [opKd] at hok ⊢
    rw [Bool.and_eq_true] at hok
    exact if_sound hf.2.1.1 hf.2.1.2 hf.2.2.1.1 hf.2.2.1.2 hok.1
  · have : m = 2 := by rw [arity, if_neg (by omega), if_neg ha, if_neg h17, if_neg h21, if_pos (by omega)] at hm; omega
    subst this
    obtain ⟨x, y, rfl⟩ := list2 hl
    obtain ⟨a, b, rfl⟩ := list2 (hlv.symm.trans hl)
    exact bin_sound (by omega) hf.1.1 hf.1.2 hf.2.1.1 hf.2.1.2 hok
theorem typeLoop_inv {cols : List Col} {zs : List Zone} {ks : List Kd} {n : Node} {l : List Node} {r m : Nat} (hm : arity n.op n.arity = (m : Int)) (hl : ks.length = r + m) (h : (typeLoop cols zs ks (n :: l)).1 = 0) :
    ∃ k, nodeKd cols zs n (ks.drop r) = (0, k) ∧ typeLoop cols zs ks (n :: l) = typeLoop cols zs (ks.take r ++ [k]) l := by
  by_cases h0 : (nodeKd cols zs n (ks.drop r)).1 = 0
  · refine ⟨(nodeKd cols zs n (ks.drop r)).2, Prod.ext h0 rfl, typeLoop_ok hm hl (Prod.ext h0 rfl)⟩
  · rw [typeLoop_err hm hl rfl h0] at h
    exact absurd h h0
theorem valLoop_ok {cols : List Col} {row : List Val} {zs : List Zone} {vs : List Val} {n : Node} {l : List Node} {r m : Nat} (hm : arity n.op n.arity = (m : Int)) (hl : vs.length = r + m) :
    valLoop cols row zs vs (n :: l) = valLoop cols row zs (vs.take r ++ [nodeV cols row zs n (vs.drop r)]) l := by
  rw [valLoop, hl, restOf_eq hm]
theorem loop_sound {cols : List Col} {row : List Val} {zs : List Zone} (hc : colsErr cols = 0) (hr : rowErr cols row = 0) : ∀ (l : List Node) (hs : List Int) (ks : List Kd) (vs : List Val), exprLoop hs l = 0 → hs.length = ks.length → Fit2 ks vs →
    (typeLoop cols zs ks l).1 = 0 → KdOk (typeLoop cols zs ks l).2 ∧ Has (typeLoop cols zs ks l).2 (valLoop cols row zs vs l)
  | [], hs, ks, vs, he, hl, hf, _ => by
    have := exprLoop_end he rfl
    obtain ⟨x, rfl⟩ := list1 (hl.symm.trans this)
    obtain ⟨v, rfl⟩ := list1 (hf.len.symm.trans (hl.symm.trans this))
    exact hf.1
  | n :: l, hs, ks, vs, he, hl, hf, ht => by
    obtain ⟨m, r, hs', hsh, hm, _, hd, hl', he'⟩ := exprLoop_inv he hl
    obtain ⟨k, hk, hq⟩ := typeLoop_inv hm hd ht
    rw [hq] at ht ⊢
    rw [valLoop_ok hm (hf.len.symm.trans hd)]
    refine loop_sound hc hr l hs' _ _ he' (by rw [hl', List.length_append, List.length_take, hd]; simp) ((hf.take r).push ?_) ht
    exact node_sound hc hr hsh hm (by rw [List.length_drop]; omega) (hf.drop r) hk
theorem eval_sound {cols : List Col} {row : List Val} {zs : List Zone} {es : List Node} (hr : rowErr cols row = 0) (ht : (typeS es cols zs).1 = 0) : KdOk (typeS es cols zs).2 ∧ Has (typeS es cols zs).2 (valLoop cols row zs [] es) := by
  rw [typeS] at ht ⊢
  split at ht
  · rename_i h; exact absurd ht h
  · rename_i h
    rw [if_neg h]
    have h : checkErr es cols zs = 0 := by omega
    obtain ⟨h1, h2, h3⟩ := check_parts h
    exact loop_sound h2 hr es [] [] [] (exprErr_loop h1).2 rfl trivial ht

/-! ### Equal values -/
theorem byteArray_eq {a b : ByteArray} (h : a.toList = b.toList) : a = b := by
  rw [ByteArray.toList_eq, ByteArray.toList_eq] at h
  obtain ⟨⟨a⟩⟩ := a
  obtain ⟨⟨b⟩⟩ := b
  simp at h
  rw [h]
theorem cmpInt_zero {a b : Int} : cmpInt a b = 0 ↔ a = b := by rw [cmpInt]; (repeat' split) <;> omega
theorem bytesLess_irrefl : ∀ l : List UInt8, Op.bytesLess l l = false
  | [] => rfl
  | x :: l => by simp [Op.bytesLess, bytesLess_irrefl l]
theorem cmpStr_zero {a b : ByteArray} : cmpStr a b = 0 ↔ a.toList = b.toList := by
  rw [cmpStr]
  split
  · rename_i h
    constructor
    · intro q; omega
    · intro q; rw [q, bytesLess_irrefl] at h; cases h
  · split
    · rename_i h; simp [h]
    · rename_i h; simp [h]
theorem cmpVal_zero {a b : Val} : cmpVal a b = 0 ↔ a = b := by
  obtain ⟨k, n, s⟩ := a
  obtain ⟨k', n', s'⟩ := b
  rw [cmpVal]
  simp only
  constructor
  · intro h
    split at h
    · contradiction
    · rename_i h1
      split at h
      · contradiction
      · rename_i h2
        have e1 := cmpInt_zero.1 (Decidable.not_not.1 h1)
        have e2 := cmpInt_zero.1 (Decidable.not_not.1 h2)
        have e3 := byteArray_eq (cmpStr_zero.1 h)
        rw [e1, e2, e3]
  · intro h
    injection h with h1 h2 h3
    subst h1 h2 h3
    rw [if_neg (by simp [cmpInt_zero]), if_neg (by simp [cmpInt_zero])]
    exact cmpStr_zero.2 rfl
end Go.Proofs.YtmnhahilbbnkkaaDoor

namespace Go.Proofs.YtmnhahilbbnkkaaDoor
set_option linter.unusedVariables false
set_option linter.unusedSimpArgs false

inductive Ex where
  | leaf (n : Node)
  | un (n : Node) (a : Ex)
  | bin (n : Node) (a b : Ex)
  | tri (n : Node) (a b c : Ex)
def Ex.nodes : Ex → List Node
  | .leaf n => [n]
  | .un n a => a.nodes ++ [n]
  | .bin n a b => a.nodes ++ (b.nodes ++ [n])
  | .tri n a b c => a.nodes ++ (b.nodes ++ (c.nodes ++ [n]))
def Ex.wf : Ex → Prop
  | .leaf n => shaped n = true ∧ arity n.op n.arity = 0
  | .un n a => (shaped n = true ∧ arity n.op n.arity = 1) ∧ a.wf
  | .bin n a b => (shaped n = true ∧ arity n.op n.arity = 2) ∧ a.wf ∧ b.wf
  | .tri n a b c => (shaped n = true ∧ arity n.op n.arity = 3) ∧ a.wf ∧ b.wf ∧ c.wf
def Ex.hgt : Ex → Int
  | .leaf n => 1
  | .un n a => raise [a.hgt]
  | .bin n a b => raise [a.hgt, b.hgt]
  | .tri n a b c => raise [a.hgt, b.hgt, c.hgt]
def Ex.len : Ex → Nat
  | .leaf n => 1
  | .un n a => a.len + 1
  | .bin n a b => a.len + b.len + 1
  | .tri n a b c => a.len + b.len + c.len + 1
def Ex.ty (cols : List Col) (zs : List Zone) : Ex → Kd
  | .leaf n => (nodeKd cols zs n []).2
  | .un n a => (nodeKd cols zs n [a.ty cols zs]).2
  | .bin n a b => (nodeKd cols zs n [a.ty cols zs, b.ty cols zs]).2
  | .tri n a b c => (nodeKd cols zs n [a.ty cols zs, b.ty cols zs, c.ty cols zs]).2
def Ex.typed (cols : List Col) (zs : List Zone) : Ex → Prop
  | .leaf n => (nodeKd cols zs n []).1 = 0
  | .un n a => (nodeKd cols zs n [a.ty cols zs]).1 = 0 ∧ a.typed cols zs
  | .bin n a b => (nodeKd cols zs n [a.ty cols zs, b.ty cols zs]).1 = 0 ∧ a.typed cols zs ∧ b.typed cols zs
  | .tri n a b c => (nodeKd cols zs n [a.ty cols zs, b.ty cols zs, c.ty cols zs]).1 = 0 ∧ a.typed cols zs ∧ b.typed cols zs ∧ c.typed cols zs
def Ex.val (cols : List Col) (row : List Val) (zs : List Zone) : Ex → Val
  | .leaf n => nodeV cols row zs n []
  | .un n a => nodeV cols row zs n [a.val cols row zs]
  | .bin n a b => nodeV cols row zs n [a.val cols row zs, b.val cols row zs]
  | .tri n a b c => nodeV cols row zs n [a.val cols row zs, b.val cols row zs, c.val cols row zs]
theorem Ex.len_nodes : ∀ t : Ex, t.nodes.length = t.len
  | .leaf n => rfl
  | .un n a => by simp [nodes, len, len_nodes a]
  | .bin n a b => by simp [nodes, len, len_nodes a, len_nodes b]; omega
  | .tri n a b c => by simp [nodes, len, len_nodes a, len_nodes b, len_nodes c]; omega
theorem restOf_app {α : Type} (n : Node) (st l : List α) (h : arity n.op n.arity = (l.length : Int)) : (st ++ l).take (restOf n (st ++ l).length) = st ∧ (st ++ l).drop (restOf n (st ++ l).length) = l := by
  have : restOf n (st ++ l).length = st.length := by rw [List.length_append, restOf, h, Int.toNat_natCast]; omega
  rw [this]
  exact ⟨by simp, by simp⟩
theorem raise_one (a : Int) : raise [a] = max 1 (1 + a) := rfl
theorem raise_two (a b : Int) : raise [a, b] = max (max 1 (1 + a)) (1 + b) := rfl
theorem raise_three (a b c : Int) : raise [a, b, c] = max (max (max 1 (1 + a)) (1 + b)) (1 + c) := rfl
theorem exprLoop_push {n : Node} {hs l : List Int} {rest : List Node} (hsh : shaped n = true) (h : arity n.op n.arity = (l.length : Int)) (h64 : raise l ≤ 64) : exprLoop (hs ++ l) (n :: rest) = exprLoop (hs ++ [raise l]) rest := by
  obtain ⟨h1, h2⟩ := restOf_app n hs l h
  rw [exprLoop, h1, h2, if_neg, if_neg (by omega)]
  rintro (q | q)
  · rw [hsh] at q; cases q
  · rw [List.length_append, h] at q; omega
theorem typeLoop_push {cols : List Col} {zs : List Zone} {n : Node} {ks l : List Kd} {rest : List Node} (h : arity n.op n.arity = (l.length : Int)) (ht : (nodeKd cols zs n l).1 = 0) : typeLoop cols zs (ks ++ l) (n :: rest) = typeLoop cols zs (ks ++ [(nodeKd cols zs n l).2]) rest := by
  obtain ⟨h1, h2⟩ := restOf_app n ks l h
  rw [typeLoop, h1, h2, if_neg (by omega)]
theorem valLoop_push {cols : List Col} {row : List Val} {zs : List Zone} {n : Node} {vs l : List Val} {rest : List Node} (h : arity n.op n.arity = (l.length : Int)) : valLoop cols row zs (vs ++ l) (n :: rest) = valLoop cols row zs (vs ++ [nodeV cols row zs n l]) rest := by
  obtain ⟨h1, h2⟩ := restOf_app n vs l h
  rw [valLoop, h1, h2]
theorem Ex.expr : ∀ (t : Ex) (hs : List Int) (rest : List Node), t.wf → t.hgt ≤ 64 → exprLoop hs (t.nodes ++ rest) = exprLoop (hs ++ [t.hgt]) rest
  | .leaf n, hs, rest, hw, hh => by
    have := exprLoop_push (hs := hs) (l := []) (rest := rest) hw.1 hw.2 (by decide)
    rw [List.append_nil] at this
    exact this
  | .un n a, hs, rest, hw, hh => by
    rw [hgt, raise_one] at hh
    rw [nodes, List.append_assoc, expr a hs _ hw.2 (by omega)]
    exact exprLoop_push hw.1.1 hw.1.2 (by rw [raise_one]; omega)
  | .bin n a b, hs, rest, hw, hh => by
    rw [hgt, raise_two] at hh
    rw [nodes, List.append_assoc, expr a hs _ hw.2.1 (by omega), List.append_assoc, expr b _ _ hw.2.2 (by omega), List.append_assoc]
    exact exprLoop_push (l := [a.hgt, b.hgt]) hw.1.1 hw.1.2 (by rw [raise_two]; omega)
  | .tri n a b c, hs, rest, hw, hh => by
    rw [hgt, raise_three] at hh
    rw [nodes, show (a.nodes ++ (b.nodes ++ (c.nodes ++ [n]))) ++ rest = a.nodes ++ (b.nodes ++ (c.nodes ++ (n :: rest))) by simp, expr a hs _ hw.2.1 (by omega), expr b _ _ hw.2.2.1 (by omega), expr c _ _ hw.2.2.2 (by omega), List.append_assoc, List.append_assoc]
    exact exprLoop_push (l := [a.hgt, b.hgt, c.hgt]) hw.1.1 hw.1.2 (by rw [raise_three]; omega)
theorem Ex.types {cols : List Col} {zs : List Zone} : ∀ (t : Ex) (ks : List Kd) (rest : List Node), t.wf → t.typed cols zs → typeLoop cols zs ks (t.nodes ++ rest) = typeLoop cols zs (ks ++ [t.ty cols zs]) rest
  | .leaf n, ks, rest, hw, hh => by
    have := typeLoop_push (cols := cols) (zs := zs) (ks := ks) (l := []) (rest := rest) hw.2 hh
    rw [List.append_nil] at this
    exact this
  | .un n a, ks, rest, hw, hh => by
    rw [nodes, List.append_assoc, types a ks _ hw.2 hh.2]
    exact typeLoop_push hw.1.2 hh.1
  | .bin n a b, ks, rest, hw, hh => by
    rw [nodes, List.append_assoc, types a ks _ hw.2.1 hh.2.1, List.append_assoc, types b _ _ hw.2.2 hh.2.2, List.append_assoc]
    exact typeLoop_push (l := [a.ty cols zs, b.ty cols zs]) hw.1.2 hh.1
  | .tri n a b c, ks, rest, hw, hh => by
    rw [nodes, show (a.nodes ++ (b.nodes ++ (c.nodes ++ [n]))) ++ rest = a.nodes ++ (b.nodes ++ (c.nodes ++ (n :: rest))) by simp, types a ks _ hw.2.1 hh.2.1, types b _ _ hw.2.2.1 hh.2.2.1, types c _ _ hw.2.2.2 hh.2.2.2, List.append_assoc, List.append_assoc]
    exact typeLoop_push (l := [a.ty cols zs, b.ty cols zs, c.ty cols zs]) hw.1.2 hh.1
theorem Ex.vals {cols : List Col} {row : List Val} {zs : List Zone} : ∀ (t : Ex) (vs : List Val) (rest : List Node), t.wf → valLoop cols row zs vs (t.nodes ++ rest) = valLoop cols row zs (vs ++ [t.val cols row zs]) rest
  | .leaf n, vs, rest, hw => by
    have := valLoop_push (cols := cols) (row := row) (zs := zs) (vs := vs) (l := []) (rest := rest) hw.2
    rw [List.append_nil] at this
    exact this
  | .un n a, vs, rest, hw => by
    rw [nodes, List.append_assoc, vals a vs _ hw.2]
    exact valLoop_push hw.1.2
  | .bin n a b, vs, rest, hw => by
    rw [nodes, List.append_assoc, vals a vs _ hw.2.1, List.append_assoc, vals b _ _ hw.2.2, List.append_assoc]
    exact valLoop_push (l := [a.val cols row zs, b.val cols row zs]) hw.1.2
  | .tri n a b c, vs, rest, hw => by
    rw [nodes, show (a.nodes ++ (b.nodes ++ (c.nodes ++ [n]))) ++ rest = a.nodes ++ (b.nodes ++ (c.nodes ++ (n :: rest))) by simp, vals a vs _ hw.2.1, vals b _ _ hw.2.2.1, vals c _ _ hw.2.2.2, List.append_assoc, List.append_assoc]
    exact valLoop_push (l := [a.val cols row zs, b.val cols row zs, c.val cols row zs]) hw.1.2
theorem Ex.exprErr {t : Ex} (hw : t.wf) (hh : t.hgt ≤ 64) (hl : t.len ≤ 256) : exprErr t.nodes = 0 := by
  have := t.expr [] [] hw hh
  rw [List.append_nil] at this
  rw [Proofs.YtmnhahilbbnkkaaDoor.exprErr, if_neg (by rw [t.len_nodes]; omega), this, List.nil_append, exprLoop]
  rfl
theorem Ex.typeS {t : Ex} {cols : List Col} {zs : List Zone} (hw : t.wf) (hh : t.hgt ≤ 64) (hl : t.len ≤ 256) (hc : colsErr cols = 0) (hz : zonesErr zs = 0) (ht : t.typed cols zs) : typeS t.nodes cols zs = (0, t.ty cols zs) := by
  have := t.types (cols := cols) (zs := zs) [] [] hw ht
  rw [List.append_nil] at this
  have h0 : checkErr t.nodes cols zs = 0 := by rw [checkErr, if_neg (by rw [t.exprErr hw hh hl]; simp), if_neg (by rw [hc]; simp), hz]
  rw [Proofs.YtmnhahilbbnkkaaDoor.typeS, if_neg (by rw [h0]; simp), this]
  rfl
theorem Ex.valS {t : Ex} {cols : List Col} {row : List Val} {zs : List Zone} (hw : t.wf) : valLoop cols row zs [] t.nodes = t.val cols row zs := by
  have := t.vals (cols := cols) (row := row) (zs := zs) [] [] hw
  rw [List.append_nil] at this
  rw [this]
  rfl
/-- A tree's value fits its type. -/
theorem Ex.sound {t : Ex} {cols : List Col} {row : List Val} {zs : List Zone} (hw : t.wf) (hh : t.hgt ≤ 64) (hl : t.len ≤ 256) (hc : colsErr cols = 0) (hz : zonesErr zs = 0) (hr : rowErr cols row = 0) (ht : t.typed cols zs) : KdOk (t.ty cols zs) ∧ Has (t.ty cols zs) (t.val cols row zs) := by
  have h1 := Ex.typeS hw hh hl hc hz ht
  have := eval_sound (es := t.nodes) hr (zs := zs) (by rw [h1])
  rw [h1, Ex.valS hw] at this
  exact this
/-- An expression that a builder made: a tree of a type, not deep. -/
structure Good (cols : List Col) (zs : List Zone) (k : Int) (d m : Nat) (es : List Node) (t : Ex) : Prop where
  nodes : es = t.nodes
  wf : t.wf
  hgt : t.hgt ≤ d
  len : t.len ≤ m
  typed : t.typed cols zs
  kind : (t.ty cols zs).kind = k ∨ (t.ty cols zs).kind = 0
end Go.Proofs.YtmnhahilbbnkkaaDoor

namespace Go.Proofs.YtmnhahilbbnkkaaDoor
set_option linter.unusedVariables false
set_option linter.unusedSimpArgs false

/-- The columns and the zones of the statements. -/
def cols5 : List Col := [⟨⟨#[97]⟩, 2, false⟩, ⟨⟨#[98]⟩, 1, true⟩, ⟨⟨#[115]⟩, 3, true⟩, ⟨⟨#[116]⟩, 4, false⟩, ⟨⟨#[117]⟩, 2, true⟩]
def zname (i : Nat) : ByteArray := if i = 0 then ⟨#[122, 48]⟩ else if i = 1 then ⟨#[122, 49]⟩ else ⟨#[122, 50]⟩
def zs3 : List Zone := [⟨⟨#[122, 48]⟩, 60, []⟩, ⟨⟨#[122, 49]⟩, -300, [⟨145000, -240⟩, ⟨147000, -300⟩]⟩, ⟨⟨#[122, 50]⟩, 120, [⟨145450, 0⟩]⟩]
theorem cols5_index (i : Nat) (h : i < cols5.length) : index cols5 (cols5[i]'h).name = (i : Int) := by
  have h5 : i < 5 := h
  obtain rfl | rfl | rfl | rfl | rfl : i = 0 ∨ i = 1 ∨ i = 2 ∨ i = 3 ∨ i = 4 := by omega
  all_goals simp [cols5, index, indexFrom, ByteArray.toList_eq]
theorem cols5_ok : colsErr cols5 = 0 := by
  have h : ∀ (i : Nat) (h : i < cols5.length), colErr cols5 i (cols5[i]'h) = 0 := by
    intro i h
    rw [colErr, cols5_index i h]
    have h5 : i < 5 := h
    obtain rfl | rfl | rfl | rfl | rfl : i = 0 ∨ i = 1 ∨ i = 2 ∨ i = 3 ∨ i = 4 := by omega
    all_goals (clear h5; revert h; decide)
  have e : cols5 = [cols5[0]'(by decide), cols5[1]'(by decide), cols5[2]'(by decide), cols5[3]'(by decide), cols5[4]'(by decide)] := rfl
  rw [colsErr, if_neg (by decide)]
  have h0 := h 0 (by decide); have h1 := h 1 (by decide); have h2 := h 2 (by decide); have h3 := h 3 (by decide); have h4 := h 4 (by decide)
  have key : ∀ c : List Col, ∀ a b d f g : Col, colErr c 0 a = 0 → colErr c 1 b = 0 → colErr c 2 d = 0 → colErr c 3 f = 0 → colErr c 4 g = 0 → firstErr (colErr c) 0 [a, b, d, f, g] = 0 := by
    intro c a b d f g q0 q1 q2 q3 q4
    simp [firstErr, q0, q1, q2, q3, q4]
  exact key cols5 _ _ _ _ _ h0 h1 h2 h3 h4
theorem zs3_ok : zonesErr zs3 = 0 := by decide
theorem zs3_index (i : Nat) : ¬ zoneIx zs3 (zname i) < 0 := by
  rw [zname]
  split
  · simp [zs3, zoneIx, zoneFrom, ByteArray.toList_eq]
  · split
    · simp [zs3, zoneIx, zoneFrom, ByteArray.toList_eq]
    · simp [zs3, zoneIx, zoneFrom, ByteArray.toList_eq]

def opNode (op : Int) : Node := ⟨op, nullV, ⟨#[]⟩, 0⟩
def dayNode (i : Nat) : Node := ⟨20, nullV, zname i, 0⟩
def colNode (s : ByteArray) : Node := ⟨1, nullV, s, 0⟩
def conNode (v : Val) : Node := ⟨0, v, ⟨#[]⟩, 0⟩
theorem shaped_opNode {op : Int} (h : 2 ≤ op ∧ op ≤ 19) : shaped (opNode op) = true := by
  have : op = 2 ∨ op = 3 ∨ op = 4 ∨ op = 5 ∨ op = 6 ∨ op = 7 ∨ op = 8 ∨ op = 9 ∨ op = 10 ∨ op = 11 ∨ op = 12 ∨ op = 13 ∨ op = 14 ∨ op = 15 ∨ op = 16 ∨ op = 17 ∨ op = 18 ∨ op = 19 := by omega
  rcases this with rfl | rfl | rfl | rfl | rfl | rfl | rfl | rfl | rfl | rfl | rfl | rfl | rfl | rfl | rfl | rfl | rfl | rfl <;>
    simp [shaped, opNode, zeroVal, nullV, noStr_empty, arity]
theorem isRes_not {s : ByteArray} (h : s.toList.length ≤ 1 ∨ s = ⟨#[122, 48]⟩ ∨ s = ⟨#[122, 49]⟩ ∨ s = ⟨#[122, 50]⟩) : isRes s = false := by
  rw [isRes, hasStr, words]
  rcases h with h | rfl | rfl | rfl
  · rw [List.any_eq_false]
    intro x hx
    simp only [List.mem_cons, List.mem_nil_iff, or_false] at hx
    intro e
    have e := congrArg List.length (eq_of_beq e)
    rcases hx with rfl | rfl | rfl | rfl | rfl | rfl | rfl | rfl <;> rw [ByteArray.toList_eq] at e <;> simp at e <;> omega
  all_goals simp [ByteArray.toList_eq]
theorem shaped_day (i : Nat) : shaped (dayNode i) = true := by
  have h1 : isQual (zname i) = true := by
    rw [zname]; split
    · rw [isQual, dotAt, ByteArray.toList_eq]; decide
    · split <;> (rw [isQual, dotAt, ByteArray.toList_eq]; decide)
  have h2 : isRes (zname i) = false := by
    refine isRes_not (.inr ?_)
    rw [zname]; split
    · exact .inl rfl
    · split
      · exact .inr (.inl rfl)
      · exact .inr (.inr rfl)
  simp [shaped, dayNode, zeroVal, nullV, noStr_empty, h1, h2]
theorem shaped_col {c : Col} (h : c ∈ cols5) : shaped (colNode c.name) = true := by
  have h1 : isName c.name = true := by
    simp only [cols5, List.mem_cons, List.mem_nil_iff, or_false] at h
    rcases h with rfl | rfl | rfl | rfl | rfl <;> decide
  have h2 : isRes c.name = false := by
    refine isRes_not (.inl ?_)
    simp only [cols5, List.mem_cons, List.mem_nil_iff, or_false] at h
    rcases h with rfl | rfl | rfl | rfl | rfl <;> (rw [ByteArray.toList_eq]; decide)
  simp [shaped, colNode, zeroVal, nullV, noStr_empty, h1, h2]
theorem shaped_con {v : Val} (h : valid v = true) : shaped (conNode v) = true := by simp [shaped, conNode, noStr_empty, h]

/-- Columns that expressions can name. -/
structure GoodCols (cols : List Col) : Prop where
  err : colsErr cols = 0
  idx : ∀ (i : Nat) (h : i < cols.length), index cols (cols[i]'h).name = (i : Int)
  shaped : ∀ {c : Col}, c ∈ cols → Proofs.YtmnhahilbbnkkaaDoor.shaped (colNode c.name) = true
theorem cols5_good : GoodCols cols5 := ⟨cols5_ok, cols5_index, shaped_col⟩
def lenB : Nat → Nat
  | 0 => 1
  | d + 1 => 3 * lenB d + 1
/-- An expression of a kind, of a depth. -/
def Ok (cols : List Col) (k : Int) (d : Nat) (es : List Node) : Prop := ∃ t, Good cols zs3 k (d + 1) (lenB d) es t
theorem lenB_pos : ∀ d, 1 ≤ lenB d
  | 0 => Nat.le_refl _
  | d + 1 => by rw [lenB]; omega
theorem lenB_step (d : Nat) : lenB d ≤ lenB (d + 1) := by rw [lenB]; omega
theorem Ok.mono {cols : List Col} {k : Int} {d : Nat} {es : List Node} (h : Ok cols k d es) : Ok cols k (d + 1) es := by
  obtain ⟨t, h⟩ := h
  exact ⟨t, h.nodes, h.wf, by have := h.hgt; omega, Nat.le_trans h.len (lenB_step d), h.typed, h.kind⟩
theorem Ok.up {cols : List Col} {k : Int} {es : List Node} : ∀ {d : Nat}, Ok cols k 0 es → Ok cols k d es
  | 0, h => h
  | d + 1, h => (Ok.up h).mono
theorem Ok.typeS {cols : List Col} (G : GoodCols cols) {k : Int} {d : Nat} {es : List Node} (h : Ok cols k d es) (hd : d ≤ 4) : ∃ kd : Kd, Proofs.YtmnhahilbbnkkaaDoor.typeS es cols zs3 = (0, kd) ∧ (kd.kind = k ∨ kd.kind = 0) := by
  obtain ⟨t, h⟩ := h
  have hl : lenB d ≤ 256 := by
    have : d = 0 ∨ d = 1 ∨ d = 2 ∨ d = 3 ∨ d = 4 := by omega
    rcases this with rfl | rfl | rfl | rfl | rfl <;> decide
  refine ⟨t.ty cols zs3, ?_, h.kind⟩
  rw [h.nodes]
  exact Ex.typeS h.wf (by have := h.hgt; omega) (Nat.le_trans h.len hl) G.err zs3_ok h.typed
theorem ok_con {cols : List Col} {k : Int} {v : Val} (hv : valid v = true) (hk : v.kind = k ∨ v.kind = 0) : Ok cols k 0 [conNode v] := by
  refine ⟨.leaf (conNode v), rfl, ⟨shaped_con hv, rfl⟩, Int.le_refl _, Nat.le_refl _, ?_, ?_⟩
  · simp [Ex.typed, nodeKd, conNode, opKd]
  · simpa [Ex.ty, nodeKd, conNode, opKd] using hk
theorem ok_col {cols : List Col} (G : GoodCols cols) {k : Int} {c : Col} (hc : c ∈ cols) (hk : c.kind = k) : Ok cols k 0 [colNode c.name] := by
  obtain ⟨i, hi, rfl⟩ := List.mem_iff_getElem.1 hc
  have e : nodeKd cols zs3 (colNode (cols[i]'hi).name) [] = (0, ⟨(cols[i]'hi).kind, (cols[i]'hi).nullable⟩) := by
    have h := G.idx i hi
    have key : ∀ n : Node, n.op = 1 → n.name = (cols[i]'hi).name → nodeKd cols zs3 n [] = (0, ⟨(cols[i]'hi).kind, (cols[i]'hi).nullable⟩) := by
      intro n h1 h2
      rw [nodeKd, if_pos h1, h2, h, if_neg (by omega), Int.toNat_natCast, getD_of (List.getElem?_eq_getElem hi)]
    exact key _ rfl rfl
  refine ⟨.leaf (colNode _), rfl, ⟨G.shaped hc, rfl⟩, Int.le_refl _, Nat.le_refl _, ?_, ?_⟩
  · rw [Ex.typed, e]
  · rw [Ex.ty, e]; exact .inl hk
theorem nodeKd_op {cols : List Col} {op : Int} {xs : List Kd} (h : 2 ≤ op ∧ op ≤ 19) (hk : (opKd (opNode op) xs).2 = true) : nodeKd cols zs3 (opNode op) xs = (0, (opKd (opNode op) xs).1) := by
  rw [nodeKd, if_neg (by simp [opNode]; omega), if_neg (by simp [opNode]; omega), if_neg (by simp [opNode]; omega), if_neg (by simp [hk])]
theorem raise_le1 {a : Int} {d : Nat} (h : a ≤ ((d + 1 : Nat) : Int)) : raise [a] ≤ ((d + 1 + 1 : Nat) : Int) := by rw [raise_one]; omega
theorem raise_le2 {a b : Int} {d : Nat} (h : a ≤ ((d + 1 : Nat) : Int)) (h2 : b ≤ ((d + 1 : Nat) : Int)) : raise [a, b] ≤ ((d + 1 + 1 : Nat) : Int) := by rw [raise_two]; omega
theorem raise_le3 {a b c : Int} {d : Nat} (h : a ≤ ((d + 1 : Nat) : Int)) (h2 : b ≤ ((d + 1 : Nat) : Int)) (h3 : c ≤ ((d + 1 : Nat) : Int)) : raise [a, b, c] ≤ ((d + 1 + 1 : Nat) : Int) := by rw [raise_three]; omega
/-- A node with one operand. -/
theorem ok_un {cols : List Col} {op k k' : Int} {d : Nat} {es : List Node} (h : Ok cols k d es) (hop : op = 2 ∧ k = 1 ∧ k' = 1 ∨ op = 3 ∧ k = 2 ∧ k' = 2 ∨ op = 16 ∧ k' = 1 ∨ op = 19 ∧ k = 3 ∧ k' = 2) : Ok cols k' (d + 1) (es ++ [opNode op]) := by
  obtain ⟨t, h⟩ := h
  have hk := h.kind
  generalize hkd : t.ty cols zs3 = kd at hk
  have e : (unKd op kd).2 = true ∧ (unKd op kd).1.kind = k' := by
    rcases hop with ⟨rfl, rfl, rfl⟩ | ⟨rfl, rfl, rfl⟩ | ⟨rfl, rfl⟩ | ⟨rfl, rfl, rfl⟩ <;> simp [unKd, fits] <;> exact hk
  have hr : 2 ≤ op ∧ op ≤ 19 := by omega
  have hn := nodeKd_op (cols := cols) (xs := [kd]) hr e.1
  refine ⟨.un (opNode op) t, by rw [h.nodes]; rfl, ⟨⟨shaped_opNode hr, ?_⟩, h.wf⟩, raise_le1 h.hgt, ?_, ⟨?_, h.typed⟩, ?_⟩
  · simp only [opNode]; rw [arity, if_neg (by omega), if_pos (by omega)]
  · rw [Ex.len, lenB]; have := h.len; omega
  · rw [hkd, hn]
  · rw [Ex.ty, hkd, hn]; exact .inl e.2
theorem ok_day {cols : List Col} {d : Nat} {es : List Node} (h : Ok cols 4 d es) (i : Nat) : Ok cols 2 (d + 1) (es ++ [dayNode i]) := by
  obtain ⟨t, h⟩ := h
  have hk := h.kind
  generalize hkd : t.ty cols zs3 = kd at hk
  have hn : nodeKd cols zs3 (dayNode i) [kd] = (0, ⟨2, kd.null⟩) := by
    have hf : fits kd 4 = true := by simp [fits]; exact hk
    rw [nodeKd, if_neg (by simp [dayNode]), if_neg (by simp [dayNode]), if_neg (by rintro ⟨_, q⟩; exact zs3_index i q)]
    simp [opKd, unKd, dayNode, hf]
  refine ⟨.un (dayNode i) t, by rw [h.nodes]; rfl, ⟨⟨shaped_day i, by simp [dayNode, arity]⟩, h.wf⟩, raise_le1 h.hgt, ?_, ⟨?_, h.typed⟩, ?_⟩
  · rw [Ex.len, lenB]; have := h.len; omega
  · rw [hkd, hn]
  · rw [Ex.ty, hkd, hn]; exact .inl rfl
theorem ok_bin' {cols : List Col} (G : GoodCols cols) {op k' : Int} {d : Nat} {es fs : List Node} {k1 k2 : Int} (h : Ok cols k1 d es) (h2 : Ok cols k2 d fs) (hr : (4 ≤ op ∧ op ≤ 15) ∨ op = 18)
    (hk : ∀ x y : Kd, (x.kind = k1 ∨ x.kind = 0) → (y.kind = k2 ∨ y.kind = 0) → (∀ z : Kd, typeS es cols zs3 = (0, z) → z = x) → (∀ z : Kd, typeS fs cols zs3 = (0, z) → z = y) → (binKd op x y).2 = true ∧ ((binKd op x y).1.kind = k' ∨ (binKd op x y).1.kind = 0)) (hd : d ≤ 4) : Ok cols k' (d + 1) (es ++ (fs ++ [opNode op])) := by
  obtain ⟨q1, e1, _⟩ := h.typeS G hd
  obtain ⟨q2, e2, _⟩ := h2.typeS G hd
  obtain ⟨t, h⟩ := h
  obtain ⟨u, h2⟩ := h2
  have hl : lenB d ≤ 256 := by
    have : d = 0 ∨ d = 1 ∨ d = 2 ∨ d = 3 ∨ d = 4 := by omega
    rcases this with rfl | rfl | rfl | rfl | rfl <;> decide
  have t1 : typeS es cols zs3 = (0, t.ty cols zs3) := by rw [h.nodes]; exact Ex.typeS h.wf (by have := h.hgt; omega) (Nat.le_trans h.len hl) G.err zs3_ok h.typed
  have t2 : typeS fs cols zs3 = (0, u.ty cols zs3) := by rw [h2.nodes]; exact Ex.typeS h2.wf (by have := h2.hgt; omega) (Nat.le_trans h2.len hl) G.err zs3_ok h2.typed
  have e := hk (t.ty cols zs3) (u.ty cols zs3) h.kind h2.kind (fun z hz => by rw [t1] at hz; injection hz with _ hz; exact hz.symm) (fun z hz => by rw [t2] at hz; injection hz with _ hz; exact hz.symm)
  have hn := nodeKd_op (cols := cols) (op := op) (xs := [t.ty cols zs3, u.ty cols zs3]) (by omega) e.1
  refine ⟨.bin (opNode op) t u, by rw [h.nodes, h2.nodes]; rfl, ⟨⟨shaped_opNode (by omega), ?_⟩, h.wf, h2.wf⟩, raise_le2 h.hgt h2.hgt, ?_, ⟨?_, h.typed, h2.typed⟩, ?_⟩
  · simp only [opNode]; rw [arity, if_neg (by omega), if_neg (by omega), if_neg (by omega), if_neg (by omega), if_pos (by omega)]
  · rw [Ex.len, lenB]; have := h.len; have := h2.len; omega
  · rw [hn]
  · rw [Ex.ty, hn]; exact e.2
/-- A node with two operands. -/
theorem ok_bin {cols : List Col} (G : GoodCols cols) {op k k' : Int} {d : Nat} {es fs : List Node} (h : Ok cols k d es) (h2 : Ok cols k d fs) (hd : d ≤ 4)
    (hop : ((op = 14 ∨ op = 15) ∧ k = 1 ∧ k' = 1) ∨ ((op = 10 ∨ op = 11 ∨ op = 12 ∨ op = 13) ∧ k' = 1) ∨ (op = 18 ∧ k' = k) ∨ (op = 9 ∧ k = 3 ∧ k' = 3) ∨ ((op = 4 ∨ op = 5 ∨ op = 6 ∨ op = 7 ∨ op = 8) ∧ k = 2 ∧ k' = 2)) : Ok cols k' (d + 1) (es ++ (fs ++ [opNode op])) := by
  refine ok_bin' G h h2 (by rcases hop with ⟨q | q, _⟩ | ⟨q | q | q | q, _⟩ | ⟨q, _⟩ | ⟨q, _⟩ | ⟨q | q | q | q | q, _⟩ <;> omega) ?_ hd
  intro x y hx hy _ _
  have hc : (common x y).2 = true ∧ ((common x y).1 = k ∨ (common x y).1 = 0) := by
    rw [common]; split
    · exact ⟨rfl, hy⟩
    · simp only [fits]
      rename_i h0
      have : x.kind = k := hx.resolve_right h0
      refine ⟨?_, .inl this⟩
      simp; omega
  rcases hop with ⟨rfl | rfl, rfl, rfl⟩ | ⟨rfl | rfl | rfl | rfl, rfl⟩ | ⟨rfl, rfl⟩ | ⟨rfl, rfl, rfl⟩ | ⟨rfl | rfl | rfl | rfl | rfl, rfl, rfl⟩
  · simp [binKd, fits, hx, hy]
  · simp [binKd, fits, hx, hy]
  · simp [binKd, hc]
  · simp [binKd, hc]
  · simp [binKd, hc]
  · simp [binKd, hc]
  · simp [binKd, hc]
  · simp [binKd, fits, hx, hy]
  · have : ¬ x.kind = 4 := by omega
    simp [binKd, this, fits, hx, hy]
  · have : ¬ x.kind = 4 := by omega
    have h3 : ¬ y.kind = 4 := by omega
    simp [binKd, this, h3, fits, hx, hy]
  · simp [binKd, fits, hx, hy]
  · simp [binKd, fits, hx, hy]
  · simp [binKd, fits, hx, hy]
/-- A time and a number. -/
theorem ok_time {cols : List Col} (G : GoodCols cols) {op : Int} {d : Nat} {es fs : List Node} (h : Ok cols 4 d es) (h2 : Ok cols 2 d fs) (hd : d ≤ 4) (hop : op = 4 ∨ op = 5) (hu : ¬ ((typeS es cols zs3).1 = 0 ∧ (typeS es cols zs3).2.kind = 0)) : Ok cols 4 (d + 1) (es ++ (fs ++ [opNode op])) := by
  obtain ⟨q1, e1, p1⟩ := h.typeS G hd
  refine ok_bin' G h h2 (by omega) ?_ hd
  intro x y hx hy he _
  obtain rfl := he _ e1
  have hx4 : q1.kind = 4 := by
    refine hx.resolve_right fun h0 => hu ?_
    rw [e1]; exact ⟨rfl, h0⟩
  have hy4 : ¬ y.kind = 4 := by omega
  rcases hop with rfl | rfl <;> simp [binKd, hx4, hy4, fits, hy]
/-- Two times. -/
theorem ok_diff {cols : List Col} (G : GoodCols cols) {d : Nat} {es fs : List Node} (h : Ok cols 4 d es) (h2 : Ok cols 4 d fs) (hd : d ≤ 4) (hu : ¬ ((typeS fs cols zs3).1 = 0 ∧ (typeS fs cols zs3).2.kind = 0)) : Ok cols 2 (d + 1) (es ++ (fs ++ [opNode 5])) := by
  obtain ⟨q1, e1, p1⟩ := h2.typeS G hd
  refine ok_bin' G h h2 (by omega) ?_ hd
  intro x y hx hy _ he
  obtain rfl := he _ e1
  have hx4 : q1.kind = 4 := by
    refine hy.resolve_right fun h0 => hu ?_
    rw [e1]; exact ⟨rfl, h0⟩
  simp [binKd, hx4, fits, hx]
theorem ok_if {cols : List Col} {k : Int} {d : Nat} {ds es fs : List Node} (h : Ok cols 1 d ds) (h2 : Ok cols k d es) (h3 : Ok cols k d fs) : Ok cols k (d + 1) (ds ++ (es ++ (fs ++ [opNode 17]))) := by
  obtain ⟨t, h⟩ := h
  obtain ⟨u, h2⟩ := h2
  obtain ⟨v, h3⟩ := h3
  have hx := h.kind; have hy := h2.kind; have hz := h3.kind
  generalize e1 : t.ty cols zs3 = x at hx
  generalize e2 : u.ty cols zs3 = y at hy
  generalize e3 : v.ty cols zs3 = z at hz
  have hc : (common y z).2 = true ∧ ((common y z).1 = k ∨ (common y z).1 = 0) := by
    rw [common]; split
    · exact ⟨rfl, hz⟩
    · simp only [fits]
      rename_i h0
      have : y.kind = k := hy.resolve_right h0
      refine ⟨?_, .inl this⟩
      simp; omega
  have hn := nodeKd_op (cols := cols) (op := 17) (xs := [x, y, z]) (by omega) (by simp [opKd, hc, fits]; omega)
  refine ⟨.tri (opNode 17) t u v, by rw [h.nodes, h2.nodes, h3.nodes]; rfl, ⟨⟨shaped_opNode (by omega), by simp [opNode, arity]⟩, h.wf, h2.wf, h3.wf⟩, raise_le3 h.hgt h2.hgt h3.hgt, ?_, ⟨?_, h.typed, h2.typed, h3.typed⟩, ?_⟩
  · rw [Ex.len, lenB]; have := h.len; have := h2.len; have := h3.len; omega
  · rw [e1, e2, e3, hn]
  · rw [Ex.ty, e1, e2, e3, hn]; exact hc.2
end Go.Proofs.YtmnhahilbbnkkaaDoor

namespace Go.Proofs.YtmnhahilbbnkkaaDoor
open Go.RowKit
set_option linter.unusedSimpArgs false
set_option linter.unusedVariables false

theorem node_info : (Tryd.prog.info? 29).map (fun i => (i.zero, i.size, i.bytes)) = some (some (.agg #[.int .i64 0, .int .i64 0, .int .i64 0, .string ⟨#[]⟩, .string ⟨#[]⟩, .int .i64 0]), 6, 64) := by kernel_rfl
/-- Nodes in a slice of the call's own. -/
def Nds (w w' : World) (e : Ending) (es : List Node) : Prop := ∃ A c, e = .returned (.slice A es.length c) ∧ Stk w.heap.size w' 29 A c es
theorem columns_any (w : World) : Calls Tryd.prog 8 #[] w fun e w' => (e = .returned (.slice (some ⟨w.heap.size, 0, none⟩) 5 5) ∧ In w' (some ⟨w.heap.size, 0, none⟩) 5 5 cols5) ∧ Below w.heap.size w w' := by
  go_enter Tryd.func8, Tryd.ntmps8
  go_wp2
  go_ret
  refine ⟨⟨rfl, ?_⟩, below_alloc⟩
  refine (Stk.made (B := 0) (xs := cols5) rfl ?_ (Nat.zero_le _) (by decide)).inn
  intro x hx
  simp only [cols5, List.mem_cons, List.mem_nil_iff, or_false] at hx
  rcases hx with rfl | rfl | rfl | rfl | rfl <;> (refine ⟨?_, ?_⟩ <;> simp [Str, I64, ByteArray.size])
theorem shift_in {w : World} {b : Nat} {xs : List Shift} {e : TypeId} {arr : Array Value} (h : w.heap[b]? = some (.cells arr e (0, 0))) (ha : arr.toList = xs.flatMap Shift.cells) (hok : ∀ x ∈ xs, I64 x.at_ ∧ I64 x.offset) (hx : xs.length ≤ 4096) (S : Nat → Prop) (hS : S b) : Sl w S (some ⟨b, 0, none⟩) xs.length xs.length xs := by
  refine ⟨rfl, Nat.le_refl _, by omega, (fun h => by cases h), fun _ => ⟨b, 0, rfl, hS, fun i hi => ?_⟩⟩
  refine ⟨xs[i].cells, ⟨rfl, hok _ (List.getElem_mem hi)⟩, fun j hj => ?_⟩
  have hj2 : j < 2 := hj
  refine (cell_of_row w b _ arr e (0, 0) h).trans ?_
  rw [← Array.getElem?_toList, ha]
  have key : ∀ (l : List Shift) (i : Nat) (hi : i < l.length), (l.flatMap Shift.cells)[0 + i * 2 + j]? = l[i].cells[j]? := by
    intro l
    induction l with
    | nil => intro i hi; simp at hi
    | cons y l ih =>
      intro i hi
      match i, hi with
      | 0, _ =>
        rw [List.flatMap_cons, List.getElem?_append_left (by show 0 + 0 * 2 + j < 2; omega)]
        simp only [List.getElem_cons_zero, Nat.zero_mul, Nat.zero_add]
      | i + 1, hi =>
        rw [List.flatMap_cons, List.getElem?_append_right (by show 2 ≤ 0 + (i + 1) * 2 + j; omega)]
        have := ih i (by simpa using hi)
        rw [show 0 + (i + 1) * 2 + j - y.cells.length = 0 + i * 2 + j by show 0 + (i + 1) * 2 + j - 2 = _; omega]
        simpa using this
  exact (key xs i hi).trans (List.getElem?_eq_getElem _)
def zonesW (w : World) : World := ((w.alloc (.cells #[.int .i64 145000, .int .i64 (-240), .int .i64 147000, .int .i64 (-300)] 54)).alloc (.cells #[.int .i64 145450, .int .i64 0] 54)).alloc
  (.cells #[.string ⟨#[122, 48]⟩, .int .i64 60, .slice none 0 0, .string ⟨#[122, 49]⟩, .int .i64 (-300), .slice (some ⟨w.heap.size, 0, none⟩) 2 2, .string ⟨#[122, 50]⟩, .int .i64 120, .slice (some ⟨w.heap.size + 1, 0, none⟩) 1 1] 52)
theorem zones_in (w : World) : In (zonesW w) (some ⟨w.heap.size + 1 + 1, 0, none⟩) 3 3 zs3 := by
  obtain ⟨w1, e1⟩ : ∃ w1, w1 = w.alloc (.cells #[.int .i64 145000, .int .i64 (-240), .int .i64 147000, .int .i64 (-300)] 54) := ⟨_, rfl⟩
  obtain ⟨w2, e2⟩ : ∃ w2, w2 = w1.alloc (.cells #[.int .i64 145450, .int .i64 0] 54) := ⟨_, rfl⟩
  have z1 : w1.heap.size = w.heap.size + 1 := by rw [e1]; simp
  have z2 : w2.heap.size = w.heap.size + 2 := by rw [e2]; simp [z1]
  have e3 : zonesW w = w2.alloc (.cells #[.string ⟨#[122, 48]⟩, .int .i64 60, .slice none 0 0, .string ⟨#[122, 49]⟩, .int .i64 (-300), .slice (some ⟨w.heap.size, 0, none⟩) 2 2, .string ⟨#[122, 50]⟩, .int .i64 120, .slice (some ⟨w.heap.size + 1, 0, none⟩) 1 1] 52) := by rw [e2, e1]; rfl
  have h0 : (zonesW w).heap[w.heap.size]? = some (.cells #[.int .i64 145000, .int .i64 (-240), .int .i64 147000, .int .i64 (-300)] 54 (0, 0)) := by rw [e3, Below.heap_alloc _ _ _ (by omega), e2, Below.heap_alloc _ _ _ (by omega), e1]; exact heap_alloc_new w _
  have h1 : (zonesW w).heap[w.heap.size + 1]? = some (.cells #[.int .i64 145450, .int .i64 0] 54 (0, 0)) := by rw [e3, Below.heap_alloc _ _ _ (by omega), e2, ← z1]; exact heap_alloc_new w1 _
  have h2 : (zonesW w).heap[w.heap.size + 2]? = some (.cells #[.string ⟨#[122, 48]⟩, .int .i64 60, .slice none 0 0, .string ⟨#[122, 49]⟩, .int .i64 (-300), .slice (some ⟨w.heap.size, 0, none⟩) 2 2, .string ⟨#[122, 50]⟩, .int .i64 120, .slice (some ⟨w.heap.size + 1, 0, none⟩) 1 1] 52 (0, 0)) := by rw [e3, ← z2]; exact heap_alloc_new w2 _
  have hs : (zonesW w).heap.size = w.heap.size + 3 := by rw [e3]; simp [z2]
  have s1 := shift_in (xs := [⟨145000, -240⟩, ⟨147000, -300⟩]) h0 rfl (by intro x hx; simp at hx; rcases hx with rfl | rfl <;> (unfold I64; simp)) (by decide) (fun k => k < (zonesW w).heap.size) (show _ < _ by omega)
  have s2 := shift_in (xs := [⟨145450, 0⟩]) h1 rfl (by intro x hx; simp at hx; subst hx; unfold I64; simp) (by decide) (fun k => k < (zonesW w).heap.size) (show _ < _ by omega)
  refine ⟨rfl, by decide, by decide, (fun h => by cases h), fun _ => ⟨_, 0, rfl, show _ < _ by omega, fun i hi => ?_⟩⟩
  have hi3 : i < 3 := hi
  obtain rfl | rfl | rfl : i = 0 ∨ i = 1 ∨ i = 2 := by omega
  · refine ⟨[.string ⟨#[122, 48]⟩, .int .i64 60, .slice none 0 0], ⟨_, _, _, rfl, Sl.nil_, by simp [Str, ByteArray.size, zs3], by simp [I64, zs3]⟩, fun j hj => ?_⟩
    have hj3 : j < 3 := hj
    obtain rfl | rfl | rfl : j = 0 ∨ j = 1 ∨ j = 2 := by omega
    all_goals exact (cell_of_row _ _ _ _ _ (0, 0) h2).trans rfl
  · refine ⟨[.string ⟨#[122, 49]⟩, .int .i64 (-300), .slice (some ⟨w.heap.size, 0, none⟩) 2 2], ⟨_, _, _, rfl, s1, by simp [Str, ByteArray.size, zs3], by simp [I64, zs3]⟩, fun j hj => ?_⟩
    have hj3 : j < 3 := hj
    obtain rfl | rfl | rfl : j = 0 ∨ j = 1 ∨ j = 2 := by omega
    all_goals exact (cell_of_row _ _ _ _ _ (0, 0) h2).trans rfl
  · refine ⟨[.string ⟨#[122, 50]⟩, .int .i64 120, .slice (some ⟨w.heap.size + 1, 0, none⟩) 1 1], ⟨_, _, _, rfl, s2, by simp [Str, ByteArray.size, zs3], by simp [I64, zs3]⟩, fun j hj => ?_⟩
    have hj3 : j < 3 := hj
    obtain rfl | rfl | rfl : j = 0 ∨ j = 1 ∨ j = 2 := by omega
    all_goals exact (cell_of_row _ _ _ _ _ (0, 0) h2).trans rfl
set_option maxRecDepth 100000 in
theorem zones_any (w : World) : Calls Tryd.prog 9 #[] w fun e w' => (∃ g, e = .returned (.slice (some ⟨g, 0, none⟩) 3 3) ∧ In w' (some ⟨g, 0, none⟩) 3 3 zs3) ∧ Below w.heap.size w w' := by
  go_enter Tryd.func9, Tryd.ntmps9
  go_wp2
  go_ret
  refine ⟨⟨_, rfl, ?_⟩, below_trans below_alloc2 below_alloc⟩
  exact zones_in w
theorem constant_any (v : Val) (hv : v.ok) (w : World) : Calls Tryd.prog 11 #[.agg v.cells.toArray] w fun e w' => Nds w w' e [conNode v] ∧ Below w.heap.size w w' := by
  obtain ⟨k, n, s⟩ := v
  simp only [Val.cells]
  go_enter Tryd.func11, Tryd.ntmps11
  go_wp2
  go_ret
  have hok : ∀ x ∈ [conNode ⟨k, n, s⟩], Flat.ok x := by
    intro x hx
    simp at hx
    subst hx
    exact ⟨by simp [conNode, I64], hv, by simp [conNode, Str, ByteArray.size], by simp [conNode, I64]⟩
  have h := Stk.at_ (B := w.heap.size) (heap_alloc_new (w.alloc (.cells #[.int .i64 k, .int .i64 n, .string s] 27)) (.cells #[.int .i64 0, .int .i64 k, .int .i64 n, .string s, .string ⟨#[]⟩, .int .i64 0] 29)) (xs := [conNode ⟨k, n, s⟩]) rfl hok (by simp) (n := 1) rfl (by omega)
  exact ⟨⟨_, 1, rfl, by simpa using h⟩, below_alloc2⟩
theorem opNode_ok {op : Int} (h : I64 op) : (opNode op).ok := ⟨h, ⟨by simp [opNode, nullV, I64], by simp [opNode, nullV, I64], by simp [opNode, nullV, Str, ByteArray.size]⟩, by simp [opNode, Str, ByteArray.size], by simp [opNode, I64]⟩
set_option maxRecDepth 100000 in
theorem both_any (op : Int) (hop : I64 op) (w : World) (A : Option Addr) (n c : Nat) (es : List Node) (hx : In w A n c es) (A2 : Option Addr) (n2 c2 : Nat) (fs : List Node) (hy : In w A2 n2 c2 fs) (h1 : n ≤ 4096) (h2 : n2 ≤ 4096) :
    Calls Tryd.prog 15 #[.int .i64 op, .slice A n c, .slice A2 n2 c2] w fun e w' => Nds w w' e ((es ++ fs) ++ [opNode op]) ∧ Below w.heap.size w w' := by
  obtain ⟨i0, hi, hz0, hz1, hz2⟩ := info_parts node_info
  have hl1 := hx.len
  have hl2 := hy.len
  go_enter Tryd.func15, Tryd.ntmps15
  go_wp2_with (first
    | (at_builtin; refine wpList_cat (α := Node) _ rfl (.const (.slice none 0 0)) (.tmp 7) 22 rfl w.heap.size 29 i0 _ 64 Tryd.underlying22 hi hz0 hz1 hz2 rfl (by decide) none 0 0 [] (Stk.nil_ _ _ _) rfl rfl A n c es hx rfl (by omega) (Nat.le_refl _) ?_; intro A' c' w1 hst1 hb1 _ hs1; rw [List.nil_append] at hst1)
    | (at_builtin; refine wpList_cat (α := Node) _ rfl (.tmp 8) (.tmp 9) 22 rfl w.heap.size 29 i0 _ 64 Tryd.underlying22 hi hz0 hz1 hz2 rfl (by decide) A' n c' es hst1 (by omega) rfl A2 n2 c2 fs (hy.below hb1) rfl (by omega) hs1 ?_; intro A3 c3 w2 hst2 hb2 _ hs2)
    | (at_builtin; refine wpList_cat (α := Node) _ rfl (.tmp 10) (.tmp 13) 22 rfl w.heap.size 29 i0 _ 64 Tryd.underlying22 hi hz0 hz1 hz2 rfl (by decide) A3 (n + n2) c3 (es ++ fs) (hst2.keep below_alloc) (by rw [List.length_append]; omega) rfl (some ⟨w2.heap.size, 0, none⟩) 1 1 [opNode op] ((Stk.at_ (n := 1) (B := 0) (heap_alloc_new w2 _) rfl (by intro x hx; simp at hx; subst hx; exact opNode_ok hop) (Nat.zero_le _) rfl (by omega)).inn) rfl (by omega) (by simp; omega) ?_; intro A4 c4 w3 hst3 hb3 _ hs3))
  go_ret
  have hlen : (es ++ fs ++ [opNode op]).length = n + n2 + 1 := by
    rw [List.length_append, List.length_append, hl1, hl2]
    rfl
  exact ⟨⟨A4, c4, by rw [hlen]; rfl, hst3⟩, (hb1.trans (hb2.trans ((Below.refl _ _).alloc (by omega) _))).trans hb3⟩
end Go.Proofs.YtmnhahilbbnkkaaDoor

namespace Go.Proofs.YtmnhahilbbnkkaaDoor
set_option linter.unusedVariables false
set_option linter.unusedSimpArgs false

/-- The state of the loop in front of node k: heights, types and values of the stack. -/
structure Run (cols : List Col) (row : List Val) (zs : List Zone) (es : List Node) (k d : Nat) (hs : List Int) (ks : List Kd) (vs : List Val) : Prop where
  ex : exprLoop hs (es.drop k) = 0
  hl : hs.length = d
  vl : vs.length = d
  fit : Fit2 ks vs
  ty : (typeLoop cols zs ks (es.drop k)).1 = 0
  va : valLoop cols row zs [] es = valLoop cols row zs vs (es.drop k)
theorem Run.start {cols : List Col} {row : List Val} {zs : List Zone} {es : List Node} (ht : (typeS es cols zs).1 = 0) : Run cols row zs es 0 0 [] [] [] := by
  rw [typeS] at ht
  split at ht
  · rename_i h; exact absurd ht h
  · rename_i h
    obtain ⟨h1, h2, h3⟩ := check_parts (by omega : checkErr es cols zs = 0)
    exact ⟨(exprErr_loop h1).2, rfl, rfl, trivial, ht, rfl⟩
/-- What a step of the loop knows. -/
structure Step (cols : List Col) (row : List Val) (zs : List Zone) (es : List Node) (k r m : Nat) (x : Node) (vs : List Val) : Prop where
  sh : shaped x = true
  ar : arity x.op x.arity = (m : Int)
  m8 : m ≤ 8
  n21 : x.op ≠ 21
  col : x.op = 1 → m = 0 ∧ 0 ≤ index cols x.name ∧ index cols x.name < cols.length
  val : ∀ v ∈ vs.drop r, valid v = true
  bool : x.op = 2 → (∀ v ∈ vs.drop r, v.kind ≠ 0) → ∀ v ∈ vs.drop r, v.kind = 1
  new : valid (nodeV cols row zs x (vs.drop r)) = true
theorem Run.step {cols : List Col} {row : List Val} {zs : List Zone} {es : List Node} {k d : Nat} {hs : List Int} {ks : List Kd} {vs : List Val} (hc : colsErr cols = 0) (hr : rowErr cols row = 0) (h : Run cols row zs es k d hs ks vs) {x : Node} (hx : es.drop k = x :: es.drop (k + 1)) :
    ∃ m r hs' ks', d = r + m ∧ Step cols row zs es k r m x vs ∧ Run cols row zs es (k + 1) (r + 1) hs' ks' (vs.take r ++ [nodeV cols row zs x (vs.drop r)]) := by
  obtain ⟨he, hl, vl, hf, ht, hv⟩ := h
  rw [hx] at he ht hv
  obtain ⟨m, r, hs', hsh, hm, hm8, hd, hl', he'⟩ := exprLoop_inv he hl
  have hkl : ks.length = r + m := by rw [hf.len, vl]; exact hd
  obtain ⟨kd, hk, hq⟩ := typeLoop_inv hm hkl ht
  have hs := node_sound hc hr hsh hm (by rw [List.length_drop]; omega) (hf.drop r) hk
  refine ⟨m, r, hs', ks.take r ++ [kd], hd, ⟨hsh, hm, hm8, ?_, ?_, (hf.drop r).valid, ?_, hs.2.1⟩, ⟨he', hl', ?_, (hf.take r).push hs, by rw [← hq]; exact ht, ?_⟩⟩
  · intro h21
    rw [nodeKd, if_neg (by omega), if_pos h21] at hk
    injection hk with hk _
    omega
  · intro h1
    rw [nodeKd, if_pos h1] at hk
    split at hk
    · injection hk with hk _; omega
    · rename_i hi
      obtain ⟨i, c, e1, e2, e3⟩ := col_at hi
      refine ⟨?_, by omega, by omega⟩
      rw [h1] at hm
      simp [arity] at hm
      omega
  · intro h2 hn v hv
    have hm1 : m = 1 := by rw [h2] at hm; simp [arity] at hm; omega
    subst hm1
    obtain ⟨a, ha⟩ := list1 (show (ks.drop r).length = 1 by rw [List.length_drop]; omega)
    obtain ⟨b, hb⟩ := list1 (show (vs.drop r).length = 1 by rw [List.length_drop]; omega)
    have hff := hf.drop r
    rw [ha, hb] at hff
    rw [hb] at hv
    simp at hv
    subst hv
    rw [ha, nodeKd, if_neg (by omega), if_neg (by omega), if_neg (by omega)] at hk
    split at hk
    · injection hk with hk _; omega
    · rename_i hq2
      simp [opKd, unKd, h2] at hq2
      refine (has_fits hff.1.1 hff.1.2 hq2).resolve_right ?_
      exact hn v (by rw [hb]; simp)
  · rw [List.length_append, List.length_take]; simp; omega
  · rw [hv, valLoop_ok hm (by rw [vl]; exact hd)]
theorem Run.last {cols : List Col} {row : List Val} {zs : List Zone} {es : List Node} {k d : Nat} {hs : List Int} {ks : List Kd} {vs : List Val} (h : Run cols row zs es k d hs ks vs) (hx : es.drop k = []) :
    d = 1 ∧ ∃ v, vs = [v] ∧ valLoop cols row zs [] es = v := by
  obtain ⟨he, hl, vl, hf, ht, hv⟩ := h
  rw [hx] at he hv
  have := exprLoop_end he rfl
  obtain rfl : d = 1 := by omega
  obtain ⟨v, rfl⟩ := list1 vl
  exact ⟨rfl, v, rfl, by rw [hv]; rfl⟩
theorem Run.short {cols : List Col} {row : List Val} {zs : List Zone} {es : List Node} (ht : (typeS es cols zs).1 = 0) : es.length ≤ 256 ∧ colsErr cols = 0 := by
  rw [typeS] at ht
  split at ht
  · rename_i h; exact absurd ht h
  · rename_i h
    obtain ⟨h1, h2, h3⟩ := check_parts (by omega : checkErr es cols zs = 0)
    exact ⟨(exprErr_loop h1).1, h2⟩
end Go.Proofs.YtmnhahilbbnkkaaDoor

namespace Go.Proofs.YtmnhahilbbnkkaaDoor
set_option linter.unusedVariables false
set_option linter.unusedSimpArgs false

/-- An expression's value for a row, and that it evaluates. -/
theorem Ok.eval {k : Int} {d : Nat} {es : List Node} (h : Ok cols5 k d es) (hd : d ≤ 4) {row : List Val} (hr : rowErr cols5 row = 0) :
    ∃ (kd : Kd) (v : Val), Proofs.YtmnhahilbbnkkaaDoor.typeS es cols5 zs3 = (0, kd) ∧ (kd.kind = k ∨ kd.kind = 0) ∧ evalS es cols5 row zs3 = (0, v) ∧ KdOk kd ∧ Has kd v := by
  obtain ⟨kd, e, hk⟩ := h.typeS cols5_good hd
  have hs := eval_sound (es := es) (zs := zs3) hr (by rw [e])
  rw [e] at hs
  refine ⟨kd, _, e, hk, ?_, hs⟩
  rw [evalS, if_neg (by rw [e]; simp), if_neg (by rw [hr]; simp)]
theorem lenB_le {d : Nat} (h : d ≤ 4) : lenB d ≤ 256 := by
  have : d = 0 ∨ d = 1 ∨ d = 2 ∨ d = 3 ∨ d = 4 := by omega
  rcases this with rfl | rfl | rfl | rfl | rfl <;> decide
theorem good_eval {k : Int} {d m : Nat} {es : List Node} {t : Ex} (h : Good cols5 zs3 k d m es t) (hd : d ≤ 64) (hm : m ≤ 256) {row : List Val} (hr : rowErr cols5 row = 0) : evalS es cols5 row zs3 = (0, t.val cols5 row zs3) := by
  have ht : typeS es cols5 zs3 = (0, t.ty cols5 zs3) := by rw [h.nodes]; exact Ex.typeS h.wf (by have := h.hgt; omega) (Nat.le_trans h.len hm) cols5_ok zs3_ok h.typed
  rw [evalS, if_neg (by rw [ht]; simp), if_neg (by rw [hr]; simp), h.nodes, Ex.valS h.wf]
theorem good_has {k : Int} {d m : Nat} {es : List Node} {t : Ex} (h : Good cols5 zs3 k d m es t) (hd : d ≤ 64) (hm : m ≤ 256) {row : List Val} (hr : rowErr cols5 row = 0) : valid (t.val cols5 row zs3) = true ∧ ((t.val cols5 row zs3).kind = k ∨ (t.val cols5 row zs3).kind = 0) := by
  have := Ex.sound h.wf (by have := h.hgt; omega) (Nat.le_trans h.len hm) cols5_ok zs3_ok hr h.typed
  refine ⟨this.2.1, ?_⟩
  have hk := h.kind
  rcases this.2.2 with q | q
  · omega
  · exact .inr q.1

/-! ### Logic -/
/-- A truth value or null. -/
theorem three {v : Val} (hv : valid v = true) (hk : v.kind = 1 ∨ v.kind = 0) : v = nullV ∨ v = boolV false ∨ v = boolV true := by
  by_cases h0 : v.kind = 0
  · exact .inl (valid_null_eq hv h0)
  · have h1 : v.kind = 1 := hk.resolve_right h0
    obtain ⟨kd, n, s⟩ := v
    simp only at h1
    subst h1
    simp [valid, noStr] at hv
    have hs : s = ⟨#[]⟩ := byteArray_eq (by rw [hv.1, ByteArray.toList_eq])
    subst hs
    rcases hv.2 with rfl | rfl
    · exact .inr (.inl rfl)
    · exact .inr (.inr rfl)
theorem truth_null : truth nullV = -1 := by simp [truth, nullV]
theorem truth_boolV (b : Bool) : truth (boolV b) = if b then 1 else 0 := by rw [truth, if_pos ⟨rfl, valid_boolV b⟩]; rfl
def notV (v : Val) : Val := unV zs3 2 ⟨#[]⟩ v
theorem notV_null : notV nullV = nullV := by simp [notV, unV, nullV]
theorem notV_bool (b : Bool) : notV (boolV b) = boolV (!b) := by cases b <;> simp [notV, unV, boolV]
theorem logic_laws {a b : Val} (ha : a = nullV ∨ a = boolV false ∨ a = boolV true) (hb : b = nullV ∨ b = boolV false ∨ b = boolV true) :
    logicV a b 0 = logicV b a 0 ∧ logicV a b 0 = notV (logicV (notV a) (notV b) 1) ∧ logicV a b 1 = notV (logicV (notV a) (notV b) 0) := by
  rcases ha with rfl | rfl | rfl <;> rcases hb with rfl | rfl | rfl <;> simp [logicV, truth_null, truth_boolV, notV_null, notV_bool]
theorem good_not {d m : Nat} {es : List Node} {t : Ex} (h : Good cols5 zs3 1 d m es t) : Good cols5 zs3 1 (d + 1) (m + 1) (es ++ [opNode 2]) (.un (opNode 2) t) := by
  have hk := h.kind
  generalize hkd : t.ty cols5 zs3 = kd at hk
  have hn := nodeKd_op (cols := cols5) (op := 2) (xs := [kd]) (by omega) (by simp [opKd, unKd, opNode, fits]; exact hk)
  refine ⟨by rw [h.nodes]; rfl, ⟨⟨shaped_opNode (by omega), rfl⟩, h.wf⟩, ?_, ?_, ⟨?_, h.typed⟩, ?_⟩
  · rw [Ex.hgt, raise_one]; have := h.hgt; omega
  · rw [Ex.len]; have := h.len; omega
  · rw [hkd, hn]
  · rw [Ex.ty, hkd, hn]; exact .inl rfl
theorem good_log {d m m' : Nat} {es fs : List Node} {t u : Ex} (h : Good cols5 zs3 1 d m es t) (h2 : Good cols5 zs3 1 d m' fs u) {op : Int} (hop : op = 14 ∨ op = 15) : Good cols5 zs3 1 (d + 1) (m + m' + 1) ((es ++ fs) ++ [opNode op]) (.bin (opNode op) t u) := by
  have hx := h.kind; have hy := h2.kind
  generalize e1 : t.ty cols5 zs3 = x at hx
  generalize e2 : u.ty cols5 zs3 = y at hy
  have hb : (opKd (opNode op) [x, y]).2 = true ∧ (opKd (opNode op) [x, y]).1.kind = 1 := by rcases hop with rfl | rfl <;> simp [opKd, binKd, opNode, fits, hx, hy]
  have hn := nodeKd_op (cols := cols5) (op := op) (xs := [x, y]) (by omega) hb.1
  refine ⟨by rw [h.nodes, h2.nodes, List.append_assoc]; rfl, ⟨⟨shaped_opNode (by omega), ?_⟩, h.wf, h2.wf⟩, ?_, ?_, ⟨?_, h.typed, h2.typed⟩, ?_⟩
  · rcases hop with rfl | rfl <;> rfl
  · rw [Ex.hgt, raise_two]; have := h.hgt; have := h2.hgt; omega
  · rw [Ex.len]; have := h.len; have := h2.len; omega
  · rw [e1, e2, hn]
  · rw [Ex.ty, e1, e2, hn]; exact .inl hb.2
theorem val_not (row : List Val) (t : Ex) : (Ex.un (opNode 2) t).val cols5 row zs3 = notV (t.val cols5 row zs3) := rfl
theorem val_and (row : List Val) (t u : Ex) : (Ex.bin (opNode 14) t u).val cols5 row zs3 = logicV (t.val cols5 row zs3) (u.val cols5 row zs3) 0 := rfl
theorem val_or (row : List Val) (t u : Ex) : (Ex.bin (opNode 15) t u).val cols5 row zs3 = logicV (t.val cols5 row zs3) (u.val cols5 row zs3) 1 := rfl
def andE (es fs : List Node) : List Node := (es ++ fs) ++ [opNode 14]
def orE (es fs : List Node) : List Node := (es ++ fs) ++ [opNode 15]
def notE (es : List Node) : List Node := es ++ [opNode 2]
theorem logic_law {es fs : List Node} (h : Ok cols5 1 2 es) (h2 : Ok cols5 1 2 fs) {row : List Val} (hr : rowErr cols5 row = 0) :
    ∃ p s, evalS (andE es fs) cols5 row zs3 = (0, p) ∧ evalS (andE fs es) cols5 row zs3 = (0, p) ∧ evalS (notE (orE (notE es) (notE fs))) cols5 row zs3 = (0, p) ∧ evalS (orE es fs) cols5 row zs3 = (0, s) ∧ evalS (notE (andE (notE es) (notE fs))) cols5 row zs3 = (0, s) := by
  obtain ⟨t, h⟩ := h
  obtain ⟨u, h2⟩ := h2
  have q1 := good_has h (by omega) (by decide) hr
  have q2 := good_has h2 (by omega) (by decide) hr
  obtain ⟨l1, l2, l3⟩ := logic_laws (three q1.1 q1.2) (three q2.1 q2.2)
  have g1 := good_eval (good_log h h2 (op := 14) (.inl rfl)) (by omega) (by decide) hr
  have g2 := good_eval (good_log h2 h (op := 14) (.inl rfl)) (by omega) (by decide) hr
  have g3 := good_eval (good_not (good_log (good_not h) (good_not h2) (op := 15) (.inr rfl))) (by omega) (by decide) hr
  have g4 := good_eval (good_log h h2 (op := 15) (.inr rfl)) (by omega) (by decide) hr
  have g5 := good_eval (good_not (good_log (good_not h) (good_not h2) (op := 14) (.inl rfl))) (by omega) (by decide) hr
  rw [val_and] at g1 g2
  rw [val_not, val_or, val_not, val_not] at g3
  rw [val_or] at g4
  rw [val_not, val_and, val_not, val_not] at g5
  exact ⟨_, _, g1, by rw [l1]; exact g2, by rw [l2]; exact g3, g4, by rw [l3]; exact g5⟩

/-! ### Order -/
theorem good_con {v : Val} (hv : valid v = true) : Good cols5 zs3 v.kind 1 1 [conNode v] (.leaf (conNode v)) := by
  refine ⟨rfl, ⟨shaped_con hv, rfl⟩, Int.le_refl _, Nat.le_refl _, ?_, ?_⟩
  · simp [Ex.typed, nodeKd, conNode, opKd]
  · simp [Ex.ty, nodeKd, conNode, opKd]
def cmpE (op : Int) (a b : Val) : List Node := ([conNode a] ++ [conNode b]) ++ [opNode op]
theorem cmp_eval {op : Int} (hop : op = 10 ∨ op = 11 ∨ op = 12 ∨ op = 13) {a b : Val} (ha : valid a = true) (hb : valid b = true) (hk : a.kind = b.kind ∨ a.kind = 0 ∨ b.kind = 0) {row : List Val} (hr : rowErr cols5 row = 0) :
    evalS (cmpE op a b) cols5 row zs3 = (0, if a.kind = 0 ∨ b.kind = 0 then nullV else binV op a b) := by
  have g1 := good_con ha
  have g2 := good_con hb
  have e1 : (Ex.leaf (conNode a)).ty cols5 zs3 = ⟨a.kind, a.kind == 0⟩ := by simp [Ex.ty, nodeKd, conNode, opKd]
  have e2 : (Ex.leaf (conNode b)).ty cols5 zs3 = ⟨b.kind, b.kind == 0⟩ := by simp [Ex.ty, nodeKd, conNode, opKd]
  have hc : (common ⟨a.kind, a.kind == 0⟩ ⟨b.kind, b.kind == 0⟩).2 = true := by
    rw [common]; split
    · rfl
    · simp [fits]; rename_i h; simp only at h; omega
  have hb' : (opKd (opNode op) [⟨a.kind, a.kind == 0⟩, ⟨b.kind, b.kind == 0⟩]).2 = true := by rcases hop with rfl | rfl | rfl | rfl <;> simpa [opKd, binKd, opNode] using hc
  have hn := nodeKd_op (cols := cols5) (op := op) (by omega) hb'
  have hG : Good cols5 zs3 ((Ex.bin (opNode op) (.leaf (conNode a)) (.leaf (conNode b))).ty cols5 zs3).kind 2 3 (cmpE op a b) (.bin (opNode op) (.leaf (conNode a)) (.leaf (conNode b))) := by
    refine ⟨rfl, ⟨⟨shaped_opNode (by omega), ?_⟩, g1.wf, g2.wf⟩, ?_, ?_, ⟨?_, g1.typed, g2.typed⟩, .inl rfl⟩
    · rcases hop with rfl | rfl | rfl | rfl <;> rfl
    · rw [Ex.hgt, raise_two]; simp [Ex.hgt]; decide
    · simp [Ex.len]
    · rw [e1, e2, hn]
  rw [good_eval hG (by omega) (by decide) hr]
  rcases hop with rfl | rfl | rfl | rfl <;> rfl
theorem cmpInt_anti (a b : Int) : cmpInt b a = - cmpInt a b := by rw [cmpInt, cmpInt]; (repeat' split) <;> omega
theorem bytesLess_tri : ∀ (l m : List UInt8), (Op.bytesLess l m = true → Op.bytesLess m l = false) ∧ (Op.bytesLess l m = false → Op.bytesLess m l = false → l = m)
  | [], [] => ⟨fun _ => rfl, fun _ _ => rfl⟩
  | [], _ :: _ => ⟨fun _ => rfl, fun h _ => by simp [Op.bytesLess] at h⟩
  | _ :: _, [] => ⟨fun h => by simp [Op.bytesLess] at h, fun _ h => by simp [Op.bytesLess] at h⟩
  | x :: l, y :: m => by
    have ih := bytesLess_tri l m
    simp only [Op.bytesLess]
    by_cases h1 : x < y
    · have h2 : ¬ y < x := by
        have : x.toNat < y.toNat := h1
        intro q
        have : y.toNat < x.toNat := q
        omega
      have h3 : ¬ y = x := fun e => h2 (e ▸ h1)
      simp [h1, h2, h3]
    · by_cases h2 : y < x
      · have h3 : ¬ x = y := fun e => h1 (e ▸ h2)
        simp [h1, h2, h3]
      · have e : x = y := by
          have a1 : ¬ x.toNat < y.toNat := h1
          have a2 : ¬ y.toNat < x.toNat := h2
          exact UInt8.toNat_inj.1 (by omega)
        subst e
        simp [h1]
        exact ih
theorem cmpStr_anti (a b : ByteArray) : (cmpStr a b < 0 ∧ 0 < cmpStr b a) ∨ (cmpStr a b = 0 ∧ cmpStr b a = 0) ∨ (0 < cmpStr a b ∧ cmpStr b a < 0) := by
  have h := bytesLess_tri a.toList b.toList
  have h' := bytesLess_tri b.toList a.toList
  rw [cmpStr, cmpStr]
  cases p : Op.bytesLess a.toList b.toList
  · cases q : Op.bytesLess b.toList a.toList
    · have e := h.2 p q
      simp [e]
    · refine .inr (.inr ?_)
      have : ¬ a.toList = b.toList := by
        intro e; rw [e, bytesLess_irrefl] at q; cases q
      simp [this]
  · have q := h.1 p
    refine .inl ?_
    have : ¬ b.toList = a.toList := by
      intro e; rw [e, bytesLess_irrefl] at p; cases p
    simp [q, this]
theorem cmpVal_anti (a b : Val) : (cmpVal a b < 0 ∧ 0 < cmpVal b a) ∨ (cmpVal a b = 0 ∧ cmpVal b a = 0) ∨ (0 < cmpVal a b ∧ cmpVal b a < 0) := by
  have h1 := cmpInt_anti a.kind b.kind
  have h2 := cmpInt_anti a.num b.num
  have h3 := cmpStr_anti a.str b.str
  rw [cmpVal, cmpVal, h1, h2]
  by_cases q1 : cmpInt a.kind b.kind = 0
  · by_cases q2 : cmpInt a.num b.num = 0
    · simpa [q1, q2] using h3
    · simp [q1, q2]; omega
  · simp [q1]; omega
theorem order_law {a b : Val} (ha : valid a = true) (hb : valid b = true) (hk : a.kind = b.kind) (h0 : a.kind ≠ 0) {row : List Val} (hr : rowErr cols5 row = 0) :
    ∃ x y z : Bool, evalS (cmpE 12 a b) cols5 row zs3 = (0, boolV x) ∧ evalS (cmpE 10 a b) cols5 row zs3 = (0, boolV y) ∧ evalS (cmpE 12 b a) cols5 row zs3 = (0, boolV z) ∧ evalS (cmpE 13 a b) cols5 row zs3 = (0, boolV (!z)) ∧ evalS (cmpE 11 a b) cols5 row zs3 = (0, boolV (!y)) ∧ evalS (cmpE 12 a nullV) cols5 row zs3 = (0, nullV) ∧
      (x.toNat + y.toNat + z.toNat = 1) := by
  have hn : ¬ (a.kind = 0 ∨ b.kind = 0) := by omega
  have hn' : ¬ (b.kind = 0 ∨ a.kind = 0) := by omega
  have e1 := cmp_eval (op := 12) (by omega) ha hb (.inl hk) hr
  have e2 := cmp_eval (op := 10) (by omega) ha hb (.inl hk) hr
  have e3 := cmp_eval (op := 12) (by omega) hb ha (.inl hk.symm) hr
  have e4 := cmp_eval (op := 13) (by omega) ha hb (.inl hk) hr
  have e5 := cmp_eval (op := 11) (by omega) ha hb (.inl hk) hr
  have e6 := cmp_eval (op := 12) (by omega) ha valid_null (.inr (.inr rfl)) hr
  rw [if_neg hn] at e1 e2 e4 e5
  rw [if_neg hn'] at e3
  rw [if_pos (.inr rfl)] at e6
  have h := cmpVal_anti a b
  refine ⟨decide (cmpVal a b < 0), cmpVal a b == 0, decide (cmpVal b a < 0), e1, e2, e3, ?_, ?_, e6, ?_⟩
  · rw [e4]
    have : (decide (cmpVal a b ≤ 0)) = !(decide (cmpVal b a < 0)) := by
      rw [← decide_not]
      apply decide_eq_decide.2
      omega
    simp [binV, this]
  · rw [e5]; rfl
  · rcases h with h | h | h
    · have a1 : cmpVal a b < 0 := h.1
      have a2 : ¬ cmpVal a b = 0 := by omega
      have a3 : ¬ cmpVal b a < 0 := by omega
      simp [a1, a2, a3]
    · have a1 : ¬ cmpVal a b < 0 := by omega
      have a2 : cmpVal a b = 0 := h.1
      have a3 : ¬ cmpVal b a < 0 := by omega
      simp [a1, a2, a3]
    · have a1 : ¬ cmpVal a b < 0 := by omega
      have a2 : ¬ cmpVal a b = 0 := by omega
      have a3 : cmpVal b a < 0 := h.2
      simp [a1, a2, a3]

/-! ### Columns -/
theorem nodeV_same {cols : List Col} {a b : List Val} {zs : List Zone} {n : Node} {xs : List Val} (h : n.op = 1 → a.getD (index cols n.name).toNat nullV = b.getD (index cols n.name).toNat nullV) : nodeV cols a zs n xs = nodeV cols b zs n xs := by
  rw [nodeV, nodeV]
  split
  · rename_i h1; exact h h1
  · rfl
theorem Ex.depends {cols : List Col} {a b : List Val} {zs : List Zone} : ∀ (t : Ex), (∀ n ∈ t.nodes, n.op = 1 → a.getD (index cols n.name).toNat nullV = b.getD (index cols n.name).toNat nullV) → t.val cols a zs = t.val cols b zs
  | .leaf n, h => nodeV_same (h n (by simp [nodes]))
  | .un n x, h => by
    rw [val, val, depends x (fun q hq => h q (by simp [nodes, hq]))]
    exact nodeV_same (h n (by simp [nodes]))
  | .bin n x y, h => by
    rw [val, val, depends x (fun q hq => h q (by simp [nodes, hq])), depends y (fun q hq => h q (by simp [nodes, hq]))]
    exact nodeV_same (h n (by simp [nodes]))
  | .tri n x y z, h => by
    rw [val, val, depends x (fun q hq => h q (by simp [nodes, hq])), depends y (fun q hq => h q (by simp [nodes, hq])), depends z (fun q hq => h q (by simp [nodes, hq]))]
    exact nodeV_same (h n (by simp [nodes]))
theorem depends_law {k : Int} {d : Nat} {es : List Node} (h : Ok cols5 k d es) (hd : d ≤ 4) {a b : List Val} (ha : rowErr cols5 a = 0) (hb : rowErr cols5 b = 0)
    (hs : ∀ n ∈ es, n.op = 1 → a.getD (index cols5 n.name).toNat nullV = b.getD (index cols5 n.name).toNat nullV) : ∃ v, evalS es cols5 a zs3 = (0, v) ∧ evalS es cols5 b zs3 = (0, v) := by
  obtain ⟨t, h⟩ := h
  have g1 := good_eval h (by omega) (lenB_le hd) ha
  have g2 := good_eval h (by omega) (lenB_le hd) hb
  refine ⟨_, g1, ?_⟩
  rw [g2, Ex.depends t (a := b) (b := a)]
  intro n hn h1
  exact (hs n (by rw [h.nodes]; exact hn) h1).symm
/-- Every column that an expression names is one of the columns. -/
theorem Ex.cols_in {cols : List Col} {zs : List Zone} : ∀ (t : Ex), t.typed cols zs → ∀ n ∈ t.nodes, n.op = 1 → 0 ≤ index cols n.name
  | .leaf n, h, q, hq, h1 => by
    simp [nodes] at hq; subst hq
    rw [typed, nodeKd, if_pos h1] at h
    split at h
    · simp at h
    · omega
  | .un n x, h, q, hq, h1 => by
    simp only [nodes, List.mem_append, List.mem_singleton] at hq
    rcases hq with hq | rfl
    · exact cols_in x h.2 q hq h1
    · have h := h.1
      rw [nodeKd, if_pos h1] at h
      split at h
      · simp at h
      · omega
  | .bin n x y, h, q, hq, h1 => by
    simp only [nodes, List.mem_append, List.mem_singleton] at hq
    rcases hq with hq | hq | rfl
    · exact cols_in x h.2.1 q hq h1
    · exact cols_in y h.2.2 q hq h1
    · have h := h.1
      rw [nodeKd, if_pos h1] at h
      split at h
      · simp at h
      · omega
  | .tri n x y z, h, q, hq, h1 => by
    simp only [nodes, List.mem_append, List.mem_singleton] at hq
    rcases hq with hq | hq | hq | rfl
    · exact cols_in x h.2.1 q hq h1
    · exact cols_in y h.2.2.1 q hq h1
    · exact cols_in z h.2.2.2 q hq h1
    · have h := h.1
      rw [nodeKd, if_pos h1] at h
      split at h
      · simp at h
      · omega
end Go.Proofs.YtmnhahilbbnkkaaDoor

namespace Go.Proofs.YtmnhahilbbnkkaaDoor
set_option linter.unusedVariables false
set_option linter.unusedSimpArgs false

theorem knownX (op : Int) (a b : Val) (hop : 4 ≤ op ∧ op ≤ 15) (ha : valid a = true) (hb : valid b = true) : exprErr (([conNode a] ++ [conNode b]) ++ [opNode op]) = 0 := by
  have h1 := shaped_con ha
  have h2 := shaped_con hb
  have h3 : shaped (opNode op) = true := shaped_opNode (by omega)
  have a1 : arity (conNode a).op (conNode a).arity = 0 := rfl
  have a2 : arity (conNode b).op (conNode b).arity = 0 := rfl
  have a3 : arity (opNode op).op (opNode op).arity = 2 := by
    show arity op 0 = 2
    rw [arity, if_neg (by omega), if_neg (by omega), if_neg (by omega), if_neg (by omega), if_pos (by omega)]
  rw [exprErr, if_neg (by simp)]
  simp [exprLoop, h1, h2, h3, a1, a2, a3, restOf, raise]
  omega
theorem known_cols1 : colsErr (cols5.take 1) = 0 := by
  have h := cols5_index 0 (by decide)
  simp [colsErr, cols5, firstErr, colErr, isName, nameFrom, byteAt, nameOk, index, indexFrom, ByteArray.toList_eq]
  decide
theorem knownT (op : Int) (a b : Val) (hop : 4 ≤ op ∧ op ≤ 15) (ha : valid a = true) (hb : valid b = true) (cols : List Col) (hc : colsErr cols = 0) :
    typeS (([conNode a] ++ [conNode b]) ++ [opNode op]) cols [] = if (binKd op ⟨a.kind, a.kind == 0⟩ ⟨b.kind, b.kind == 0⟩).2 = false then (7, default) else (0, (binKd op ⟨a.kind, a.kind == 0⟩ ⟨b.kind, b.kind == 0⟩).1) := by
  have a1 : arity (conNode a).op (conNode a).arity = 0 := rfl
  have a2 : arity (conNode b).op (conNode b).arity = 0 := rfl
  have a3 : arity (opNode op).op (opNode op).arity = 2 := by
    show arity op 0 = 2
    rw [arity, if_neg (by omega), if_neg (by omega), if_neg (by omega), if_neg (by omega), if_pos (by omega)]
  have hk : checkErr (([conNode a] ++ [conNode b]) ++ [opNode op]) cols [] = 0 := by
    rw [checkErr, if_neg (by rw [knownX op a b hop ha hb]; simp), if_neg (by rw [hc]; simp)]; rfl
  have n1 : ∀ v : Val, nodeKd cols [] (conNode v) [] = (0, ⟨v.kind, v.kind == 0⟩) := fun v => by simp [nodeKd, conNode, opKd]
  have n2 : ∀ x y : Kd, nodeKd cols [] (opNode op) [x, y] = if (binKd op x y).2 = false then (7, default) else (0, (binKd op x y).1) := fun x y => by
    rw [nodeKd, if_neg (by simp [opNode]; omega), if_neg (by simp [opNode]; omega), if_neg (by simp [opNode]; omega)]
    rfl
  rw [typeS, if_neg (by rw [hk]; simp)]
  simp [typeLoop, a1, a2, a3, restOf, n1, n2]
  split
  · rfl
  · rfl
theorem known1 : evalS (([conNode ⟨2, 1, ⟨#[]⟩⟩] ++ [conNode ⟨2, 0, ⟨#[]⟩⟩]) ++ [opNode 7]) (cols5.take 1) [⟨2, 0, ⟨#[]⟩⟩] [] = (0, nullV) := by
  have v1 : valid ⟨2, 1, ⟨#[]⟩⟩ = true := by simp [valid, noStr_empty]
  have v0 : valid ⟨2, 0, ⟨#[]⟩⟩ = true := by simp [valid, noStr_empty]
  have ht := knownT 7 ⟨2, 1, ⟨#[]⟩⟩ ⟨2, 0, ⟨#[]⟩⟩ (by omega) v1 v0 _ known_cols1
  have hr : rowErr (cols5.take 1) [⟨2, 0, ⟨#[]⟩⟩] = 0 := by simp [rowErr, cols5, firstErr, cellErr, v0]
  rw [evalS, ht, hr]
  simp [binKd, fits, valLoop, restOf, nodeV, opV, conNode, opNode, arity, binV, arithV, divX, numV]
theorem known2 : evalS (([conNode ⟨2, 1, ⟨#[]⟩⟩] ++ [conNode ⟨2, 1, ⟨#[]⟩⟩]) ++ [opNode 4]) (cols5.take 1) [⟨2, 0, ⟨#[]⟩⟩] [] = (0, ⟨2, 2, ⟨#[]⟩⟩) := by
  have v1 : valid ⟨2, 1, ⟨#[]⟩⟩ = true := by simp [valid, noStr_empty]
  have v0 : valid ⟨2, 0, ⟨#[]⟩⟩ = true := by simp [valid, noStr_empty]
  have ht := knownT 4 ⟨2, 1, ⟨#[]⟩⟩ ⟨2, 1, ⟨#[]⟩⟩ (by omega) v1 v1 _ known_cols1
  have hr : rowErr (cols5.take 1) [⟨2, 0, ⟨#[]⟩⟩] = 0 := by simp [rowErr, cols5, firstErr, cellErr, v0]
  rw [evalS, ht, hr]
  simp [binKd, fits, valLoop, restOf, nodeV, opV, conNode, opNode, arity, binV, arithV, addX, smallI, numV]
theorem known3 : (typeS (([conNode ⟨2, 1, ⟨#[]⟩⟩] ++ [conNode ⟨3, 0, ⟨#[]⟩⟩]) ++ [opNode 4]) cols5 []).1 = 7 := by
  have v1 : valid ⟨2, 1, ⟨#[]⟩⟩ = true := by simp [valid, noStr_empty]
  have v0 : valid ⟨3, 0, ⟨#[]⟩⟩ = true := by simp [valid]; decide
  have ht := knownT 4 ⟨2, 1, ⟨#[]⟩⟩ ⟨3, 0, ⟨#[]⟩⟩ (by omega) v1 v0 _ cols5_ok
  rw [ht]
  simp [binKd, fits]
end Go.Proofs.YtmnhahilbbnkkaaDoor

namespace Go.Proofs.YtmnhahilbbnkkaaDoor
open Go.RowKit
set_option linter.unusedSimpArgs false
set_option linter.unusedVariables false

theorem cols5_cgood : ∀ x ∈ cols5, x.good := by
  intro x hx
  simp only [cols5, List.mem_cons, List.mem_nil_iff, or_false] at hx
  rcases hx with rfl | rfl | rfl | rfl | rfl <;> simp [Col.good, Col.ok, Str, I64, ByteArray.size]
/-- A row for the statements' columns. -/
theorem row5 (w : World) (A A2 : Option Addr) (n2 c c2 : Nat) (l : List Int) (hx : In w A 5 c cols5) (hl : In w A2 n2 c2 l) (a : Int) (ha0 : 0 ≤ a) (ha1 : a ≤ 100000) :
    Calls Tryd.prog 13 #[.slice A 5 c, .slice A2 n2 c2, .int .i64 a] w fun e w' => (∃ B c' vs, e = .returned (.slice B 5 c') ∧ In w' B 5 c' vs ∧ rowErr cols5 vs = 0) ∧ Below w.heap.size w w' := by
  refine (row_any w A A2 5 n2 c c2 cols5 l hx cols5_cgood hl a ha0 ha1 (by omega)).mono ?_
  rintro e w' ⟨⟨B, c', vs, rfl, h1, h2⟩, hb⟩
  exact ⟨⟨B, c', vs, rfl, In.of_sl h1 fun q hq => hq.2.lt, h2⟩, hb⟩
end Go.Proofs.YtmnhahilbbnkkaaDoor
