/-
  scalar.typed at any node but a column and a call; what exprErr = 0 says of each node; an append in a region that draws its order.
-/
import Derived.Test.YtmnhahilbbnkkaaDoorTypE
import Derived.Test.YtmnhahilbbnkkaaDoorFind
namespace Go.Proofs.YtmnhahilbbnkkaaDoor
open Go.RowKit
set_option linter.unusedSimpArgs false
set_option linter.unusedVariables false

theorem shaped_op {n : Node} (h : shaped n = true) (h1 : n.op ≠ 1) (h21 : n.op ≠ 21) : n.op = 0 ∨ (2 ≤ n.op ∧ n.op ≤ 20) := by
  obtain ⟨op, v, nm, ar⟩ := n
  have := arity_range h
  simp only [arity] at this
  simp only at h1 h21 ⊢
  by_cases h0 : op = 0
  · exact .inl h0
  · right
    revert this
    (repeat' split) <;> omega
theorem In.len1 {α : Type} [Rep α] {w : World} {A : Option Addr} {c : Nat} {xs : List α} (h : In w A 1 c xs) : ∃ x b off, xs = [x] ∧ A = some ⟨b, off, none⟩ := by
  obtain ⟨b, off, x, e, _⟩ := h.get (k := 0) (by omega)
  match xs, h.len with
  | [x], _ => exact ⟨x, b, off, rfl, e⟩
theorem In.len2 {α : Type} [Rep α] {w : World} {A : Option Addr} {c : Nat} {xs : List α} (h : In w A 2 c xs) : ∃ x y b off, xs = [x, y] ∧ A = some ⟨b, off, none⟩ := by
  obtain ⟨b, off, x, e, _⟩ := h.get (k := 0) (by omega)
  match xs, h.len with
  | [x, y], _ => exact ⟨x, y, b, off, rfl, e⟩
theorem In.len3 {α : Type} [Rep α] {w : World} {A : Option Addr} {c : Nat} {xs : List α} (h : In w A 3 c xs) : ∃ x y z b off, xs = [x, y, z] ∧ A = some ⟨b, off, none⟩ := by
  obtain ⟨b, off, x, e, _⟩ := h.get (k := 0) (by omega)
  match xs, h.len with
  | [x, y, z], _ => exact ⟨x, y, z, b, off, rfl, e⟩
theorem In.len0 {α : Type} [Rep α] {w : World} {A : Option Addr} {c : Nat} {xs : List α} (h : In w A 0 c xs) : xs = [] := List.eq_nil_of_length_eq_zero h.len
theorem typed_any (x : Node) (hsh : shaped x = true) (h1 : x.op ≠ 1) (h21 : x.op ≠ 21) (m : Nat) (hm : arity x.op x.arity = (m : Int)) (w : World) (A : Option Addr) (c : Nat) (xs : List Kd) (hx : In w A m c xs) :
    Calls Tryd.prog 27 #[.agg x.cells.toArray, .slice A m c] w fun e w' => e = .returned (.tuple #[.agg #[.int .i64 (opKd x xs).1.kind, .bool (opKd x xs).1.null], .bool (opKd x xs).2]) ∧ Below w.heap.size w w' := by
  have hop := shaped_op hsh h1 h21
  obtain ⟨op, ⟨kd, nu, st⟩, nm, ar⟩ := x
  simp only at hop h1 h21 hm
  clear hsh h1 h21
  rcases hop with rfl | ⟨hl, hh⟩
  · have e : m = 0 := by simp [arity] at hm; omega
    subst e
    obtain rfl := hx.len0
    exact typed_0 kd nu ar st nm w A c hx
  obtain rfl | rfl | rfl | rfl | rfl | rfl | rfl | rfl | rfl | rfl | rfl | rfl | rfl | rfl | rfl | rfl | rfl | rfl | rfl : op = 2 ∨ op = 3 ∨ op = 4 ∨ op = 5 ∨ op = 6 ∨ op = 7 ∨ op = 8 ∨ op = 9 ∨ op = 10 ∨ op = 11 ∨ op = 12 ∨ op = 13 ∨ op = 14 ∨ op = 15 ∨ op = 16 ∨ op = 17 ∨ op = 18 ∨ op = 19 ∨ op = 20 := by omega
  · have e : m = 1 := by simp [arity] at hm; omega
    subst e
    obtain ⟨x, b, off, rfl, rfl⟩ := hx.len1
    exact typed_2 kd nu ar st nm w b off c x hx
  · have e : m = 1 := by simp [arity] at hm; omega
    subst e
    obtain ⟨x, b, off, rfl, rfl⟩ := hx.len1
    exact typed_3 kd nu ar st nm w b off c x hx
  · have e : m = 2 := by simp [arity] at hm; omega
    subst e
    obtain ⟨x, y, b, off, rfl, rfl⟩ := hx.len2
    exact typed_4 kd nu ar st nm w b off c x y hx
  · have e : m = 2 := by simp [arity] at hm; omega
    subst e
    obtain ⟨x, y, b, off, rfl, rfl⟩ := hx.len2
    exact typed_5 kd nu ar st nm w b off c x y hx
  · have e : m = 2 := by simp [arity] at hm; omega
    subst e
    obtain ⟨x, y, b, off, rfl, rfl⟩ := hx.len2
    exact typed_6 kd nu ar st nm w b off c x y hx
  · have e : m = 2 := by simp [arity] at hm; omega
    subst e
    obtain ⟨x, y, b, off, rfl, rfl⟩ := hx.len2
    exact typed_7 kd nu ar st nm w b off c x y hx
  · have e : m = 2 := by simp [arity] at hm; omega
    subst e
    obtain ⟨x, y, b, off, rfl, rfl⟩ := hx.len2
    exact typed_8 kd nu ar st nm w b off c x y hx
  · have e : m = 2 := by simp [arity] at hm; omega
    subst e
    obtain ⟨x, y, b, off, rfl, rfl⟩ := hx.len2
    exact typed_9 kd nu ar st nm w b off c x y hx
  · have e : m = 2 := by simp [arity] at hm; omega
    subst e
    obtain ⟨x, y, b, off, rfl, rfl⟩ := hx.len2
    exact typed_10 kd nu ar st nm w b off c x y hx
  · have e : m = 2 := by simp [arity] at hm; omega
    subst e
    obtain ⟨x, y, b, off, rfl, rfl⟩ := hx.len2
    exact typed_11 kd nu ar st nm w b off c x y hx
  · have e : m = 2 := by simp [arity] at hm; omega
    subst e
    obtain ⟨x, y, b, off, rfl, rfl⟩ := hx.len2
    exact typed_12 kd nu ar st nm w b off c x y hx
  · have e : m = 2 := by simp [arity] at hm; omega
    subst e
    obtain ⟨x, y, b, off, rfl, rfl⟩ := hx.len2
    exact typed_13 kd nu ar st nm w b off c x y hx
  · have e : m = 2 := by simp [arity] at hm; omega
    subst e
    obtain ⟨x, y, b, off, rfl, rfl⟩ := hx.len2
    exact typed_14 kd nu ar st nm w b off c x y hx
  · have e : m = 2 := by simp [arity] at hm; omega
    subst e
    obtain ⟨x, y, b, off, rfl, rfl⟩ := hx.len2
    exact typed_15 kd nu ar st nm w b off c x y hx
  · have e : m = 1 := by simp [arity] at hm; omega
    subst e
    obtain ⟨x, b, off, rfl, rfl⟩ := hx.len1
    exact typed_16 kd nu ar st nm w b off c x hx
  · have e : m = 3 := by simp [arity] at hm; omega
    subst e
    obtain ⟨x, y, z, b, off, rfl, rfl⟩ := hx.len3
    exact typed_17 kd nu ar st nm w b off c x y z hx
  · have e : m = 2 := by simp [arity] at hm; omega
    subst e
    obtain ⟨x, y, b, off, rfl, rfl⟩ := hx.len2
    exact typed_18 kd nu ar st nm w b off c x y hx
  · have e : m = 1 := by simp [arity] at hm; omega
    subst e
    obtain ⟨x, b, off, rfl, rfl⟩ := hx.len1
    exact typed_19 kd nu ar st nm w b off c x hx
  · have e : m = 1 := by simp [arity] at hm; omega
    subst e
    obtain ⟨x, b, off, rfl, rfl⟩ := hx.len1
    exact typed_20 kd nu ar st nm w b off c x hx

theorem exprLoop_inv {hs : List Int} {x : Node} {l : List Node} {d : Nat} (h : exprLoop hs (x :: l) = 0) (hd : hs.length = d) :
    ∃ (m r : Nat) (hs' : List Int), shaped x = true ∧ arity x.op x.arity = (m : Int) ∧ m ≤ 8 ∧ d = r + m ∧ hs'.length = r + 1 ∧ exprLoop hs' l = 0 := by
  rw [exprLoop] at h
  split at h
  · omega
  · rename_i hn
    have hsh : shaped x = true := by
      cases hq : shaped x
      · exact absurd (.inl hq) hn
      · rfl
    have har : ¬ (hs.length : Int) < arity x.op x.arity := fun q => hn (.inr q)
    have hr := arity_range hsh
    obtain ⟨m, hm⟩ : ∃ m : Nat, arity x.op x.arity = (m : Int) := ⟨(arity x.op x.arity).toNat, by omega⟩
    split at h
    · omega
    · have hl : restOf x hs.length = d - m := by rw [restOf, hm, hd, Int.toNat_natCast]
      refine ⟨m, d - m, _, hsh, hm, by omega, by omega, ?_, h⟩
      rw [List.length_append, List.length_take, hl]
      simp
      omega
theorem exprLoop_end {hs : List Int} {d : Nat} (h : exprLoop hs [] = 0) (hd : hs.length = d) : d = 1 := by
  rw [exprLoop] at h
  split at h
  · omega
  · omega
theorem exprErr_loop {es : List Node} (h : exprErr es = 0) : es.length ≤ 256 ∧ exprLoop [] es = 0 := by
  rw [exprErr] at h
  split at h
  · omega
  · exact ⟨by omega, h⟩
/-- An element is appended to a prefix of the stack, in a region that draws its order. -/
theorem step_push {α : Type} [Flat α] {P : Program} (w : World) {ops : Array Oper} {o : Oper} {a : Act} {K : Act → World → Prop} {Q : Exit → Act → World → Prop} {E : Prop} (hgd : o.guard = none) (s x : Operand) (t : TypeId)
    (ho : o.op = .call { callee := .builtin .append, args := #[s, x], argTypes := #[t, t] })
    (B : Nat) (e : TypeId) (i : TypeInfo) (z : Value) (bytes : Nat) (ht : P.underlying t = some (.slice e)) (hi : P.info? e = some i) (hz : i.zero = some z)
    (hsize : i.size = Rep.size α) (hby : i.bytes = bytes) (hzs : z.cells.size = Rep.size α) (hbm : bytes ≤ 256)
    (A : Option Addr) (c k : Nat) (xs : List α) (hown : Stk B w e A c xs) (hk : k ≤ xs.length) (hs : a.eval s = .slice A k c)
    (y : α) (hy : Flat.ok y) (b : Nat) (hx : a.eval x = .slice (some ⟨b, 0, none⟩) 1 1) (hc : OneAt w b y) (hm : k ≤ 1048576) (hB : B ≤ w.heap.size)
    (h : ∀ A' c' w', Stk B w' e A' c' (xs.take k ++ [y]) → Below B w w' → (∀ g, g < w.heap.size → (Value.slice A k c).ownBlock ≠ some g → w'.heap[g]? = w.heap[g]?) → K (a.put o.dst (.slice A' (k + 1) c')) w') :
    if Region.wanted o (yielded ops a.tmps) = true then Oper.wp P o a w K Q else E := by
  have hp := hown.take hk
  have hl : (xs.take k).length = k := by rw [List.length_take]; omega
  have hbl := hp.blk
  rw [hl] at hbl
  have hr : Src w (Rep.size α) (some ⟨b, 0, none⟩) 1 (Flat.cs y) := ⟨by rw [Flat.cs_len]; omega, fun _ => ⟨b, 0, rfl, fun j u hu => by rw [Nat.zero_add]; exact hc j u hu⟩⟩
  refine step_append_src (P := P) w hgd s x t ho B e i z (Rep.size α) bytes ht hi hz hsize hby hzs Flat.pos (.slice A k c) k ((xs.take k).flatMap Flat.cs) hs (by have := hp.own; rw [hl] at this; exact this)
    (some ⟨b, 0, none⟩) 1 1 (Flat.cs y) hx (by intro h; cases h) hr (Flat.cs_one y) (by simp only [maxLen]; omega) ?_ hB ?_
  · have : (k + 1) * bytes ≤ 1048577 * 256 := Nat.mul_le_mul (by omega) hbm
    omega
  · intro v' w1 h1 h2 h3
    have hb : Below B w w1 := (Below.refl B w).grown h2 hB (fun g hg => (hbl g hg).2)
    rcases h1.2 with ⟨_, h5⟩ | ⟨g, cap, cur, hv, hg, r⟩
    · omega
    · subst hv
      refine h _ _ _ ⟨?_, ?_⟩ hb (fun g' hg' hn => h2.block g' hg' (fun e => hn e.symm))
      · rw [List.length_append, hl, List.flatMap_append]
        have e1 : [y].flatMap Flat.cs = Flat.cs y := by simp
        rw [e1]
        exact h1
      · intro q hq
        rcases List.mem_append.1 hq with hq | hq
        · exact hp.ok q hq
        · simp at hq; subst hq; exact hy
end Go.Proofs.YtmnhahilbbnkkaaDoor
