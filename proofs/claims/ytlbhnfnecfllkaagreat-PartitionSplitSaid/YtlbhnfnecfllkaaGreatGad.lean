/-
  Slices that a call makes by append: their cells, element by element; append as one step of a walk, whatever the source (nil too). No program is in sight. A slice that a call has built of given cells, and a struct of given cells, read as lists and structs. No program is in sight.
-/
import Derived.Maps.AppendAt
import Derived.Deep.AppendLies
import Derived.Deep.RegionLaw
import Derived.OwnWalk
import Derived.Test.YtlbhnfnecfllkaaGreatGab
namespace Go.Proofs.YtlbhnfnecfllkaaGreat
open Go.RowKit
set_option linter.unusedSimpArgs false
set_option linter.unusedVariables false

/-- The cells of a list, one element behind the other. -/
def Cells {α : Type} [Rep α] (w : World) (S : Nat → Prop) : List Value → List α → Prop
  | cs, [] => cs = []
  | cs, x :: xs => ∃ c0 c1, cs = c0 ++ c1 ∧ Rep.rd w S c0 x ∧ Cells w S c1 xs
section
variable {α : Type} [Rep α] {w w' : World} {S T : Nat → Prop}
theorem Cells.len : ∀ {xs : List α} {cs : List Value}, Cells w S cs xs → cs.length = xs.length * Rep.size α
  | [], _, h => by simp [show _ = [] from h]
  | x :: xs, _, ⟨c0, c1, rfl, h0, h1⟩ => by
    have := Cells.len h1
    rw [List.length_append, Rep.len h0, this, List.length_cons, Nat.add_mul]
    omega
theorem Cells.keep (hs : Same S w w') : ∀ {xs : List α} {cs : List Value}, Cells w S cs xs → Cells w' S cs xs
  | [], _, h => h
  | x :: xs, _, ⟨c0, c1, e, h0, h1⟩ => ⟨c0, c1, e, Rep.keep hs h0, Cells.keep hs h1⟩
theorem Cells.mono (hs : ∀ k, S k → T k) : ∀ {xs : List α} {cs : List Value}, Cells w S cs xs → Cells w T cs xs
  | [], _, h => h
  | x :: xs, _, ⟨c0, c1, e, h0, h1⟩ => ⟨c0, c1, e, Rep.mono hs h0, Cells.mono hs h1⟩
theorem Cells.app {ys : List α} {ds : List Value} (hy : Cells w S ds ys) : ∀ {xs : List α} {cs : List Value}, Cells w S cs xs → Cells w S (cs ++ ds) (xs ++ ys)
  | [], _, h => by rw [show _ = [] from h]; exact hy
  | x :: xs, _, ⟨c0, c1, e, h0, h1⟩ => ⟨c0, c1 ++ ds, by rw [e, List.append_assoc], h0, Cells.app hy h1⟩
theorem Cells.one {x : α} {cs : List Value} (h : Rep.rd w S cs x) : Cells w S cs [x] := ⟨cs, [], by simp, h, rfl⟩
theorem Cells.get : ∀ {xs : List α} {cs : List Value}, Cells w S cs xs → ∀ i, (h : i < xs.length) → ∃ c, Rep.rd w S c xs[i] ∧ ∀ j, (hj : j < c.length) → cs[i * Rep.size α + j]? = some c[j]
  | [], _, _, i, h => absurd h (by simp)
  | x :: xs, _, ⟨c0, c1, e, h0, h1⟩, 0, _ => ⟨c0, h0, fun j hj => by
      rw [e, Nat.zero_mul, Nat.zero_add, List.getElem?_append_left hj, List.getElem?_eq_getElem hj]⟩
  | x :: xs, _, ⟨c0, c1, e, h0, h1⟩, i + 1, h => by
      obtain ⟨c, hr, hc⟩ := Cells.get h1 i (by simpa using h)
      refine ⟨c, by simpa using hr, fun j hj => ?_⟩
      have hl := Rep.len h0
      rw [e, List.getElem?_append_right (by rw [hl, Nat.add_mul]; omega), hl]
      rw [show (i + 1) * Rep.size α + j - Rep.size α = i * Rep.size α + j from by rw [Nat.add_mul]; omega]
      exact hc j hj

/-- What append reads: the cells behind an address. -/
def Src (w : World) (size : Nat) (A : Option Addr) (m : Nat) (news : List Value) : Prop := news.length = m * size ∧ (0 < m → ∃ b off, A = some ⟨b, off, none⟩ ∧ ∀ j u, news[j]? = some u → w.cell? ⟨b, off + j, none⟩ = some u)
theorem add_at (b off j : Nat) : (⟨b, off, none⟩ : Addr).add j = ⟨b, off + j, none⟩ := by
  unfold Addr.add; split
  · rename_i h; rw [h]; rfl
  · rfl
theorem cells_at {b : Nat} : ∀ {xs : List α} {off : Nat}, (∀ i, (h : i < xs.length) → At w S b (off + i * Rep.size α) xs[i]) → ∃ cs, Cells w S cs xs ∧ ∀ j u, cs[j]? = some u → w.cell? ⟨b, off + j, none⟩ = some u
  | [], off, _ => ⟨[], rfl, fun j u h => by simp at h⟩
  | x :: xs, off, h => by
    obtain ⟨c0, hr, hc⟩ := h 0 (by simp)
    obtain ⟨c1, h1, h2⟩ := cells_at (xs := xs) (off := off + Rep.size α) fun i hi => by
      have := h (i + 1) (by simpa using hi)
      rw [show off + Rep.size α + i * Rep.size α = off + (i + 1) * Rep.size α from by rw [Nat.add_mul]; omega]
      simpa using this
    refine ⟨c0 ++ c1, ⟨c0, c1, rfl, by simpa using hr, h1⟩, fun j u hu => ?_⟩
    have hl := Rep.len hr
    by_cases hj : j < c0.length
    · rw [List.getElem?_append_left hj, List.getElem?_eq_getElem hj] at hu
      injection hu with hu
      have := hc j hj
      rw [hu] at this
      simpa using this
    · rw [List.getElem?_append_right (by omega), hl] at hu
      have := h2 _ u hu
      rw [show off + Rep.size α + (j - Rep.size α) = off + j from by omega] at this
      exact this
theorem Sl.cells {A : Option Addr} {n c : Nat} {xs : List α} (h : Sl w S A n c xs) : ∃ cs, Cells w S cs xs ∧ Src w (Rep.size α) A n cs := by
  rcases Nat.eq_zero_or_pos n with h0 | h0
  · have : xs = [] := List.eq_nil_of_length_eq_zero (by rw [h.1, h0])
    subst this
    exact ⟨[], rfl, by simp [h0], fun h' => by omega⟩
  · obtain ⟨b, off, e, _, hi⟩ := h.2.2.2.2 h0
    obtain ⟨cs, h1, h2⟩ := cells_at hi
    exact ⟨cs, h1, by rw [h1.len, h.1], fun _ => ⟨b, off, e, h2⟩⟩
/-- A slice of the call's own reads as a list. -/
theorem sl_of_own {base : Nat} {e : TypeId} {v : Value} {n : Nat} {cs : List Value} {xs : List α} (hown : w.ownsRow base e (Rep.size α) v n cs) (hc : Cells w S cs xs) (hS : ∀ k, S k → T k) (hl : xs.length = n)
    (hT : ∀ g, base ≤ g → TyAt w e g → T g) : ∃ A c, v = .slice A n c ∧ Sl w T A n c xs ∧ (v.ownBlock = none → n = 0) := by
  rcases hown.2 with ⟨rfl, rfl⟩ | ⟨g, cap, cur, rfl, hg, hh, hnc, hmax, hsz, htk⟩
  · exact ⟨none, 0, rfl, ⟨hl, Nat.le_refl _, by omega, fun _ => rfl, fun h => absurd h (by omega)⟩, fun _ => rfl⟩
  · refine ⟨some ⟨g, 0, none⟩, cap, rfl, ⟨hl, hnc, by unfold maxLen at hmax; omega, (fun h => by cases h), fun _ => ⟨g, 0, rfl, hT g hg ⟨cur, hh⟩, fun i hi => ?_⟩⟩, (fun h => by cases h)⟩
    obtain ⟨c, hr, hcc⟩ := hc.get i hi
    refine ⟨c, Rep.mono hS hr, fun j hj => ?_⟩
    have h1 := hcc j hj
    rw [← htk, List.getElem?_take] at h1
    split at h1
    · rw [cell_of_row w g _ cur e (0, 0) hh, Nat.zero_add, ← Array.getElem?_toList]
      exact h1
    · cases h1
end

section
variable {P : Program} (w : World)
theorem run_append_none (base : Nat) (t ty e : TypeId) (i : TypeInfo) (size : Nat) (ht : P.underlying t = some (.slice e)) (hi : P.info? e = some i)
    (v : Value) (n : Nat) (xs : List Value) (hown : w.ownsRow base e size v n xs) (c : Nat) : (Builtin.append_ #[t, t] ty #[v, .slice none 0 c]).run P w = .ok v w := by
  rcases hown.2 with ⟨rfl, rfl⟩ | ⟨g, cap, cur, rfl, _, _, hnc, _⟩
  · simp [Builtin.append_, run_underlying ht, sizeOf, typeInfo, hi, Builtin.lenOf, Builtin.firstCells]
  · simp [Builtin.append_, run_underlying ht, sizeOf, typeInfo, hi, Builtin.lenOf, Builtin.firstCells, hnc, storeCells]
theorem run_append_src (base : Nat) (t ty e : TypeId) (i : TypeInfo) (z : Value) (size bytes : Nat) (ht : P.underlying t = some (.slice e)) (hi : P.info? e = some i) (hz : i.zero = some z)
    (hsize : i.size = size) (hby : i.bytes = bytes) (hzs : z.cells.size = size) (hsz : 0 < size)
    (v : Value) (n : Nat) (xs : List Value) (hown : w.ownsRow base e size v n xs)
    (A : Option Addr) (m c : Nat) (news : List Value) (hA : A = none → m = 0) (hspot : ∀ a, A = some a → a.spot = none) (hr : Src w size A m news) (h1 : ∀ u ∈ news, u.oneCell' = true)
    (h63 : n + m ≤ maxLen) (hbytes : (n + m) * bytes ≤ 140737488355328) (hbase : base ≤ w.heap.size) :
    ∃ v' w', (Builtin.append_ #[t, t] ty #[v, .slice A m c]).run P w = .ok v' w' ∧ w'.ownsRow base e size v' (n + m) (xs ++ news) ∧ w.grownBy w' v.ownBlock ∧
      (v'.ownBlock = v.ownBlock ∨ v'.ownBlock = some w.heap.size) := by
  cases A with
  | none =>
    obtain rfl := hA rfl
    have hn : news = [] := List.eq_nil_of_length_eq_zero (by simpa using hr.1)
    subst hn
    exact ⟨v, w, run_append_none w base t ty e i size ht hi v n xs hown c, by simpa using hown, World.grownBy.refl w _, .inl rfl⟩
  | some ad =>
    have hcells : ∀ j u, news[j]? = some u → w.cell? (ad.add j) = some u := by
      intro j u hu
      rcases Nat.eq_zero_or_pos m with h0 | h0
      · subst h0
        have hn : news = [] := List.eq_nil_of_length_eq_zero (by simpa using hr.1)
        subst hn
        simp at hu
      · obtain ⟨b, off, e, hc⟩ := hr.2 h0
        injection e with e
        subst e
        rw [add_at]
        exact hc j u hu
    obtain ⟨v', w', hrun, h2, h3, _, h5⟩ := run_append_own_at (P := P) w base t ty e i z size bytes ht hi hz hsize hby hzs hsz v n xs hown ad m c news hr.1 hcells h1 h63 hbytes hbase
    exact ⟨v', w', hrun, h2, h3, h5⟩

theorem wp_append_src {o : Oper} {a : Act} {K : Act → World → Prop} {Q : Exit → Act → World → Prop} (s x : Operand) (t : TypeId)
    (ho : o.op = .call { callee := .builtin .append, args := #[s, x], argTypes := #[t, t] })
    (base : Nat) (e : TypeId) (i : TypeInfo) (z : Value) (size bytes : Nat) (ht : P.underlying t = some (.slice e)) (hi : P.info? e = some i) (hz : i.zero = some z)
    (hsize : i.size = size) (hby : i.bytes = bytes) (hzs : z.cells.size = size) (hsz : 0 < size)
    (v : Value) (n : Nat) (xs : List Value) (hs : a.eval s = v) (hown : w.ownsRow base e size v n xs)
    (A : Option Addr) (m c : Nat) (news : List Value) (hx : a.eval x = .slice A m c) (hA : A = none → m = 0) (hr : Src w size A m news) (h1 : ∀ u ∈ news, u.oneCell' = true)
    (h63 : n + m ≤ maxLen) (hbytes : (n + m) * bytes ≤ 140737488355328) (hbase : base ≤ w.heap.size)
    (h : ∀ v' w', w'.ownsRow base e size v' (n + m) (xs ++ news) → w.grownBy w' v.ownBlock → (v'.ownBlock = v.ownBlock ∨ v'.ownBlock = some w.heap.size) → K (a.put o.dst v') w') : o.wp P a w K Q := by
  have key : ∃ v' w', (Builtin.append_ #[t, t] o.type #[v, .slice A m c]).run P w = .ok v' w' ∧ w'.ownsRow base e size v' (n + m) (xs ++ news) ∧ w.grownBy w' v.ownBlock ∧ (v'.ownBlock = v.ownBlock ∨ v'.ownBlock = some w.heap.size) := by
    cases A with
    | none => exact run_append_src w base t o.type e i z size bytes ht hi hz hsize hby hzs hsz v n xs hown none m c news hA (fun a h => by cases h) hr h1 h63 hbytes hbase
    | some ad =>
      have hcells : ∀ j u, news[j]? = some u → w.cell? (ad.add j) = some u := by
        intro j u hu
        rcases Nat.eq_zero_or_pos m with h0 | h0
        · subst h0
          have hn : news = [] := List.eq_nil_of_length_eq_zero (by simpa using hr.1)
          subst hn
          simp at hu
        · obtain ⟨b, off, e, hc⟩ := hr.2 h0
          injection e with e
          subst e
          rw [add_at]
          exact hc j u hu
      obtain ⟨v', w', hrun, h2, h3, _, h5⟩ := run_append_own_at (P := P) w base t o.type e i z size bytes ht hi hz hsize hby hzs hsz v n xs hown ad m c news hr.1 hcells h1 h63 hbytes hbase
      exact ⟨v', w', hrun, h2, h3, h5⟩
  obtain ⟨v', w', hrun, h2, h3, h4⟩ := key
  unfold Oper.wp execOp
  simp only [ho, resolve, invoke, builtin, Sem.run_bind, Sem.run_pure, Result.andThen_ok, List.map_toArray, List.map_cons, List.map_nil, hs, hx, hrun]
  exact h v' w' h2 h3 h4
theorem wpList_append_src {ops : Array Oper} {rest : List Oper} {o : Oper} {a : Act} {Q : Exit → Act → World → Prop} (hgd : o.guard = none) (s x : Operand) (t : TypeId)
    (ho : o.op = .call { callee := .builtin .append, args := #[s, x], argTypes := #[t, t] })
    (base : Nat) (e : TypeId) (i : TypeInfo) (z : Value) (size bytes : Nat) (ht : P.underlying t = some (.slice e)) (hi : P.info? e = some i) (hz : i.zero = some z)
    (hsize : i.size = size) (hby : i.bytes = bytes) (hzs : z.cells.size = size) (hsz : 0 < size)
    (v : Value) (n : Nat) (xs : List Value) (hs : a.eval s = v) (hown : w.ownsRow base e size v n xs)
    (A : Option Addr) (m c : Nat) (news : List Value) (hx : a.eval x = .slice A m c) (hA : A = none → m = 0) (hr : Src w size A m news) (h1 : ∀ u ∈ news, u.oneCell' = true)
    (h63 : n + m ≤ maxLen) (hbytes : (n + m) * bytes ≤ 140737488355328) (hbase : base ≤ w.heap.size)
    (h : ∀ v' w', w'.ownsRow base e size v' (n + m) (xs ++ news) → w.grownBy w' v.ownBlock → (v'.ownBlock = v.ownBlock ∨ v'.ownBlock = some w.heap.size) → wpList P ops Q rest (a.put o.dst v') w') : wpList P ops Q (o :: rest) a w :=
  wpList_plain hgd fun _ hK => wp_append_src w s x t ho base e i z size bytes ht hi hz hsize hby hzs hsz v n xs hs hown A m c news hx hA hr h1 h63 hbytes hbase fun v' w' h2 h3 h4 => hK _ _ (h v' w' h2 h3 h4)
theorem step_append_src {ops : Array Oper} {o : Oper} {a : Act} {K : Act → World → Prop} {Q : Exit → Act → World → Prop} {E : Prop} (hgd : o.guard = none) (s x : Operand) (t : TypeId)
    (ho : o.op = .call { callee := .builtin .append, args := #[s, x], argTypes := #[t, t] })
    (base : Nat) (e : TypeId) (i : TypeInfo) (z : Value) (size bytes : Nat) (ht : P.underlying t = some (.slice e)) (hi : P.info? e = some i) (hz : i.zero = some z)
    (hsize : i.size = size) (hby : i.bytes = bytes) (hzs : z.cells.size = size) (hsz : 0 < size)
    (v : Value) (n : Nat) (xs : List Value) (hs : a.eval s = v) (hown : w.ownsRow base e size v n xs)
    (A : Option Addr) (m c : Nat) (news : List Value) (hx : a.eval x = .slice A m c) (hA : A = none → m = 0) (hr : Src w size A m news) (h1 : ∀ u ∈ news, u.oneCell' = true)
    (h63 : n + m ≤ maxLen) (hbytes : (n + m) * bytes ≤ 140737488355328) (hbase : base ≤ w.heap.size)
    (h : ∀ v' w', w'.ownsRow base e size v' (n + m) (xs ++ news) → w.grownBy w' v.ownBlock → (v'.ownBlock = v.ownBlock ∨ v'.ownBlock = some w.heap.size) → K (a.put o.dst v') w') :
    if Region.wanted o (yielded ops a.tmps) = true then Oper.wp P o a w K Q else E := by
  have hw : Region.wanted o (yielded ops a.tmps) = true := by simp [Region.wanted, hgd]
  rw [if_pos hw]
  exact wp_append_src w s x t ho base e i z size bytes ht hi hz hsize hby hzs hsz v n xs hs hown A m c news hx hA hr h1 h63 hbytes hbase h
end
end Go.Proofs.YtlbhnfnecfllkaaGreat

namespace Go.Proofs.YtlbhnfnecfllkaaGreat
open Go.RowKit
set_option linter.unusedSimpArgs false
set_option linter.unusedVariables false

theorem take_snoc {α : Type} {xs : List α} {k : Nat} {x : α} {l : List α} (h : xs.drop k = x :: l) : xs.take (k + 1) = xs.take k ++ [x] := by
  rw [List.take_add_one, (drop_get h).1]; rfl
theorem mem_of_drop {α : Type} {xs : List α} {k : Nat} {x : α} {l : List α} (h : xs.drop k = x :: l) : x ∈ xs := List.mem_of_mem_drop (i := k) (by rw [h]; simp)
theorem in_built {α : Type} [Rep α] {w : World} {e g n : Nat} {arr : Array Value} {xs : List α} (h : w.heap[g]? = some (.cells arr e (0, 0))) (hc : Cells w (fun k => k < w.heap.size) arr.toList xs) (hn : xs.length = n) (hm : n ≤ maxLen) :
    In w (some ⟨g, 0, none⟩) n n xs := by
  have hl := hc.len
  have hown : w.ownsRow 0 e (Rep.size α) (.slice (some ⟨g, 0, none⟩) n n) n arr.toList := by
    refine ⟨by rw [hl, hn], .inr ⟨g, n, arr, rfl, Nat.zero_le _, h, Nat.le_refl _, hm, ?_, ?_⟩⟩
    · rw [← hn]; simpa using hl
    · rw [List.take_of_length_le]
      rw [hl, hn]; exact Nat.le_refl _
  obtain ⟨A, c, e1, hs, _⟩ := sl_of_own (T := fun k => k < w.heap.size) hown hc (fun _ h => h) hn (fun g _ hg => hg.lt)
  injection e1 with e1 _ e3
  subst e1 e3
  exact hs
theorem cells_new {w : World} {g t : Nat} {arr : Array Value} (h : w.heap[g]? = some (.cells arr t (0, 0))) : ∀ j v, arr.toList[j]? = some v → w.cell? ⟨g, j, none⟩ = some v := by
  intro j v hv
  rw [cell_of_row w g j arr t (0, 0) h, ← Array.getElem?_toList]
  exact hv
theorem heap_alloc2 (w : World) (o o' : Obj) : ((w.alloc o).alloc o').heap[w.heap.size]? = some o := (below_alloc.block _ (by simp)).trans (heap_alloc_new w o)
theorem in_built2 {α : Type} [Rep α] {w : World} {o : Obj} {e n : Nat} {arr : Array Value} {xs : List α} (hc : ∀ S, Cells ((w.alloc o).alloc (.cells arr e)) S arr.toList xs) (hn : xs.length = n) (hm : n ≤ maxLen) :
    In ((w.alloc o).alloc (.cells arr e)) (some ⟨w.heap.size + 1, 0, none⟩) n n xs := by
  have h := heap_alloc_new (w.alloc o) (.cells arr e)
  rw [World.size_alloc] at h
  exact in_built h (hc _) hn hm
/-- append as an operation that is guarded and wanted. -/
theorem wpList_append_srcW {P : Program} (w : World) {ops : Array Oper} {rest : List Oper} {o : Oper} {a : Act} {Q : Exit → Act → World → Prop} (hw : Region.wanted o (yielded ops a.tmps) = true) (s x : Operand) (t : TypeId)
    (ho : o.op = .call { callee := .builtin .append, args := #[s, x], argTypes := #[t, t] })
    (base : Nat) (e : TypeId) (i : TypeInfo) (z : Value) (size bytes : Nat) (ht : P.underlying t = some (.slice e)) (hi : P.info? e = some i) (hz : i.zero = some z)
    (hsize : i.size = size) (hby : i.bytes = bytes) (hzs : z.cells.size = size) (hsz : 0 < size)
    (v : Value) (n : Nat) (xs : List Value) (hs : a.eval s = v) (hown : w.ownsRow base e size v n xs)
    (A : Option Addr) (m c : Nat) (news : List Value) (hx : a.eval x = .slice A m c) (hA : A = none → m = 0) (hr : Src w size A m news) (h1 : ∀ u ∈ news, u.oneCell' = true)
    (h63 : n + m ≤ maxLen) (hbytes : (n + m) * bytes ≤ 140737488355328) (hbase : base ≤ w.heap.size)
    (h : ∀ v' w', w'.ownsRow base e size v' (n + m) (xs ++ news) → w.grownBy w' v.ownBlock → (v'.ownBlock = v.ownBlock ∨ v'.ownBlock = some w.heap.size) → wpList P ops Q rest (a.put o.dst v') w') : wpList P ops Q (o :: rest) a w := by
  refine wpList_step fun K hK => ?_
  rw [if_pos hw]
  exact wp_append_src w s x t ho base e i z size bytes ht hi hz hsize hby hzs hsz v n xs hs hown A m c news hx hA hr h1 h63 hbytes hbase fun v' w' h2 h3 h4 => hK _ _ (h v' w' h2 h3 h4)
end Go.Proofs.YtlbhnfnecfllkaaGreat
