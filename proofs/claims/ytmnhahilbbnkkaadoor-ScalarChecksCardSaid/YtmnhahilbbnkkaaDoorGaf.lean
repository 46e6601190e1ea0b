/-
  expr.Validate: it returns exprErr. Slices of nodes of the call's own: their cells, appends onto them, slices cut off at a length. No program is in sight but for the shape of a node. warehouseref8.Raise and Validate.
-/
import Derived.Test.YtmnhahilbbnkkaaDoorGae
import Derived.Test.YtmnhahilbbnkkaaDoorStk
namespace Go.Proofs.YtmnhahilbbnkkaaDoor
open Go.RowKit
set_option linter.unusedSimpArgs false
set_option linter.unusedVariables false

theorem In.node {w : World} {A : Option Addr} {n c k : Nat} {xs : List Node} (h : In w A n c xs) (hk : k < n) : ∃ b off x, A = some ⟨b, off, none⟩ ∧ b < w.heap.size ∧ Hid (xs.drop k = x :: xs.drop (k + 1)) ∧
    w.cell? ⟨b, off + k * 6, none⟩ = some (.int .i64 x.op) ∧ w.cell? ⟨b, off + k * 6 + 1, none⟩ = some (.int .i64 x.value.kind) ∧ w.cell? ⟨b, off + k * 6 + 2, none⟩ = some (.int .i64 x.value.num) ∧ w.cell? ⟨b, off + k * 6 + 3, none⟩ = some (.string x.value.str) ∧
    w.cell? ⟨b, off + k * 6 + 4, none⟩ = some (.string x.name) ∧ w.cell? ⟨b, off + k * 6 + 5, none⟩ = some (.int .i64 x.arity) ∧ x.ok := by
  obtain ⟨b, off, x, e, hb, hx, cs, ⟨rfl, hv⟩, hc⟩ := h.get hk
  exact ⟨b, off, x, e, hb, hx, hc 0 (by simp [Node.cells]), hc 1 (by simp [Node.cells]), hc 2 (by simp [Node.cells]), hc 3 (by simp [Node.cells]), hc 4 (by simp [Node.cells]), hc 5 (by simp [Node.cells]), hv⟩
/-- A node lies in a block of its own. -/
def NodeAt (w : World) (b : Nat) (x : Node) : Prop := w.cell? ⟨b, 0, none⟩ = some (.int .i64 x.op) ∧ w.cell? ⟨b, 1, none⟩ = some (.int .i64 x.value.kind) ∧ w.cell? ⟨b, 2, none⟩ = some (.int .i64 x.value.num) ∧ w.cell? ⟨b, 3, none⟩ = some (.string x.value.str) ∧
    w.cell? ⟨b, 4, none⟩ = some (.string x.name) ∧ w.cell? ⟨b, 5, none⟩ = some (.int .i64 x.arity)
theorem NodeAt.below {w w' : World} {b : Nat} {x : Node} (h : NodeAt w b x) (hb : Below w.heap.size w w') (hl : b < w.heap.size) : NodeAt w' b x :=
  ⟨bat hb hl h.1, bat hb hl h.2.1, bat hb hl h.2.2.1, bat hb hl h.2.2.2.1, bat hb hl h.2.2.2.2.1, bat hb hl h.2.2.2.2.2⟩
theorem NodeAt.made (w : World) (x : Node) : NodeAt (w.alloc (.cells #[.int .i64 x.op, .int .i64 x.value.kind, .int .i64 x.value.num, .string x.value.str, .string x.name, .int .i64 x.arity] 29)) w.heap.size x := by
  refine ⟨?_, ?_, ?_, ?_, ?_, ?_⟩ <;> simp [go_sem]
theorem arity_range {n : Node} (h : shaped n = true) : 0 ≤ arity n.op n.arity ∧ arity n.op n.arity ≤ 8 := by
  obtain ⟨op, v, nm, ar⟩ := n
  simp only [shaped] at h
  unfold arity
  by_cases h0 : op = 0
  · simp [h0]
  rw [if_neg h0] at h
  by_cases h1 : op = 21
  · subst h1
    simp at h
    simp; omega
  rw [if_neg h1] at h
  by_cases h2 : op = 1
  · simp [h2]
  rw [if_neg h2] at h
  by_cases h3 : op = 20
  · simp [h3]
  rw [if_neg h3] at h
  simp only [Bool.and_eq_true, decide_eq_true_eq] at h
  have h4 := h.2.2.2
  refine ⟨h4, ?_⟩
  (repeat' split) <;> omega
theorem raise_take {l : List Int} {j : Nat} {x : Int} {r : List Int} (h : l.drop j = x :: r) : raise (l.take (j + 1)) = max (raise (l.take j)) (1 + x) := by
  have hg := drop_get h
  rw [List.take_add_one, hg.1]
  simp [raise, List.foldl_append]
theorem raise_bd {l : List Int} (h : ∀ x ∈ l, 1 ≤ x ∧ x ≤ 64) : 1 ≤ raise l ∧ raise l ≤ 65 := by
  have key : ∀ (l : List Int) (a : Int), (∀ x ∈ l, 1 ≤ x ∧ x ≤ 64) → 1 ≤ a ∧ a ≤ 65 → 1 ≤ l.foldl (fun h x => max h (1 + x)) a ∧ l.foldl (fun h x => max h (1 + x)) a ≤ 65 := by
    intro l
    induction l with
    | nil => intro a _ h; exact h
    | cons x l ih =>
      intro a hl ha
      have hx := hl x (by simp)
      have hm : 1 ≤ max a (1 + x) ∧ max a (1 + x) ≤ 65 := by omega
      exact ih _ (fun y hy => hl y (by simp [hy])) hm
  exact key l 1 h (by omega)
theorem int_info : (Tryd.prog.info? 3).map (fun i => (i.zero, i.size, i.bytes)) = some (some (.int .i64 0), 1, 8) := by kernel_rfl
/-- The stack of heights. -/
structure Hts (w wr : World) (st : List Int) (d : Nat) (A : Option Addr) (c : Nat) : Prop where
  stk : Stk w.heap.size wr 3 A c st
  len : st.length = d
  bd : ∀ h ∈ st, 1 ≤ h ∧ h ≤ 64
  below : Below w.heap.size w wr
theorem Hts.keep {w wr w' : World} {st : List Int} {d : Nat} {A : Option Addr} {c : Nat} (h : Hts w wr st d A c) (hb : Below wr.heap.size wr w') : Hts w w' st d A c :=
  ⟨h.stk.keep hb, h.len, h.bd, below_trans h.below hb⟩

/-- The operands: none, or a piece of the stack's block. -/
theorem ops_of {α : Type} [Flat α] {Bs : Nat} {w3 : World} {e : TypeId} {st : List α} {r m : Nat} {B : Option Addr} {cb : Nat} (h : Stk Bs w3 e B cb st) (hl : st.length = r + m) :
    (r = cb ∧ m = 0) ∨ (¬ cb = r ∧ ∃ g, B = some ⟨g, 0, none⟩ ∧ In w3 (some ⟨g, r * Rep.size α, none⟩) m (cb - r) (st.drop r)) := by
  have h1 := h.cap
  rw [hl] at h1
  by_cases hc : cb = r
  · exact .inl ⟨hc.symm, by omega⟩
  · refine .inr ⟨hc, ?_⟩
    rcases h.addr with rfl | ⟨g, rfl⟩
    · have := h.none_ rfl; omega
    · have h2 := h.from_ (k := r) (by rw [hl]; omega)
      rw [hl, if_neg hc, show r + m - r = m by omega, Option.map_some, add_at, Nat.zero_add] at h2
      exact ⟨g, rfl, h2⟩
theorem Hts.push {w w3 w4 : World} {st : List Int} {r m : Nat} {B : Option Addr} {cb : Nat} (h : Hts w w3 st (r + m) B cb) {o : Obj} {A' : Option Addr} {c' : Nat} {y : Int} (h4 : Stk w.heap.size w4 3 A' c' (st.take r ++ [y])) (hb : Below w.heap.size (w3.alloc o) w4) (hy : 1 ≤ y ∧ y ≤ 64) :
    Hts w w4 (st.take r ++ [y]) (r + 1) A' c' := by
  refine ⟨h4, ?_, ?_, (below_trans h.below below_alloc).trans hb⟩
  · rw [List.length_append, List.length_take, h.len]; simp
  · intro q hq
    rcases List.mem_append.1 hq with hq | hq
    · exact h.bd q (List.mem_of_mem_take hq)
    · simp at hq; subst hq; exact hy
theorem restOf_eq {x : Node} {r m : Nat} (hm : arity x.op x.arity = (m : Int)) : restOf x (r + m) = r := by
  rw [restOf, hm, Int.toNat_natCast]; omega
theorem exprLoop_high {x : Node} {l : List Node} {st : List Int} {r m : Nat} (hsh : shaped x = true) (hm : arity x.op x.arity = (m : Int)) (hl : st.length = r + m) (hr : 64 < raise (st.drop r)) : exprLoop st (x :: l) = 2 := by
  rw [exprLoop, if_neg (by rw [hsh, hm, hl]; simp; omega), hl, restOf_eq hm, if_pos hr]
theorem exprLoop_step {x : Node} {l : List Node} {st : List Int} {r m : Nat} (hsh : shaped x = true) (hm : arity x.op x.arity = (m : Int)) (hl : st.length = r + m) (hr : raise (st.drop r) ≤ 64) : exprLoop st (x :: l) = exprLoop (st.take r ++ [raise (st.drop r)]) l := by
  rw [exprLoop, if_neg (by rw [hsh, hm, hl]; simp; omega), hl, restOf_eq hm, if_neg (by omega)]
theorem i64_small {y : Int} (h : 1 ≤ y ∧ y ≤ 65) : I64 y := by unfold I64; omega
theorem mem_drop_get {α : Type} {l : List α} {r j : Nat} {x : α} {q : List α} (h : (l.drop r).drop j = x :: q) : x ∈ l := by
  have hx : x ∈ (l.drop r).drop j := by rw [h]; simp
  exact List.mem_of_mem_drop (List.mem_of_mem_drop hx)
set_option maxHeartbeats 4000000 in
set_option maxRecDepth 100000 in
theorem exprErr_any (w : World) (A : Option Addr) (n c : Nat) (es : List Node) (hx : In w A n c es) (hw : Words w) :
    Calls Tryd.prog 36 #[.slice A n c] w fun e w' => e = .returned (.int .i64 (exprErr es)) ∧ Below w.heap.size w w' := by
  have h63 := hx.le
  have hlen := hide hx.len
  obtain ⟨i0, hi, hz0, hz1, hz2⟩ := info_parts int_info
  by_cases h1 : 256 < n
  · have he : Hid (2 = exprErr es) := hide (by simp only [exprErr]; rw [hlen.out, if_pos h1])
    go_enter Tryd.func36, Tryd.ntmps36
    go_wp2
    all_goals (go_ret; exact ⟨ret_int he.out, Below.refl _ _⟩)
  have HE0 : Hid (exprErr es = exprLoop [] es) := hide (by simp only [exprErr]; rw [hlen.out, if_neg h1])
  go_enter Tryd.func36, Tryd.ntmps36
  go_wp2
  go_loopw [3, 15] (fun v i wr => ∃ (k d : Nat) (st : List Int) (B : Option Addr) (cb : Nat), k ≤ n ∧ d ≤ k ∧ i = .int .i64 k ∧ v = .slice B d cb ∧ exprLoop [] es = exprLoop st (es.drop k) ∧ Hts w wr st d B cb) (fun _ i _ => n - (intOf i).toNat)
  case atStart => exact ⟨0, 0, [], none, 0, Nat.zero_le _, Nat.zero_le _, rfl, rfl, rfl, ⟨Stk.nil_ _ _ _, rfl, (fun _ h => by cases h), Below.refl _ _⟩⟩
  case round =>
    obtain ⟨k, d, st, B, cb, hk, hdk, rfl, rfl, heq, hst⟩ := hrel
    have HE := hide heq
    have HST := hide hst
    clear heq hst
    by_cases hlt : k < n
    · obtain ⟨b, off, x, rfl, hB, HX, f0, f1, f2, f3, f4, f5, hok⟩ := (hx.below HST.out.below).node hlt
      have NA := hide (NodeAt.made wr x)
      go_wp2_with fail
      refine (shaped_any x hok _ (hw.below (below_trans HST.out.below below_alloc))).mono ?_
      rintro e w1 ⟨rfl, hb1⟩
      obtain ⟨g0, g1, g2, g3, g4, g5⟩ := NA.out.below hb1 (by simp)
      have NA1 := hide (NA.out.below hb1 (by simp))
      have HST1 := hide ((HST.out.keep below_alloc).keep hb1)
      have z1 : wr.heap.size < w1.heap.size := by have := hb1.size; simp at this; omega
      clear hb1 f0 f1 f2 f3 f4 f5
      cases hsh : shaped x
      · have he : Hid (8 = exprErr es) := hide (by rw [HE0.out, HE.out, HX.out, exprLoop, if_pos (.inl hsh)])
        go_wp2
        go_ret
        exact ⟨ret_int he.out, HST1.out.below⟩
      obtain ⟨m, hm⟩ : ∃ m : Nat, arity x.op x.arity = (m : Int) := ⟨(arity x.op x.arity).toNat, by have := arity_range hsh; omega⟩
      have hm8 : m ≤ 8 := by have := (arity_range hsh).2; omega
      have HM := hide hm
      have HSH := hide hsh
      clear hsh hm
      go_wp2_with fail
      refine (arity_any x _).mono ?_
      rintro e w2 ⟨rfl, hb2⟩
      rw [HM.out]
      obtain ⟨q0, q1, q2, q3, q4, q5⟩ := NA1.out.below hb2 z1
      have NA2 := hide (NA1.out.below hb2 z1)
      have HST2 := hide (HST1.out.keep hb2)
      have z2 : wr.heap.size < w2.heap.size := by have := hb2.size; omega
      clear hb2 g0 g1 g2 g3 g4 g5
      by_cases hmd : d < m
      · have he : Hid (8 = exprErr es) := hide (by rw [HE0.out, HE.out, HX.out, exprLoop, if_pos (.inr (by rw [HM.out, HST.out.len]; omega))])
        go_wp2
        go_ret
        exact ⟨ret_int he.out, HST2.out.below⟩
      obtain ⟨r, rfl⟩ : ∃ r, d = r + m := ⟨d - m, by omega⟩
      go_wp2_with fail
      refine (arity_any x _).mono ?_
      rintro e w3 ⟨rfl, hb3⟩
      rw [HM.out]
      have HST3 := hide (HST2.out.keep hb3)
      clear hb3 q0 q1 q2 q3 q4 q5 NA NA1 NA2
      have hcap := HST3.out.stk.cap
      rw [HST3.out.len] at hcap
      have hbd : ∀ (j : Nat) (y : Int) (q : List Int), (st.drop r).drop j = y :: q → 1 ≤ y ∧ y ≤ 64 := fun _ _ _ h => HST.out.bd _ (mem_drop_get h)
      have hrb : ∀ j, 1 ≤ raise ((st.drop r).take j) ∧ raise ((st.drop r).take j) ≤ 65 := fun j => raise_bd fun q hq => HST.out.bd q (List.mem_of_mem_drop (List.mem_of_mem_take hq))
      have HBD := hide hbd
      have HRB := hide hrb
      clear hbd hrb
      rcases ops_of HST3.out.stk HST3.out.len with ⟨rfl, rfl⟩ | ⟨hc, g, rfl, hin⟩
      · go_wp2
        go_loop [7, 38] (fun h i => i = .int .i64 0 ∧ h = .int .i64 1) (fun _ i => 0)
        case atStart => exact ⟨rfl, rfl⟩
        case round =>
          obtain ⟨rfl, rfl⟩ := hrel
          have HR1 : Hid (raise (st.drop r) = 1) := hide (by rw [List.drop_eq_nil_of_le (by rw [HST3.out.len]; omega)]; rfl)
          have HN : Hid (exprLoop [] es = exprLoop (st.take r ++ [1]) (es.drop (k + 1))) := hide (by rw [HE.out, HX.out, exprLoop_step HSH.out HM.out HST3.out.len (by rw [HR1.out]; omega), HR1.out])
          have HLE : Hid (r ≤ st.length) := hide (by rw [HST3.out.len]; omega)
          have hsz3 : w.heap.size ≤ w3.heap.size := HST3.out.below.size
          go_wp2_with (at_builtin; refine wpList_push (α := Int) _ rfl (.tmp 51) (.tmp 53) 59 rfl w.heap.size 3 i0 _ 8 Tryd.underlying59 hi hz0 hz1 hz2 rfl (by decide) B r r st (HST3.out.stk.keep below_alloc) HLE.out rfl 1 (i64_small (by omega)) w3.heap.size rfl (oneAt_new _ _ _ _ rfl) (by omega) (by simp; omega) ?_; intro A' c' w4 hst4 hb4)
          have HP := hide (HST3.out.push hst4 hb4 (by omega))
          clear hst4 hb4
          go_wp2
          go_roundw
          case rel => exact ⟨k + 1, r + 1, _, A', c', by omega, by omega, by go_num, rfl, HN.out, HP.out⟩
          case measure => simp [intOf]; omega
      · rw [show r * Rep.size Int = r from Nat.mul_one r] at hin
        go_wp2
        go_loop [7, 38] (fun h i => ∃ j : Nat, j ≤ m ∧ i = .int .i64 j ∧ h = .int .i64 (raise ((st.drop r).take j))) (fun _ i => m - (intOf i).toNat)
        case atStart => exact ⟨0, Nat.zero_le _, rfl, rfl⟩
        case round =>
          obtain ⟨j, hj, rfl, rfl⟩ := hrel
          have hr1 := (HRB.out j).1
          have hr2 := (HRB.out j).2
          by_cases hjm : j < m
          · obtain ⟨b', off', y, e, hB', HY, y0, y1⟩ := hin.int hjm
            injection e with e
            injection e with e_1 e_2
            subst e_1 e_2
            have hy1 := (HBD.out _ _ _ HY.out).1
            have hy2 := (HBD.out _ _ _ HY.out).2
            have HR := hide (raise_take HY.out)
            go_wp2
            go_round
            case rel => exact ⟨j + 1, by omega, by go_num, by rw [HR.out]⟩
            case measure => simp [intOf]; omega
          · obtain rfl : j = m := by omega
            have HTK : Hid ((st.drop r).take j = st.drop r) := hide (List.take_of_length_le (by rw [List.length_drop, HST3.out.len]; omega))
            rw [HTK.out] at hr1 hr2 ⊢
            by_cases hh : 64 < raise (st.drop r)
            · have he : Hid (2 = exprErr es) := hide (by rw [HE0.out, HE.out, HX.out, exprLoop_high HSH.out HM.out HST3.out.len hh])
              go_wp2
              go_ret
              exact ⟨ret_int he.out, HST3.out.below⟩
            have HN : Hid (exprLoop [] es = exprLoop (st.take r ++ [raise (st.drop r)]) (es.drop (k + 1))) := hide (by rw [HE.out, HX.out, exprLoop_step HSH.out HM.out HST3.out.len (by omega)])
            have HLE : Hid (r ≤ st.length) := hide (by rw [HST3.out.len]; omega)
            have hsz3 : w.heap.size ≤ w3.heap.size := HST3.out.below.size
            go_wp2_with (at_builtin; refine wpList_push (α := Int) _ rfl (.tmp 51) (.tmp 53) 59 rfl w.heap.size 3 i0 _ 8 Tryd.underlying59 hi hz0 hz1 hz2 rfl (by decide) (some ⟨g, 0, none⟩) cb r st (HST3.out.stk.keep below_alloc) HLE.out rfl (raise (st.drop r)) (i64_small (by omega)) w3.heap.size rfl (oneAt_new _ _ _ _ rfl) (by omega) (by simp; omega) ?_; intro A' c' w4 hst4 hb4)
            have HP := hide (HST3.out.push hst4 hb4 (by omega))
            clear hst4 hb4
            go_wp2
            go_roundw
            case rel => exact ⟨k + 1, r + 1, _, A', c', by omega, by omega, by go_num, rfl, HN.out, HP.out⟩
            case measure => simp [intOf]; omega
    · have HX := hide (drop_end hx.len (show n ≤ k by omega))
      by_cases hd1 : d = 1
      · have he : Hid (0 = exprErr es) := hide (by rw [HE0.out, HE.out, HX.out, exprLoop, if_neg (by rw [HST.out.len]; omega)])
        subst hd1
        go_wp2
        go_ret
        exact ⟨ret_int he.out, HST.out.below⟩
      · have he : Hid (8 = exprErr es) := hide (by rw [HE0.out, HE.out, HX.out, exprLoop, if_pos (by rw [HST.out.len]; omega)])
        have q1 : ((d : Int) != 1) = true := by simp; omega
        clear hd1
        go_wp2
        go_ret
        exact ⟨ret_int he.out, HST.out.below⟩
end Go.Proofs.YtmnhahilbbnkkaaDoor

namespace Go.Proofs.YtmnhahilbbnkkaaDoor
open Go.RowKit
set_option linter.unusedSimpArgs false
set_option linter.unusedVariables false

instance : Flat Node where
  cs v := v.cells
  ok v := v.ok
  rd_mk _ _ _ h := ⟨rfl, h⟩
  cs_len _ := rfl
  cs_one v u hu := by simp [Node.cells] at hu; rcases hu with rfl | rfl | rfl | rfl | rfl | rfl <;> rfl
  pos := by decide
instance : Flat Col where
  cs v := v.cells
  ok v := v.ok
  rd_mk _ _ _ h := ⟨rfl, h⟩
  cs_len _ := rfl
  cs_one v u hu := by simp [Col.cells] at hu; rcases hu with rfl | rfl | rfl <;> rfl
  pos := by decide
instance : Flat ByteArray where
  cs v := [.string v]
  ok v := Str v
  rd_mk _ _ _ h := ⟨rfl, h⟩
  cs_len _ := rfl
  cs_one v u hu := by simp at hu; subst hu; rfl
  pos := by decide
/-- What is read is what lies there. -/
class Plain (α : Type) extends Flat α where
  inv : ∀ {w : World} {S : Nat → Prop} {cs : List Value} {a : α}, Rep.rd w S cs a → cs = Flat.cs a ∧ Flat.ok a
instance : Plain Node := ⟨fun h => h⟩
instance : Plain Col := ⟨fun h => h⟩
instance : Plain Val := ⟨fun h => h⟩
instance : Plain ByteArray := ⟨fun h => h⟩
/-- A slice's first elements. -/
theorem Sl.take {β : Type} [Rep β] {w : World} {S : Nat → Prop} {A : Option Addr} {n c k : Nat} {xs : List β} (h : Sl w S A n c xs) (hk : k ≤ n) : Sl w S A k c (xs.take k) := by
  refine ⟨by rw [List.length_take, h.1]; omega, by have := h.2.1; omega, h.2.2.1, h.2.2.2.1, fun hk0 => ?_⟩
  obtain ⟨b, off, e, hb, hi⟩ := h.2.2.2.2 (by omega)
  refine ⟨b, off, e, hb, fun i hi' => ?_⟩
  have hl : i < xs.length := by rw [List.length_take] at hi'; omega
  have := hi i hl
  rw [List.getElem_take]
  exact this
theorem In.take {β : Type} [Rep β] {w : World} {A : Option Addr} {n c k : Nat} {xs : List β} (h : In w A n c xs) (hk : k ≤ n) : In w A k c (xs.take k) := Sl.take h hk
/-- A new block that a slice literal makes. -/
theorem Stk.made {α : Type} [Flat α] {w : World} {B : Nat} {e : TypeId} {xs : List α} {arr : Array Value} (ha : arr.toList = xs.flatMap Flat.cs) (hok : ∀ x ∈ xs, Flat.ok x) (hB : B ≤ w.heap.size) (hx : xs.length ≤ 4096) :
    Stk B (w.alloc (.cells arr e)) e (some ⟨w.heap.size, 0, none⟩) xs.length xs := by
  have hl : arr.size = xs.length * Rep.size α := by rw [← Array.length_toList, ha, flat_len]
  refine ⟨⟨by rw [flat_len], .inr ⟨w.heap.size, xs.length, arr, rfl, hB, heap_alloc_new w _, Nat.le_refl _, by simp only [maxLen]; omega, hl, ?_⟩⟩, hok⟩
  rw [ha, ← flat_len, List.take_length]
theorem Stk.at_ {α : Type} [Flat α] {w : World} {B g : Nat} {e : TypeId} {xs : List α} {arr : Array Value} (h : w.heap[g]? = some (.cells arr e (0, 0))) (ha : arr.toList = xs.flatMap Flat.cs) (hok : ∀ x ∈ xs, Flat.ok x) (hB : B ≤ g) {n : Nat} (hn : xs.length = n) (hx : n ≤ 4096) :
    Stk B w e (some ⟨g, 0, none⟩) n xs := by
  subst hn
  have hl : arr.size = xs.length * Rep.size α := by rw [← Array.length_toList, ha, flat_len]
  refine ⟨⟨by rw [flat_len], .inr ⟨g, xs.length, arr, rfl, hB, h, Nat.le_refl _, by simp only [maxLen]; omega, hl, ?_⟩⟩, hok⟩
  rw [ha, ← flat_len, List.take_length]
theorem plain_cells {α : Type} [Plain α] {w : World} {S : Nat → Prop} : ∀ {xs : List α} {cs : List Value}, Cells w S cs xs → cs = xs.flatMap Flat.cs ∧ ∀ x ∈ xs, Flat.ok x
  | [], _, h => ⟨h, fun x hx => by cases hx⟩
  | x :: xs, _, ⟨c0, c1, e, h0, h1⟩ => by
    obtain ⟨e1, ho⟩ := plain_cells h1
    obtain ⟨e0, k0⟩ := Plain.inv h0
    subst e e1 e0
    refine ⟨by simp, fun y hy => ?_⟩
    rcases List.mem_cons.1 hy with rfl | hy
    · exact k0
    · exact ho y hy
/-- A slice that came in is what an append reads. -/
theorem In.src {α : Type} [Plain α] {w : World} {A : Option Addr} {m c : Nat} {ys : List α} (h : In w A m c ys) : Src w (Rep.size α) A m (ys.flatMap Flat.cs) ∧ (∀ y ∈ ys, Flat.ok y) ∧ (A = none → m = 0) := by
  obtain ⟨cs, h1, h2⟩ := Sl.cells h
  obtain ⟨rfl, ho⟩ := plain_cells h1
  refine ⟨h2, ho, fun hA => ?_⟩
  have := h.2.2.2.1 hA
  have := h.2.1
  omega
section
variable {α : Type} [Plain α] {P : Program} {w : World}
theorem stk_cat {B : Nat} {w1 : World} {e : TypeId} {n m : Nat} {xs ys : List α} {v' : Value} {A : Option Addr} {c : Nat} (hown : Stk B w e A c xs) (hl : xs.length = n) (hy : ∀ y ∈ ys, Flat.ok y) (hm : ys.length = m)
    (h1 : w1.ownsRow B e (Rep.size α) v' (n + m) (xs.flatMap Flat.cs ++ ys.flatMap Flat.cs)) : ∃ A' c', v' = .slice A' (n + m) c' ∧ Stk B w1 e A' c' (xs ++ ys) := by
  have ho : ∀ q ∈ xs ++ ys, Flat.ok q := by
    intro q hq
    rcases List.mem_append.1 hq with hq | hq
    · exact hown.ok q hq
    · exact hy q hq
  have e1 : (xs ++ ys).length = n + m := by rw [List.length_append, hl, hm]
  have e2 : (xs ++ ys).flatMap (Flat.cs (α := α)) = xs.flatMap Flat.cs ++ ys.flatMap Flat.cs := List.flatMap_append
  rcases h1.2 with ⟨rfl, h5⟩ | ⟨g, cap, cur, rfl, hg, r⟩
  · refine ⟨none, 0, by rw [h5], ?_, ho⟩
    rw [e1, e2, h5]
    rw [h5] at h1
    exact h1
  · refine ⟨_, _, rfl, ?_, ho⟩
    rw [e1, e2]
    exact h1
/-- An append of a slice onto one of the call's own. -/
theorem wpList_cat {ops : Array Oper} {rest : List Oper} {o : Oper} {a : Act} {Q : Exit → Act → World → Prop} (w : World) (hgd : o.guard = none) (s x : Operand) (t : TypeId)
    (ho : o.op = .call { callee := .builtin .append, args := #[s, x], argTypes := #[t, t] })
    (B : Nat) (e : TypeId) (i : TypeInfo) (z : Value) (bytes : Nat) (ht : P.underlying t = some (.slice e)) (hi : P.info? e = some i) (hz : i.zero = some z)
    (hsize : i.size = Rep.size α) (hby : i.bytes = bytes) (hzs : z.cells.size = Rep.size α) (hbm : bytes ≤ 256)
    (A : Option Addr) (n c : Nat) (xs : List α) (hown : Stk B w e A c xs) (hl : xs.length = n) (hs : a.eval s = .slice A n c)
    (A2 : Option Addr) (m c2 : Nat) (ys : List α) (hin : In w A2 m c2 ys) (hx : a.eval x = .slice A2 m c2) (hm : n + m ≤ 1048576) (hB : B ≤ w.heap.size)
    (h : ∀ A' c' w', Stk B w' e A' c' (xs ++ ys) → Below B w w' → (∀ g, g < w.heap.size → (Value.slice A n c).ownBlock ≠ some g → w'.heap[g]? = w.heap[g]?) → w.heap.size ≤ w'.heap.size → wpList P ops Q rest (a.put o.dst (.slice A' (n + m) c')) w') :
    wpList P ops Q (o :: rest) a w := by
  obtain ⟨hsrc, hok, hA2⟩ := hin.src
  refine wpList_append_src (P := P) (w := w) hgd s x t ho B e i z (Rep.size α) bytes ht hi hz hsize hby hzs Flat.pos (.slice A n c) n (xs.flatMap Flat.cs) hs (by have := hown.own; rw [hl] at this; exact this)
    A2 m c2 (ys.flatMap Flat.cs) hx hA2 hsrc (flat_one ys) (by simp only [maxLen]; omega) ?_ hB ?_
  · have : (n + m) * bytes ≤ 1048576 * 256 := Nat.mul_le_mul (by omega) hbm
    omega
  · intro v' w1 h1 h2 h3
    obtain ⟨A', c', rfl, hst⟩ := stk_cat hown hl hok hin.len h1
    have hbl := hown.blk
    rw [hl] at hbl
    have hb : Below B w w1 := (Below.refl B w).grown h2 hB (fun g hg => (hbl g hg).2)
    exact h _ _ _ hst hb (fun g' hg' hn => h2.block g' hg' (fun e => hn e.symm)) h2.size
theorem step_cat {ops : Array Oper} {o : Oper} {a : Act} {K : Act → World → Prop} {Q : Exit → Act → World → Prop} {E : Prop} (w : World) (hgd : o.guard = none) (s x : Operand) (t : TypeId)
    (ho : o.op = .call { callee := .builtin .append, args := #[s, x], argTypes := #[t, t] })
    (B : Nat) (e : TypeId) (i : TypeInfo) (z : Value) (bytes : Nat) (ht : P.underlying t = some (.slice e)) (hi : P.info? e = some i) (hz : i.zero = some z)
    (hsize : i.size = Rep.size α) (hby : i.bytes = bytes) (hzs : z.cells.size = Rep.size α) (hbm : bytes ≤ 256)
    (A : Option Addr) (n c : Nat) (xs : List α) (hown : Stk B w e A c xs) (hl : xs.length = n) (hs : a.eval s = .slice A n c)
    (A2 : Option Addr) (m c2 : Nat) (ys : List α) (hin : In w A2 m c2 ys) (hx : a.eval x = .slice A2 m c2) (hm : n + m ≤ 1048576) (hB : B ≤ w.heap.size)
    (h : ∀ A' c' w', Stk B w' e A' c' (xs ++ ys) → Below B w w' → (∀ g, g < w.heap.size → (Value.slice A n c).ownBlock ≠ some g → w'.heap[g]? = w.heap[g]?) → w.heap.size ≤ w'.heap.size → K (a.put o.dst (.slice A' (n + m) c')) w') :
    if Region.wanted o (yielded ops a.tmps) = true then Oper.wp P o a w K Q else E := by
  obtain ⟨hsrc, hok, hA2⟩ := hin.src
  refine step_append_src (P := P) w hgd s x t ho B e i z (Rep.size α) bytes ht hi hz hsize hby hzs Flat.pos (.slice A n c) n (xs.flatMap Flat.cs) hs (by have := hown.own; rw [hl] at this; exact this)
    A2 m c2 (ys.flatMap Flat.cs) hx hA2 hsrc (flat_one ys) (by simp only [maxLen]; omega) ?_ hB ?_
  · have : (n + m) * bytes ≤ 1048576 * 256 := Nat.mul_le_mul (by omega) hbm
    omega
  · intro v' w1 h1 h2 h3
    obtain ⟨A', c', rfl, hst⟩ := stk_cat hown hl hok hin.len h1
    have hbl := hown.blk
    rw [hl] at hbl
    have hb : Below B w w1 := (Below.refl B w).grown h2 hB (fun g hg => (hbl g hg).2)
    exact h _ _ _ hst hb (fun g' hg' hn => h2.block g' hg' (fun e => hn e.symm)) h2.size
end
end Go.Proofs.YtmnhahilbbnkkaaDoor

namespace Go.Proofs.YtmnhahilbbnkkaaDoor
open Go.RowKit
set_option linter.unusedSimpArgs false
set_option linter.unusedVariables false

def rmax (l : List Int) : Int := l.foldl (fun h x => max h x) 0
theorem raise_rmax (l : List Int) : raise l = rmax l + 1 := by
  have key : ∀ (l : List Int) (a : Int), l.foldl (fun h x => max h (1 + x)) (a + 1) = l.foldl (fun h x => max h x) a + 1 := by
    intro l
    induction l with
    | nil => intro a; rfl
    | cons x l ih =>
      intro a
      rw [List.foldl_cons, List.foldl_cons, ← ih]
      congr 1
      omega
  exact key l 0
theorem rmax_take {l : List Int} {j : Nat} {x : Int} {r : List Int} (h : l.drop j = x :: r) : rmax (l.take (j + 1)) = max (rmax (l.take j)) x := by
  have hg := drop_get h
  rw [List.take_add_one, hg.1]
  simp [rmax, List.foldl_append]
set_option maxHeartbeats 2000000 in
set_option maxRecDepth 100000 in
theorem raise_ref (w : World) (A : Option Addr) (r m c : Nat) (st : List Int) (hx : In w A (r + m) c st) (hbd : ∀ h ∈ st, 1 ≤ h ∧ h ≤ 64) (hr0 : r + m ≤ 4096) :
    Calls Tryd.prog 48 #[.slice A (r + m) c, .int .i64 (m : Int)] w fun e w' => e = .returned (.tuple #[.int .i64 (raise (st.drop r)), .slice A r c]) ∧ Below w.heap.size w w' := by
  have hcap := hx.cap
  have hrb : ∀ j, 1 ≤ raise ((st.drop r).take j) ∧ raise ((st.drop r).take j) ≤ 65 := fun j => raise_bd fun q hq => hbd q (List.mem_of_mem_drop (List.mem_of_mem_take hq))
  have HRB := hide hrb
  have HBD := hide hbd
  have HL := hide hx.len
  clear hrb hbd
  go_enter Tryd.func48, Tryd.ntmps48
  go_wp2
  go_loop [6, 8] (fun h i => ∃ j : Nat, j ≤ m ∧ i = .int .i64 ((r : Int) + (j : Int)) ∧ h = .int .i64 (rmax ((st.drop r).take j))) (fun _ i => r + m - (intOf i).toNat)
  case atStart => exact ⟨0, Nat.zero_le _, by simp, rfl⟩
  case round =>
    obtain ⟨j, hj, rfl, rfl⟩ := hrel
    have hr1 := (HRB.out j).1
    have hr2 := (HRB.out j).2
    rw [raise_rmax] at hr1 hr2
    by_cases hjm : j < m
    · obtain ⟨b', off', y, rfl, hB', HY, y0, y1⟩ := hx.int (show r + j < r + m by omega)
      have HR := hide (rmax_take (l := st.drop r) (j := j) (by rw [List.drop_drop]; exact HY.out))
      have k0 : (0 : Int) ≤ (r : Int) + (j : Int) := by omega
      have k1 : (r : Int) + (j : Int) < (r : Int) + (m : Int) := by omega
      have k2 : ((r : Int) + (j : Int)).toNat = r + j := by omega
      go_wp2
      go_round
      case rel => exact ⟨j + 1, by omega, by go_num, by rw [HR.out]⟩
      case measure => simp [intOf]; omega
    · obtain rfl : j = m := by omega
      have HTK : Hid ((st.drop r).take j = st.drop r) := hide (List.take_of_length_le (by rw [List.length_drop, HL.out]; omega))
      rw [HTK.out] at hr1 hr2 ⊢
      have k3 : (0 : Int) ≤ (r : Int) := by omega
      have k4 : (r : Int) ≤ (c : Int) := by omega
      have k5 : IntKind.i64.wrap (rmax (st.drop r) + 1) = rmax (st.drop r) + 1 := IntWalk.i64_in _ (by omega)
      go_wp2
      go_quiet (fail)
      go_wp2
      go_ret2
      exact ⟨by rw [raise_rmax]; rfl, below_drewN (Below.refl _ _) _⟩

/-- A node lies among others. -/
def NodeO (w : World) (b o : Nat) (x : Node) : Prop := w.cell? ⟨b, o, none⟩ = some (.int .i64 x.op) ∧ w.cell? ⟨b, o + 1, none⟩ = some (.int .i64 x.value.kind) ∧ w.cell? ⟨b, o + 2, none⟩ = some (.int .i64 x.value.num) ∧ w.cell? ⟨b, o + 3, none⟩ = some (.string x.value.str) ∧
    w.cell? ⟨b, o + 4, none⟩ = some (.string x.name) ∧ w.cell? ⟨b, o + 5, none⟩ = some (.int .i64 x.arity)
theorem NodeO.below {w w' : World} {b o : Nat} {x : Node} (h : NodeO w b o x) (hb : Below w.heap.size w w') (hl : b < w.heap.size) : NodeO w' b o x :=
  ⟨bat hb hl h.1, bat hb hl h.2.1, bat hb hl h.2.2.1, bat hb hl h.2.2.2.1, bat hb hl h.2.2.2.2.1, bat hb hl h.2.2.2.2.2⟩
set_option maxHeartbeats 4000000 in
set_option maxRecDepth 100000 in
theorem exprErr_ref (w : World) (A : Option Addr) (n c : Nat) (es : List Node) (hx : In w A n c es) :
    Calls Tryd.prog 28 #[.slice A n c] w fun e w' => e = .returned (.int .i64 (exprErr es)) ∧ Below w.heap.size w w' := by
  have h63 := hx.le
  have hlen := hide hx.len
  obtain ⟨i0, hi, hz0, hz1, hz2⟩ := info_parts int_info
  by_cases h1 : 256 < n
  · have he : Hid (2 = exprErr es) := hide (by simp only [exprErr]; rw [hlen.out, if_pos h1])
    go_enter Tryd.func28, Tryd.ntmps28
    go_wp2
    all_goals (go_ret; exact ⟨ret_int he.out, Below.refl _ _⟩)
  have HE0 : Hid (exprErr es = exprLoop [] es) := hide (by simp only [exprErr]; rw [hlen.out, if_neg h1])
  go_enter Tryd.func28, Tryd.ntmps28
  go_wp2
  go_loopw [3, 4] (fun v i wr => ∃ (k d : Nat) (st : List Int) (B : Option Addr) (cb : Nat), k ≤ n ∧ d ≤ k ∧ i = .int .i64 k ∧ v = .slice B d cb ∧ exprLoop [] es = exprLoop st (es.drop k) ∧ Hts w wr st d B cb) (fun _ i _ => n - (intOf i).toNat)
  case atStart => exact ⟨0, 0, [], none, 0, Nat.zero_le _, Nat.zero_le _, rfl, rfl, rfl, ⟨Stk.nil_ _ _ _, rfl, (fun _ h => by cases h), Below.refl _ _⟩⟩
  case round =>
    obtain ⟨k, d, st, B, cb, hk, hdk, rfl, rfl, heq, hst⟩ := hrel
    have HE := hide heq
    have HST := hide hst
    clear heq hst
    by_cases hlt : k < n
    · obtain ⟨b, off, x, rfl, hB, HX, f0, f1, f2, f3, f4, f5, hok⟩ := (hx.below HST.out.below).node hlt
      have NA : Hid (NodeO wr b (off + k * 6) x) := hide ⟨f0, f1, f2, f3, f4, f5⟩
      go_wp2_with fail
      refine (formed_expr x hok _).mono ?_
      rintro e w1 ⟨rfl, hb1⟩
      obtain ⟨g0, g1, g2, g3, g4, g5⟩ := NA.out.below hb1 hB
      have NA1 := hide (NA.out.below hb1 hB)
      have HST1 := hide (HST.out.keep hb1)
      have z1 : b < w1.heap.size := by have := hb1.size; omega
      clear hb1 f0 f1 f2 f3 f4 f5
      cases hsh : shaped x
      · have he : Hid (8 = exprErr es) := hide (by rw [HE0.out, HE.out, HX.out, exprLoop, if_pos (.inl hsh)])
        go_wp2
        go_ret
        exact ⟨ret_int he.out, HST1.out.below⟩
      obtain ⟨m, hm⟩ : ∃ m : Nat, arity x.op x.arity = (m : Int) := ⟨(arity x.op x.arity).toNat, by have := arity_range hsh; omega⟩
      have hm8 : m ≤ 8 := by have := (arity_range hsh).2; omega
      have HM := hide hm
      have HSH := hide hsh
      clear hsh hm
      go_wp2_with fail
      refine (arity_ref x _).mono ?_
      rintro e w2 ⟨rfl, hb2⟩
      rw [HM.out]
      obtain ⟨q0, q1, q2, q3, q4, q5⟩ := NA1.out.below hb2 z1
      have HST2 := hide (HST1.out.keep hb2)
      clear hb2 g0 g1 g2 g3 g4 g5
      by_cases hmd : d < m
      · have he : Hid (8 = exprErr es) := hide (by rw [HE0.out, HE.out, HX.out, exprLoop, if_pos (.inr (by rw [HM.out, HST.out.len]; omega))])
        go_wp2
        go_ret
        exact ⟨ret_int he.out, HST2.out.below⟩
      obtain ⟨r, rfl⟩ : ∃ r, d = r + m := ⟨d - m, by omega⟩
      go_wp2_with fail
      refine (arity_ref x _).mono ?_
      rintro e w3 ⟨rfl, hb3⟩
      rw [HM.out]
      have HST3 := hide (HST2.out.keep hb3)
      clear hb3 q0 q1 q2 q3 q4 q5 NA NA1
      have HIN : Hid (In w3 B (r + m) cb st) := hide (by have := HST3.out.stk.inn; rw [HST3.out.len] at this; exact this)
      go_wp2_with fail
      refine (raise_ref _ _ r m _ st HIN.out HST3.out.bd (by omega)).mono ?_
      rintro e w4 ⟨rfl, hb4⟩
      have HST4 := hide (HST3.out.keep hb4)
      clear hb4
      have hrb := raise_bd (l := st.drop r) fun q hq => HST4.out.bd q (List.mem_of_mem_drop hq)
      obtain ⟨hr1, hr2⟩ := hrb
      by_cases hh : 64 < raise (st.drop r)
      · have he : Hid (2 = exprErr es) := hide (by rw [HE0.out, HE.out, HX.out, exprLoop_high HSH.out HM.out HST3.out.len hh])
        go_wp2
        go_ret
        exact ⟨ret_int he.out, HST4.out.below⟩
      have HN : Hid (exprLoop [] es = exprLoop (st.take r ++ [raise (st.drop r)]) (es.drop (k + 1))) := hide (by rw [HE.out, HX.out, exprLoop_step HSH.out HM.out HST3.out.len (by omega)])
      have HLE : Hid (r ≤ st.length) := hide (by rw [HST3.out.len]; omega)
      have hsz4 : w.heap.size ≤ w4.heap.size := HST4.out.below.size
      go_wp2_with (at_builtin; refine wpList_push (α := Int) _ rfl (.tmp 44) (.tmp 46) 59 rfl w.heap.size 3 i0 _ 8 Tryd.underlying59 hi hz0 hz1 hz2 rfl (by decide) B cb r st (HST4.out.stk.keep below_alloc) HLE.out rfl (raise (st.drop r)) (i64_small (by omega)) w4.heap.size rfl (oneAt_new _ _ _ _ rfl) (by omega) (by simp; omega) ?_; intro A' c' w5 hst5 hb5)
      have HP := hide (HST4.out.push hst5 hb5 (by omega))
      clear hst5 hb5
      go_wp2
      go_roundw
      case rel => exact ⟨k + 1, r + 1, _, A', c', by omega, by omega, by go_num, rfl, HN.out, HP.out⟩
      case measure => simp [intOf]; omega
    · have HX := hide (drop_end hx.len (show n ≤ k by omega))
      by_cases hd1 : d = 1
      · have he : Hid (0 = exprErr es) := hide (by rw [HE0.out, HE.out, HX.out, exprLoop, if_neg (by rw [HST.out.len]; omega)])
        subst hd1
        go_wp2
        go_ret
        exact ⟨ret_int he.out, HST.out.below⟩
      · have he : Hid (8 = exprErr es) := hide (by rw [HE0.out, HE.out, HX.out, exprLoop, if_pos (by rw [HST.out.len]; omega)])
        have q1 : ((d : Int) != 1) = true := by simp; omega
        clear hd1
        go_wp2
        go_ret
        exact ⟨ret_int he.out, HST.out.below⟩
end Go.Proofs.YtmnhahilbbnkkaaDoor
