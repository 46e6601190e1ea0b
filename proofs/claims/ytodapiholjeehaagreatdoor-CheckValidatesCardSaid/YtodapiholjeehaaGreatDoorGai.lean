/-
  value.word, value.Encode: the bytes of a row. value.Encode. (Printed by gen_enc.py.)
-/
import Derived.Lib.AppendStr
import Derived.Laws.IdiomStrings
import Derived.Test.YtodapiholjeehaaGreatDoorGag
import Derived.Test.YtodapiholjeehaaGreatDoorGrp
import Derived.Test.YtodapiholjeehaaGreatDoorGab
namespace Go.Proofs.YtodapiholjeehaaGreatDoor
open Go.RowKit
set_option linter.unusedSimpArgs false
set_option linter.unusedVariables false
instance : Rep UInt8 where
  size := 1
  rd _ _ cs b := cs = [.int .u8 b.toNat]
  len h := by rw [h]; rfl
  keep _ h := h
  mono _ h := h
instance : One UInt8 := ⟨by rintro w S cs a rfl u hu; simp at hu; subst hu; rfl⟩
theorem byte_info : (Tryz.prog.info? 5).map (fun i => (i.zero, i.size, i.bytes)) = some (some (.int .u8 0), 1, 1) := by kernel_rfl
theorem elem_bytes : Elem Tryz.prog 154 5 1 1 := elem_mk _ Tryz.underlying154 byte_info rfl (by decide)
abbrev OB (B : Nat) (w : World) (v : Value) (bs : List UInt8) : Prop := OL 5 B (fun _ => False) [] w v bs
def u8 (n : Int) : UInt8 := UInt8.ofNat (n % 256).toNat
def wordB (n : Int) : List UInt8 := [u8 (n / 16777216), u8 (n / 65536), u8 (n / 256), u8 n]
theorem u8_val (n : Int) : ((u8 n).toNat : Int) = n % 256 := by
  have h0 : 0 ≤ n % 256 := Int.emod_nonneg _ (by decide)
  have h1 : n % 256 < 256 := Int.emod_lt_of_pos _ (by decide)
  rw [u8, UInt8.toNat_ofNat']
  omega
theorem byte_cell {n m : Int} (h : m = n % 256) : Value.int .u8 m = .int .u8 ((u8 n).toNat : Int) := by rw [u8_val, h]
theorem Cells.bytes {w : World} {S : Nat → Prop} : ∀ {bs : List UInt8} {cs : List Value}, cs = bs.map (fun b => Value.int .u8 b.toNat) → Cells w S cs bs
  | [], cs, h => h
  | b :: bs, cs, h => ⟨[.int .u8 b.toNat], bs.map (fun b => Value.int .u8 b.toNat), by rw [h]; rfl, rfl, Cells.bytes rfl⟩
set_option maxHeartbeats 2000000 in
set_option maxRecDepth 100000 in
theorem word_any (W : World) (B : Nat) (v : Value) (bs : List UInt8) (hO : OB B W v bs) (n : Int) (h0 : 0 ≤ n) (h1 : n < 4294967296) (hl : bs.length ≤ 1048576) :
    Calls Tryz.prog 167 #[v, .int .i64 n] W fun e w' => (∃ v', e = .returned v' ∧ OB B w' v' (bs ++ wordB n)) ∧ W.grownBy w' v.ownBlock ∧ Below B W w' := by
  have HO := hide hO
  have HC := hide (Cells.bytes (w := W.alloc (.cells #[.int .u8 (n / 16777216), .int .u8 (n / 65536 % 256), .int .u8 (n / 256 % 256), .int .u8 (n % 256)] 5)) (S := BS B (fun _ => False) [] (W.alloc (.cells #[.int .u8 (n / 16777216), .int .u8 (n / 65536 % 256), .int .u8 (n / 256 % 256), .int .u8 (n % 256)] 5))) (bs := wordB n) (cs := [.int .u8 (n / 16777216), .int .u8 (n / 65536 % 256), .int .u8 (n / 256 % 256), .int .u8 (n % 256)]) (by
    simp only [wordB, List.map_cons, List.map_nil]
    rw [byte_cell (n := n / 16777216) (by omega), byte_cell (n := n / 65536) rfl, byte_cell (n := n / 256) rfl, byte_cell (n := n) rfl]))
  have HSR := hide (src_built W #[.int .u8 (n / 16777216), .int .u8 (n / 65536 % 256), .int .u8 (n / 256 % 256), .int .u8 (n % 256)] 5 1 4 rfl)
  have HO1 := hide (hO.below (below_alloc (o := .cells #[.int .u8 (n / 16777216), .int .u8 (n / 65536 % 256), .int .u8 (n / 256 % 256), .int .u8 (n % 256)] 5)))
  have hm1 : bs.length + 4 ≤ maxLen := by simp only [maxLen]; omega
  have hm2 : (bs.length + 4) * 1 ≤ 140737488355328 := by omega
  go_enter Tryz.func167, Tryz.ntmps167
  go_wp2_with (at_builtin; refine wpList_append_OL _ rfl _ _ _ rfl elem_bytes (by simp) HO1.out rfl (some ⟨W.heap.size, 0, none⟩) 4 4 _ (wordB n) rfl (fun h => by cases h) HSR.out HC.out rfl hm1 hm2 ?_; intro v1 w9 ho9 hb9 hg9 hat9)
  have HO9 := hide ho9
  have HG9 := hide ((Below.grows (below_alloc (w := W)) v.ownBlock).trans hg9)
  have HB9 := hide (((below_alloc (w := W)).mono HO.out.base).trans hb9)
  clear ho9 hb9 hg9 hat9
  go_wp2
  go_ret
  exact ⟨⟨_, rfl, HO9.out⟩, HG9.out, HB9.out⟩
end Go.Proofs.YtodapiholjeehaaGreatDoor

namespace Go.Proofs.YtodapiholjeehaaGreatDoor
open Go.RowKit
set_option linter.unusedSimpArgs false
set_option linter.unusedVariables false
def encV (v : Val) : List UInt8 :=
  u8 v.kind :: (if v.kind = 1 then [u8 v.num] else if v.kind = 2 then wordB (v.num + 1073741824) else if v.kind = 4 then wordB v.num else if v.kind = 3 then u8 v.str.size :: v.str.data.toList else [])
def encR (row : List Val) : List UInt8 := u8 row.length :: row.flatMap encV
def encS (row : List Val) : Int × List UInt8 := if 12 < row.length then (2, []) else if firstErr valF 0 row ≠ 0 then (8, []) else (0, encR row)
theorem encV_len (v : Val) {s : ByteArray} (h : s.size ≤ 64) (hv : v.str = s) : (encV v).length ≤ 66 := by
  have h1 : v.str.data.toList.length ≤ 64 := by rw [hv]; exact h
  rw [encV]
  split
  · simp
  · split
    · simp [wordB]
    · split
      · simp [wordB]
      · split
        · simp only [List.length_cons]; omega
        · simp
theorem valid_cases {v : Val} (h : valid v = true) : (v.kind = 0 ∧ v.num = 0 ∧ v.str.size = 0) ∨ (v.kind = 1 ∧ (v.num = 0 ∨ v.num = 1) ∧ v.str.size = 0) ∨ (v.kind = 2 ∧ -1073741824 ≤ v.num ∧ v.num ≤ 1073741824 ∧ v.str.size = 0) ∨ (v.kind = 3 ∧ v.num = 0 ∧ v.str.size ≤ 64) ∨ (v.kind = 4 ∧ 0 ≤ v.num ∧ v.num ≤ 575999999 ∧ v.str.size = 0) := by
  have hs : ∀ s : ByteArray, noStr s = true → s.size = 0 := fun s hs => by
    rw [noStr, ByteArray.toList_eq, List.isEmpty_iff] at hs
    have := congrArg List.length hs
    simpa using this
  rw [valid] at h
  by_cases h0 : v.kind = 0
  · rw [if_pos h0] at h
    simp at h
    exact .inl ⟨h0, h.1, hs _ h.2⟩
  rw [if_neg h0] at h
  by_cases h1 : v.kind = 1
  · rw [if_pos h1] at h
    simp at h
    exact .inr (.inl ⟨h1, h.2, hs _ h.1⟩)
  rw [if_neg h1] at h
  by_cases h2 : v.kind = 2
  · rw [if_pos h2] at h
    simp at h
    exact .inr (.inr (.inl ⟨h2, h.2.1, h.2.2, hs _ h.1⟩))
  rw [if_neg h2] at h
  by_cases h3 : v.kind = 3
  · rw [if_pos h3] at h
    simp at h
    exact .inr (.inr (.inr (.inl ⟨h3, h.1, h.2⟩)))
  rw [if_neg h3] at h
  by_cases h4 : v.kind = 4
  · rw [if_pos h4] at h
    simp at h
    exact .inr (.inr (.inr (.inr ⟨h4, h.2.1, h.2.2, hs _ h.1⟩)))
  rw [if_neg h4] at h
  cases h
theorem bytes_of : ∀ {w : World} {S : Nat → Prop} {bs : List UInt8} {cs : List Value}, Cells w S cs bs → cs = bs.map (fun b => Value.int .u8 b.toNat)
  | _, _, [], cs, h => h
  | w, S, b :: bs, cs, ⟨c0, c1, e, h0, h1⟩ => by
    rw [e, show c0 = [.int .u8 b.toNat] from h0, bytes_of h1]
    rfl
theorem OL.built {α : Type} [Rep α] {w : World} {e : TypeId} {B : Nat} {O : Nat → Prop} {T : List TypeId} {arr : Array Value} {m : Nat} {xs : List α} (hB : B ≤ w.heap.size) (hm : m ≤ maxLen) (hl : xs.length = m) (hs : arr.size = m * Rep.size α) (hc : Cells (w.alloc (.cells arr e)) (BS B O T (w.alloc (.cells arr e))) arr.toList xs) :
    OL e B O T (w.alloc (.cells arr e)) (.slice (some ⟨w.heap.size, 0, none⟩) m m) xs :=
  ⟨⟨arr.toList, ⟨by rw [Array.length_toList, hs, hl], .inr ⟨w.heap.size, m, arr, by rw [hl], hB, heap_alloc_new w _, by omega, hm, hs, by rw [hl, ← hs]; exact List.take_of_length_le (by simp)⟩⟩, hc⟩, Nat.le_trans hB (below_alloc (o := .cells arr e)).size⟩
theorem wpList_str_OB {ops : Array Oper} {rest : List Oper} {o : Oper} {a : Act} {Q : Exit → Act → World → Prop} {w : World} (hgd : o.guard = none) (sl x : Operand)
    (ho : o.op = .call { callee := .builtin .append, args := #[sl, x], argTypes := #[154, 9] }) {B : Nat} {v : Value} {bs : List UInt8} (hO : OB B w v bs) (hs : a.eval sl = v) (s : ByteArray) (hx : a.eval x = .string s)
    (h63 : bs.length + s.size ≤ maxLen) (hbytes : bs.length + s.size ≤ 140737488355328)
    (h : ∀ v' w', OB B w' v' (bs ++ s.data.toList) → Below B w w' → wpList Tryz.prog ops Q rest (a.put o.dst v') w') : wpList Tryz.prog ops Q (o :: rest) a w := by
  obtain ⟨i0, hi, hz0, hz1, hz2⟩ := info_parts byte_info
  obtain ⟨cs, h1, h2⟩ := hO.own
  obtain rfl := bytes_of h2
  refine Lib.wpList_append_own_string w hgd sl x 154 9 ho B 5 i0 Tryz.underlying154 Tryz.underlying9 hi hz0 hz1 hz2 v bs.length _ hs h1 s hx h63 hbytes hO.base fun v' w' g1 g2 _ => ?_
  have hb : Below B w w' := (Below.refl B w).grown g2 hO.base fun j q => (own_tyO h1 q).1
  refine h v' w' ⟨⟨_, ?_, Cells.bytes rfl⟩, Nat.le_trans hO.base hb.size⟩ hb
  rw [List.length_append, List.map_append]
  exact g1
theorem own_ne {α : Type} [Rep α] {e : TypeId} {B : Nat} {O : Nat → Prop} {T : List TypeId} {w : World} {v : Value} {xs : List α} (h : OL e B O T w v xs) : some w.heap.size ≠ v.ownBlock := fun q => by
  have := (h.ty q.symm).2.lt
  omega
theorem own_ne2 {b n : Nat} {v v' : Value} (h : some b ≠ v.ownBlock) (hb : b < n) (hat : v'.ownBlock = v.ownBlock ∨ ∃ k, v'.ownBlock = some k ∧ n ≤ k) : some b ≠ v'.ownBlock := fun q => by
  rcases hat with h1 | ⟨k, h1, h2⟩
  · exact h (q.trans h1)
  · rw [h1] at q
    injection q with q
    omega
theorem encR_snoc {row : List Val} {k : Nat} {x : Val} {l : List Val} (h : row.drop k = x :: l) : (row.take (k + 1)).flatMap encV = (row.take k).flatMap encV ++ encV x := by
  rw [take_snoc h, List.flatMap_append]
  simp
set_option maxHeartbeats 8000000 in
set_option maxRecDepth 100000 in
theorem encode_any (w : World) (A : Option Addr) (n c : Nat) (row : List Val) (hx : In w A n c row) :
    Calls Tryz.prog 109 #[.slice A n c] w
      fun e w' => (∃ v, e = .returned (.tuple #[v, .int .i64 (encS row).1]) ∧ OB w.heap.size w' v (encS row).2) ∧ Below w.heap.size w w' := by
  have HD := hide (show encS row = if 12 < row.length then (2, []) else if firstErr valF 0 row ≠ 0 then (8, []) else (0, encR row) from rfl)
  obtain ⟨R, hR⟩ : ∃ R, encS row = R := ⟨_, rfl⟩
  rw [hR] at HD
  rw [hR]
  clear hR
  have HIN := hide hx
  have h63 := hx.le
  clear hx
  by_cases h12 : 12 < n
  · have he : Hid (R = (2, [])) := hide (by rw [HD.out, HIN.out.len, if_pos h12])
    obtain rfl := he.out
    go_enter Tryz.func109, Tryz.ntmps109
    go_wp2
    all_goals (try (exfalso; go_light; simp_all; done))
    go_ret2
    exact ⟨⟨_, rfl, OL.nil (Nat.le_refl _)⟩, Below.refl _ _⟩
  have HD2 : Hid (R = if firstErr valF 0 row ≠ 0 then (8, []) else (0, encR row)) := hide (by rw [HD.out, HIN.out.len, if_neg h12])
  have HB0 : Hid (OB w.heap.size (w.alloc (.cells #[.int .u8 (n : Int)] 5)) (.slice (some ⟨w.heap.size, 0, none⟩) 1 1) [u8 n]) := hide (OL.built (Nat.le_refl _) (by simp only [maxLen]; omega) rfl rfl (Cells.bytes (by
    simp only [List.map_cons, List.map_nil]
    rw [byte_cell (n := (n : Int)) (m := (n : Int)) (by omega)])))
  go_enter Tryz.func109, Tryz.ntmps109
  go_wp2
  go_loopw [4, 16] (fun o i wr => ∃ (k : Nat) (bs : List UInt8), k ≤ n ∧ i = .int .i64 k ∧ bs = u8 n :: (row.take k).flatMap encV ∧ bs.length ≤ 1 + 66 * k ∧ firstErr valF 0 row = firstErr valF k (row.drop k) ∧ OB w.heap.size wr o bs ∧ Below w.heap.size w wr) (fun _ i _ => n - (RowKit.intOf i).toNat)
  case atStart => exact ⟨0, [u8 n], Nat.zero_le _, rfl, by simp, by simp, rfl, HB0.out, below_alloc⟩
  case round =>
    clear HB0
    obtain ⟨k, bs, hk, rfl, hbs, hbl, heq, ho, hb⟩ := hrel
    have HBS := hide hbs
    have HE := hide heq
    have HO := hide ho
    have HB := hide hb
    have HNE := hide (own_ne ho)
    clear hbs heq ho hb
    by_cases hlt : k < n
    · obtain ⟨b, off, x, rfl, hBb, HX, f0, f1, f2, f3⟩ := (HIN.out.below HB.out).val hlt
      go_wp2_with fail
      refine (valid_any x f3 _).mono ?_
      rintro e w1 ⟨rfl, hb1⟩
      have HBB1 := hide (below_trans (below_trans HB.out below_alloc) hb1)
      have c0 : w1.cell? ⟨wr.heap.size, 0, none⟩ = some (.int .i64 x.kind) := bat hb1 (by simp) (by simp [go_sem])
      have c1 : w1.cell? ⟨wr.heap.size, 1, none⟩ = some (.int .i64 x.num) := bat hb1 (by simp) (by simp [go_sem])
      have c2 : w1.cell? ⟨wr.heap.size, 2, none⟩ = some (.string x.str) := bat hb1 (by simp) (by simp [go_sem])
      have HO1 := hide ((HO.out.below below_alloc).below hb1)
      have LT1 := hide (lt_of_cell c0)
      clear hb1 f0 f1 f2 f3
      cases hv : valid x
      · have he : Hid (R = (8, [])) := hide (by
          have h1 : firstErr valF 0 row = 8 := by rw [HE.out, HX.out]; exact firstErr_err (by rw [valF, hv]; rfl) (by omega)
          rw [HD2.out, h1, if_pos (by omega)])
        obtain rfl := he.out
        go_wp2
        all_goals (try (exfalso; go_light; simp_all; done))
        go_ret2
        exact ⟨⟨_, rfl, OL.nil HBB1.out.size⟩, HBB1.out⟩
      · have HC : Hid (firstErr valF 0 row = firstErr valF (k + 1) (row.drop (k + 1))) := hide (by rw [HE.out, HX.out]; exact firstErr_zero (by rw [valF, hv]; rfl))
        have hvc := valid_cases hv
        clear hv
        obtain ⟨xk, xn, xs⟩ := x
        simp only at c0 c1 c2 hvc
        rcases hvc with ⟨rfl, _, hst⟩ | ⟨rfl, hxn, hst⟩ | ⟨rfl, hx1, hx2, hst⟩ | ⟨rfl, rfl, hst⟩ | ⟨rfl, hx1, hx2, hst⟩
        · have hst : xs.size ≤ 64 := by omega
          have HKB2 : Hid ([Value.int .u8 (0)] = [.int .u8 ((u8 (0)).toNat : Int)]) := hide (by rw [byte_cell (n := 0) (m := 0) (by omega)])
          have hp2 : (bs).length + 1 ≤ maxLen := by simp only [maxLen]; (try simp only [List.length_append, List.length_cons, List.length_nil]); omega
          have hq2 : ((bs).length + 1) * 1 ≤ 140737488355328 := by (try simp only [List.length_append, List.length_cons, List.length_nil]); omega
          go_wp2_with (at_builtin; refine wpList_push_OL _ rfl _ _ _ rfl elem_bytes (by simp) _ _ rfl HO1.out rfl rfl (u8 (0)) HKB2.out hp2 hq2 ?_; intro v2 w2 ho2 hb2 hg2 hat2; have HO2 := hide ho2; have c0 := hg2.cell (a := ⟨wr.heap.size, 0, none⟩) c0 HNE.out; have c1 := hg2.cell (a := ⟨wr.heap.size, 1, none⟩) c1 HNE.out; have c2 := hg2.cell (a := ⟨wr.heap.size, 2, none⟩) c2 HNE.out; have HNE2 := hide (own_ne2 HNE.out LT1.out hat2); have LT2 := hide (lt_of_cell c0); have HW2 := hide hb2; clear ho2 hg2 hat2 hb2)
          have HBF := hide (HBB1.out.trans HW2.out)
          have HEQ : Hid (bs ++ [u8 0] = u8 n :: (row.take (k + 1)).flatMap encV) := hide (by rw [encR_snoc HX.out, ← List.cons_append, ← HBS.out, show encV _ = _ from rfl]; simp [encV, List.append_assoc])
          have HLN : (bs ++ [u8 0]).length ≤ 1 + 66 * (k + 1) := by
            rw [HEQ.out, encR_snoc HX.out, List.length_cons, List.length_append]
            have h1 : (encV ⟨0, xn, xs⟩).length ≤ 66 := encV_len _ hst rfl
            have h2 := hbl
            rw [HBS.out, List.length_cons] at h2
            omega
          have HFO := hide (HO2.out)
          go_wp2
          go_roundw
          case rel => exact ⟨k + 1, _, by omega, by go_num, HEQ.out, HLN, HC.out, HFO.out, HBF.out⟩
          case measure => simp [RowKit.intOf]; omega
        · have hst : xs.size ≤ 64 := by omega
          have hx1 : 0 ≤ xn := by omega
          have hx2 : xn ≤ 1 := by omega
          have HKB2 : Hid ([Value.int .u8 (1)] = [.int .u8 ((u8 (1)).toNat : Int)]) := hide (by rw [byte_cell (n := 1) (m := 1) (by omega)])
          have hp2 : (bs).length + 1 ≤ maxLen := by simp only [maxLen]; (try simp only [List.length_append, List.length_cons, List.length_nil]); omega
          have hq2 : ((bs).length + 1) * 1 ≤ 140737488355328 := by (try simp only [List.length_append, List.length_cons, List.length_nil]); omega
          have HKB3 : Hid ([Value.int .u8 (xn)] = [.int .u8 ((u8 (xn)).toNat : Int)]) := hide (by rw [byte_cell (n := xn) (m := xn) (by omega)])
          have hp3 : (bs ++ [u8 1]).length + 1 ≤ maxLen := by simp only [maxLen]; (try simp only [List.length_append, List.length_cons, List.length_nil]); omega
          have hq3 : ((bs ++ [u8 1]).length + 1) * 1 ≤ 140737488355328 := by (try simp only [List.length_append, List.length_cons, List.length_nil]); omega
          go_wp2_with (first | (at_builtin; refine wpList_push_OL _ rfl _ _ _ rfl elem_bytes (by simp) _ _ rfl HO1.out rfl rfl (u8 (1)) HKB2.out hp2 hq2 ?_; intro v2 w2 ho2 hb2 hg2 hat2; have HO2 := hide ho2; have c0 := hg2.cell (a := ⟨wr.heap.size, 0, none⟩) c0 HNE.out; have c1 := hg2.cell (a := ⟨wr.heap.size, 1, none⟩) c1 HNE.out; have c2 := hg2.cell (a := ⟨wr.heap.size, 2, none⟩) c2 HNE.out; have HNE2 := hide (own_ne2 HNE.out LT1.out hat2); have LT2 := hide (lt_of_cell c0); have HW2 := hide hb2; clear ho2 hg2 hat2 hb2) | (at_builtin; refine wpList_push_OL _ rfl _ _ _ rfl elem_bytes (by simp) _ _ rfl HO2.out rfl rfl (u8 (xn)) HKB3.out hp3 hq3 ?_; intro v3 w3 ho3 hb3 hg3 hat3; have HO3 := hide ho3; have c0 := hg3.cell (a := ⟨wr.heap.size, 0, none⟩) c0 HNE2.out; have c1 := hg3.cell (a := ⟨wr.heap.size, 1, none⟩) c1 HNE2.out; have c2 := hg3.cell (a := ⟨wr.heap.size, 2, none⟩) c2 HNE2.out; have HNE3 := hide (own_ne2 HNE2.out LT2.out hat3); have LT3 := hide (lt_of_cell c0); have HW3 := hide hb3; clear ho3 hg3 hat3 hb3))
          have HBF := hide ((HBB1.out.trans HW2.out).trans HW3.out)
          have HEQ : Hid ((bs ++ [u8 1]) ++ [u8 xn] = u8 n :: (row.take (k + 1)).flatMap encV) := hide (by rw [encR_snoc HX.out, ← List.cons_append, ← HBS.out, show encV _ = _ from rfl]; simp [encV, List.append_assoc])
          have HLN : ((bs ++ [u8 1]) ++ [u8 xn]).length ≤ 1 + 66 * (k + 1) := by
            rw [HEQ.out, encR_snoc HX.out, List.length_cons, List.length_append]
            have h1 : (encV ⟨1, xn, xs⟩).length ≤ 66 := encV_len _ hst rfl
            have h2 := hbl
            rw [HBS.out, List.length_cons] at h2
            omega
          have HFO := hide (HO3.out)
          go_wp2
          go_roundw
          case rel => exact ⟨k + 1, _, by omega, by go_num, HEQ.out, HLN, HC.out, HFO.out, HBF.out⟩
          case measure => simp [RowKit.intOf]; omega
        · have hst : xs.size ≤ 64 := by omega
          have HKB2 : Hid ([Value.int .u8 (2)] = [.int .u8 ((u8 (2)).toNat : Int)]) := hide (by rw [byte_cell (n := 2) (m := 2) (by omega)])
          have hp2 : (bs).length + 1 ≤ maxLen := by simp only [maxLen]; (try simp only [List.length_append, List.length_cons, List.length_nil]); omega
          have hq2 : ((bs).length + 1) * 1 ≤ 140737488355328 := by (try simp only [List.length_append, List.length_cons, List.length_nil]); omega
          have hww : IntKind.i64.wrap (xn + 1073741824) = xn + 1073741824 := IntWalk.i64_in _ (by omega)
          have hpw : (bs ++ [u8 2]).length ≤ 1048576 := by (try simp only [List.length_append, List.length_cons, List.length_nil]); omega
          go_wp2_with (first | (at_builtin; refine wpList_push_OL _ rfl _ _ _ rfl elem_bytes (by simp) _ _ rfl HO1.out rfl rfl (u8 (2)) HKB2.out hp2 hq2 ?_; intro v2 w2 ho2 hb2 hg2 hat2; have HO2 := hide ho2; have c0 := hg2.cell (a := ⟨wr.heap.size, 0, none⟩) c0 HNE.out; have c1 := hg2.cell (a := ⟨wr.heap.size, 1, none⟩) c1 HNE.out; have c2 := hg2.cell (a := ⟨wr.heap.size, 2, none⟩) c2 HNE.out; have HNE2 := hide (own_ne2 HNE.out LT1.out hat2); have LT2 := hide (lt_of_cell c0); have HW2 := hide hb2; clear ho2 hg2 hat2 hb2) | (go_at_call 167; refine (word_any _ w.heap.size _ _ HO2.out (xn + 1073741824) (by omega) (by omega) hpw).mono ?_; rintro e w3 ⟨⟨v3, rfl, ho3⟩, hg3, hb3⟩; have HO3 := hide ho3; have HW3 := hide hb3; clear ho3 hg3 hb3))
          have HBF := hide ((HBB1.out.trans HW2.out).trans HW3.out)
          have HEQ : Hid ((bs ++ [u8 2]) ++ wordB (xn + 1073741824) = u8 n :: (row.take (k + 1)).flatMap encV) := hide (by rw [encR_snoc HX.out, ← List.cons_append, ← HBS.out, show encV _ = _ from rfl]; simp [encV, List.append_assoc])
          have HLN : ((bs ++ [u8 2]) ++ wordB (xn + 1073741824)).length ≤ 1 + 66 * (k + 1) := by
            rw [HEQ.out, encR_snoc HX.out, List.length_cons, List.length_append]
            have h1 : (encV ⟨2, xn, xs⟩).length ≤ 66 := encV_len _ hst rfl
            have h2 := hbl
            rw [HBS.out, List.length_cons] at h2
            omega
          have HFO := hide (HO3.out)
          go_wp2
          go_roundw
          case rel => exact ⟨k + 1, _, by omega, by go_num, HEQ.out, HLN, HC.out, HFO.out, HBF.out⟩
          case measure => simp [RowKit.intOf]; omega
        · have hst : xs.size ≤ 64 := by omega
          have HKB2 : Hid ([Value.int .u8 (3)] = [.int .u8 ((u8 (3)).toNat : Int)]) := hide (by rw [byte_cell (n := 3) (m := 3) (by omega)])
          have hp2 : (bs).length + 1 ≤ maxLen := by simp only [maxLen]; (try simp only [List.length_append, List.length_cons, List.length_nil]); omega
          have hq2 : ((bs).length + 1) * 1 ≤ 140737488355328 := by (try simp only [List.length_append, List.length_cons, List.length_nil]); omega
          have HKB3 : Hid ([Value.int .u8 ((xs.size : Int))] = [.int .u8 ((u8 ((xs.size : Int))).toNat : Int)]) := hide (by rw [byte_cell (n := (xs.size : Int)) (m := (xs.size : Int)) (by omega)])
          have hp3 : (bs ++ [u8 3]).length + 1 ≤ maxLen := by simp only [maxLen]; (try simp only [List.length_append, List.length_cons, List.length_nil]); omega
          have hq3 : ((bs ++ [u8 3]).length + 1) * 1 ≤ 140737488355328 := by (try simp only [List.length_append, List.length_cons, List.length_nil]); omega
          have hp4 : ((bs ++ [u8 3]) ++ [u8 (xs.size : Int)]).length + xs.size ≤ maxLen := by simp only [maxLen, List.length_append, List.length_cons, List.length_nil]; omega
          have hq4 : ((bs ++ [u8 3]) ++ [u8 (xs.size : Int)]).length + xs.size ≤ 140737488355328 := by simp only [List.length_append, List.length_cons, List.length_nil]; omega
          go_wp2_with (first | (at_builtin; refine wpList_push_OL _ rfl _ _ _ rfl elem_bytes (by simp) _ _ rfl HO1.out rfl rfl (u8 (3)) HKB2.out hp2 hq2 ?_; intro v2 w2 ho2 hb2 hg2 hat2; have HO2 := hide ho2; have c0 := hg2.cell (a := ⟨wr.heap.size, 0, none⟩) c0 HNE.out; have c1 := hg2.cell (a := ⟨wr.heap.size, 1, none⟩) c1 HNE.out; have c2 := hg2.cell (a := ⟨wr.heap.size, 2, none⟩) c2 HNE.out; have HNE2 := hide (own_ne2 HNE.out LT1.out hat2); have LT2 := hide (lt_of_cell c0); have HW2 := hide hb2; clear ho2 hg2 hat2 hb2) | (at_builtin; refine wpList_push_OL _ rfl _ _ _ rfl elem_bytes (by simp) _ _ rfl HO2.out rfl rfl (u8 ((xs.size : Int))) HKB3.out hp3 hq3 ?_; intro v3 w3 ho3 hb3 hg3 hat3; have HO3 := hide ho3; have c0 := hg3.cell (a := ⟨wr.heap.size, 0, none⟩) c0 HNE2.out; have c1 := hg3.cell (a := ⟨wr.heap.size, 1, none⟩) c1 HNE2.out; have c2 := hg3.cell (a := ⟨wr.heap.size, 2, none⟩) c2 HNE2.out; have HNE3 := hide (own_ne2 HNE2.out LT2.out hat3); have LT3 := hide (lt_of_cell c0); have HW3 := hide hb3; clear ho3 hg3 hat3 hb3) | (at_builtin; refine wpList_str_OB rfl _ _ rfl HO3.out rfl xs rfl hp4 hq4 ?_; intro v4 w4 ho4 hb4; have HO4 := hide ho4; have HW4 := hide hb4; clear ho4 hb4))
          have HBF := hide (((HBB1.out.trans HW2.out).trans HW3.out).trans HW4.out)
          have HEQ : Hid (((bs ++ [u8 3]) ++ [u8 (xs.size : Int)]) ++ xs.data.toList = u8 n :: (row.take (k + 1)).flatMap encV) := hide (by rw [encR_snoc HX.out, ← List.cons_append, ← HBS.out, show encV _ = _ from rfl]; simp [encV, List.append_assoc])
          have HLN : (((bs ++ [u8 3]) ++ [u8 (xs.size : Int)]) ++ xs.data.toList).length ≤ 1 + 66 * (k + 1) := by
            rw [HEQ.out, encR_snoc HX.out, List.length_cons, List.length_append]
            have h1 : (encV ⟨3, 0, xs⟩).length ≤ 66 := encV_len _ hst rfl
            have h2 := hbl
            rw [HBS.out, List.length_cons] at h2
            omega
          have HFO := hide (HO4.out)
          go_wp2
          go_roundw
          case rel => exact ⟨k + 1, _, by omega, by go_num, HEQ.out, HLN, HC.out, HFO.out, HBF.out⟩
          case measure => simp [RowKit.intOf]; omega
        · have hst : xs.size ≤ 64 := by omega
          have HKB2 : Hid ([Value.int .u8 (4)] = [.int .u8 ((u8 (4)).toNat : Int)]) := hide (by rw [byte_cell (n := 4) (m := 4) (by omega)])
          have hp2 : (bs).length + 1 ≤ maxLen := by simp only [maxLen]; (try simp only [List.length_append, List.length_cons, List.length_nil]); omega
          have hq2 : ((bs).length + 1) * 1 ≤ 140737488355328 := by (try simp only [List.length_append, List.length_cons, List.length_nil]); omega
          have hpw : (bs ++ [u8 4]).length ≤ 1048576 := by (try simp only [List.length_append, List.length_cons, List.length_nil]); omega
          go_wp2_with (first | (at_builtin; refine wpList_push_OL _ rfl _ _ _ rfl elem_bytes (by simp) _ _ rfl HO1.out rfl rfl (u8 (4)) HKB2.out hp2 hq2 ?_; intro v2 w2 ho2 hb2 hg2 hat2; have HO2 := hide ho2; have c0 := hg2.cell (a := ⟨wr.heap.size, 0, none⟩) c0 HNE.out; have c1 := hg2.cell (a := ⟨wr.heap.size, 1, none⟩) c1 HNE.out; have c2 := hg2.cell (a := ⟨wr.heap.size, 2, none⟩) c2 HNE.out; have HNE2 := hide (own_ne2 HNE.out LT1.out hat2); have LT2 := hide (lt_of_cell c0); have HW2 := hide hb2; clear ho2 hg2 hat2 hb2) | (go_at_call 167; refine (word_any _ w.heap.size _ _ HO2.out (xn) (by omega) (by omega) hpw).mono ?_; rintro e w3 ⟨⟨v3, rfl, ho3⟩, hg3, hb3⟩; have HO3 := hide ho3; have HW3 := hide hb3; clear ho3 hg3 hb3))
          have HBF := hide ((HBB1.out.trans HW2.out).trans HW3.out)
          have HEQ : Hid ((bs ++ [u8 4]) ++ wordB (xn) = u8 n :: (row.take (k + 1)).flatMap encV) := hide (by rw [encR_snoc HX.out, ← List.cons_append, ← HBS.out, show encV _ = _ from rfl]; simp [encV, List.append_assoc])
          have HLN : ((bs ++ [u8 4]) ++ wordB (xn)).length ≤ 1 + 66 * (k + 1) := by
            rw [HEQ.out, encR_snoc HX.out, List.length_cons, List.length_append]
            have h1 : (encV ⟨4, xn, xs⟩).length ≤ 66 := encV_len _ hst rfl
            have h2 := hbl
            rw [HBS.out, List.length_cons] at h2
            omega
          have HFO := hide (HO3.out)
          go_wp2
          go_roundw
          case rel => exact ⟨k + 1, _, by omega, by go_num, HEQ.out, HLN, HC.out, HFO.out, HBF.out⟩
          case measure => simp [RowKit.intOf]; omega
    · have he : Hid (R = (0, bs)) := hide (by
        have h1 : firstErr valF 0 row = 0 := by rw [HE.out, drop_end HIN.out.len (by omega), firstErr]
        rw [HD2.out, h1, if_neg (by omega), HBS.out, List.take_of_length_le (by rw [HIN.out.len]; omega), encR, HIN.out.len])
      obtain rfl := he.out
      go_wp2
      all_goals (try (exfalso; go_light; simp_all; done))
      go_ret2
      exact ⟨⟨_, rfl, HO.out⟩, HB.out⟩
end Go.Proofs.YtodapiholjeehaaGreatDoor
