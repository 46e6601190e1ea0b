/-
  Plain law: the encodings of two valid rows are equal only if the rows are. No program is in sight. A map from strings that the call has made: what lies at each key. No program is in sight.
-/
import Derived.Test.YtodapiholjeehaaGreatDoorGai
import Derived.Test.YtodapiholjeehaaGreatDoorGrp
namespace Go.Proofs.YtodapiholjeehaaGreatDoor
set_option linter.unusedSimpArgs false
set_option linter.unusedVariables false
theorem u8_inj {a b : Int} (h : u8 a = u8 b) (ha : 0 ≤ a) (ha2 : a < 256) (hb : 0 ≤ b) (hb2 : b < 256) : a = b := by
  have h1 := congrArg (fun x : UInt8 => (x.toNat : Int)) h
  simp only [u8_val] at h1
  omega
theorem wordB_inj {a b : Int} (h : wordB a = wordB b) (ha : 0 ≤ a) (ha2 : a < 4294967296) (hb : 0 ≤ b) (hb2 : b < 4294967296) : a = b := by
  rw [wordB, wordB] at h
  injection h with h1 h
  injection h with h2 h
  injection h with h3 h
  injection h with h4 h
  have e1 := congrArg (fun x : UInt8 => (x.toNat : Int)) h1
  have e2 := congrArg (fun x : UInt8 => (x.toNat : Int)) h2
  have e3 := congrArg (fun x : UInt8 => (x.toNat : Int)) h3
  have e4 := congrArg (fun x : UInt8 => (x.toNat : Int)) h4
  simp only [u8_val] at e1 e2 e3 e4
  omega
theorem str_of_list {s t : ByteArray} (h : s.data.toList = t.data.toList) : s = t := by
  obtain ⟨⟨a⟩⟩ := s
  obtain ⟨⟨b⟩⟩ := t
  simp only at h
  rw [h]
theorem str_none {s t : ByteArray} (h : s.size = 0) (h' : t.size = 0) : s = t := by
  refine str_of_list ?_
  have h1 : s.data.toList.length = 0 := h
  have h2 : t.data.toList.length = 0 := h'
  rw [List.eq_nil_of_length_eq_zero h1, List.eq_nil_of_length_eq_zero h2]
theorem encV_pre {v v' : Val} {r r' : List UInt8} (hv : valid v = true) (hv' : valid v' = true) (h : encV v ++ r = encV v' ++ r') : v = v' ∧ r = r' := by
  obtain ⟨k, n, s⟩ := v
  obtain ⟨k', n', s'⟩ := v'
  have c := valid_cases hv
  have c' := valid_cases hv'
  simp only at c c'
  have hk : 0 ≤ k ∧ k < 256 := by omega
  have hk' : 0 ≤ k' ∧ k' < 256 := by omega
  rw [encV, encV, List.cons_append, List.cons_append] at h
  injection h with h1 h
  simp only at h1 h
  obtain rfl := u8_inj h1 hk.1 hk.2 hk'.1 hk'.2
  rcases c with ⟨rfl, c1, c2⟩ | ⟨rfl, c1, c2⟩ | ⟨rfl, c1, c2, c3⟩ | ⟨rfl, c1, c2⟩ | ⟨rfl, c1, c2, c3⟩
  · have d1 : n' = 0 := by omega
    have d2 : s'.size = 0 := by omega
    subst c1 d1
    obtain rfl := str_none c2 d2
    exact ⟨rfl, by simpa using h⟩
  · have d1 : n' = 0 ∨ n' = 1 := by omega
    have d2 : s'.size = 0 := by omega
    obtain rfl := str_none c2 d2
    simp only [Int.reduceEq, ↓reduceIte, List.cons_append, List.nil_append] at h
    injection h with h2 h
    obtain rfl := u8_inj h2 (by omega) (by omega) (by omega) (by omega)
    exact ⟨rfl, h⟩
  · have d2 : s'.size = 0 := by omega
    obtain rfl := str_none c3 d2
    simp only [Int.reduceEq, ↓reduceIte, List.cons_append] at h
    obtain ⟨h2, h3⟩ := List.append_inj h rfl
    have := wordB_inj h2 (by omega) (by omega) (by omega) (by omega)
    obtain rfl : n = n' := by omega
    exact ⟨rfl, h3⟩
  · have d1 : n' = 0 := by omega
    have d2 : s'.size ≤ 64 := by omega
    subst c1 d1
    simp only [Int.reduceEq, ↓reduceIte, List.cons_append] at h
    injection h with h2 h
    have hs := u8_inj h2 (by omega) (by omega) (by omega) (by omega)
    have hs2 : s.data.toList.length = s'.data.toList.length := by
      show s.size = s'.size
      omega
    obtain ⟨h3, h4⟩ := List.append_inj h hs2
    obtain rfl := str_of_list h3
    exact ⟨rfl, h4⟩
  · have d2 : s'.size = 0 := by omega
    obtain rfl := str_none c3 d2
    simp only [Int.reduceEq, ↓reduceIte, List.cons_append] at h
    obtain ⟨h2, h3⟩ := List.append_inj h rfl
    obtain rfl := wordB_inj h2 (by omega) (by omega) (by omega) (by omega)
    exact ⟨rfl, h3⟩
theorem encs_inj : ∀ {xs ys : List Val}, xs.length = ys.length → (∀ x ∈ xs, valid x = true) → (∀ y ∈ ys, valid y = true) → xs.flatMap encV = ys.flatMap encV → xs = ys
  | [], [], _, _, _, _ => rfl
  | [], y :: ys, h, _, _, _ => by simp at h
  | x :: xs, [], h, _, _, _ => by simp at h
  | x :: xs, y :: ys, h, hx, hy, e => by
    rw [List.flatMap_cons, List.flatMap_cons] at e
    obtain ⟨rfl, e2⟩ := encV_pre (hx x (by simp)) (hy y (by simp)) e
    rw [encs_inj (by simpa using h) (fun z hz => hx z (by simp [hz])) (fun z hz => hy z (by simp [hz])) e2]
theorem encR_inj {xs ys : List Val} (hl : xs.length ≤ 12) (hl' : ys.length ≤ 12) (hx : ∀ x ∈ xs, valid x = true) (hy : ∀ y ∈ ys, valid y = true) (h : encR xs = encR ys) : xs = ys := by
  rw [encR, encR] at h
  injection h with h1 h2
  have := u8_inj h1 (by omega) (by omega) (by omega) (by omega)
  exact encs_inj (by omega) hx hy h2
end Go.Proofs.YtodapiholjeehaaGreatDoor

namespace Go.Proofs.YtodapiholjeehaaGreatDoor
open Go.RowKit Go.Maps
set_option linter.unusedSimpArgs false
set_option linter.unusedVariables false
def StrM (P : Program) (K : TypeId) (w : World) (b n : Nat) (z : Value) (f : ByteArray → Value) : Prop :=
  ∃ D : DataW Value, w.ownsMap P K RV b n D ∧ Maps.IsMap D ∧ ∀ s : ByteArray, D.atKey (.string s.data.toList) (.held z) = .held (f s)
section
variable {P : Program} {t K e : TypeId} {w w1 : World} {b n : Nat} {z : Value} {f : ByteArray → Value}
theorem StrM.made (P : Program) (K : TypeId) (w : World) (z : Value) : StrM P K (w.alloc (.map #[] 0)) w.heap.size 0 z (fun _ => z) :=
  ⟨.map [], World.ownsMap_made _ _ _ _, Maps.isMap_empty, fun _ => rfl⟩
theorem StrM.lt (h : StrM P K w b n z f) : b < w.heap.size := by
  obtain ⟨D, h1, _⟩ := h
  exact h1.lt
theorem StrM.same (h : StrM P K w b n z f) (hb : w1.heap[b]? = w.heap[b]?) : StrM P K w1 b n z f := by
  obtain ⟨D, ⟨es, clock, k1, k2⟩, h2, h3⟩ := h
  exact ⟨D, ⟨es, clock, hb.trans k1, k2⟩, h2, h3⟩
theorem StrM.below (h : StrM P K w b n z f) (hb : Below w.heap.size w w1) : StrM P K w1 b n z f := h.same (hb.block b h.lt)
theorem StrM.congr {f' : ByteArray → Value} (h : StrM P K w b n z f) (he : ∀ s, f s = f' s) : StrM P K w b n z f' := by
  obtain ⟨D, h1, h2, h3⟩ := h
  exact ⟨D, h1, h2, fun s => by rw [h3 s, he s]⟩
theorem StrM.mono {m : Nat} (h : StrM P K w b n z f) (hn : n ≤ m) : StrM P K w b m z f := by
  obtain ⟨D, h1, h2, h3⟩ := h
  exact ⟨D, h1.mono hn, h2, h3⟩
theorem StrM.look (h : StrM P K w b n z f) (ht : P.underlying t = some (.map K e)) (hK : P.underlying K = some .string) (hz : ∀ V, (zeroValue e).run P V = .ok z V) {s : ByteArray} (hs : s.size ≤ maxLen) {V : World} (hV : V.heap[b]? = w.heap[b]?) :
    (Instr.lookup t (.map (some b)) (.string s) false).run P V = .ok (f s) V := by
  obtain ⟨D, h1, h2, h3⟩ := h.same hV
  obtain ⟨v, ps, hrun, hv⟩ := h1.lookup (string_keyed hK) ht (hz V) (zd := .held z) (zp := []) rfl (WideMaps.keyOf_string_mk hK hs)
  have e1 := h3 s
  simp only [RV, Option.some.injEq, Prod.mk.injEq] at hv
  rw [← hv.1] at e1
  injection e1 with e1
  rw [← e1]
  exact hrun
theorem StrM.update (h : StrM P K w b n z f) (ht : P.underlying t = some (.map K e)) (hK : P.underlying K = some .string) {s : ByteArray} (hs : s.size ≤ maxLen) (hn : n < maxLen) (v : Value) :
    ∃ w2, (Instr.mapUpdate t (.map (some b)) (.string s) v).run P w = .ok () w2 ∧ StrM P K w2 b (n + 1) z (fun s' => if s' = s then v else f s') ∧ w.grownBy w2 (some b) := by
  obtain ⟨D, h1, h2, h3⟩ := h
  have hlit : WideAt.IsKeyLit (.string s.data.toList) := trivial
  obtain ⟨w2, hrun, o2, g2⟩ := h1.update (string_keyed hK) ht hn (val := v) (d := .held v) (ps := []) (WideMaps.keyOf_string_mk hK hs) rfl
  refine ⟨w2, hrun, ⟨_, o2, h2.put _ _, fun s' => ?_⟩, g2⟩
  show _ = DataW.held (if s' = s then v else f s')
  by_cases he : s' = s
  · subst he
    rw [if_pos rfl]
    exact Maps.atKey_put_same h2 hlit _ _
  · rw [if_neg he, ← h3 s']
    exact Maps.atKey_put_other (fun q => he (by injection q with q; exact str_of_list q)) _ _
end
end Go.Proofs.YtodapiholjeehaaGreatDoor
