/-
  Days of zones: Floor, local days, the checks. warehouseref4.offset and local. Plain law: the value of a well-typed expression fits its type; what each operator's operands then are. No program is in sight. warehouseref4.day. zone.dayAt, zone.Day, warehouseref4.Day: both days are dayS.
-/
import Derived.Test.YtmnhahilbbnkkaaDoorZone
import Derived.Test.YtmnhahilbbnkkaaDoorGac
import Derived.Test.YtmnhahilbbnkkaaDoorGaa
namespace Go.Proofs.YtmnhahilbbnkkaaDoor
open Go.RowKit
set_option linter.unusedSimpArgs false
set_option linter.unusedVariables false

theorem local_any (t o : Int) (h1 : -4611686018427387904 ≤ t) (h2 : t ≤ 4611686018427387904) (h3 : -840 ≤ o) (h4 : o ≤ 840) (w : World) : Calls Tryd.prog 96 #[.int .i64 t, .int .i64 o] w fun e w' => e = .returned (.int .i64 (localDay t o)) ∧ w = w' := by
  by_cases h : t + o < 0
  · go_enter Tryd.func96, Tryd.ntmps96
    go_wp2
    all_goals (first | (exfalso; go_light; omega) | (go_ret; exact ⟨ret_int (by simp [localDay, h]), rfl⟩))
  · have h' : 0 ≤ t + o := by omega
    go_enter Tryd.func96, Tryd.ntmps96
    go_wp2
    all_goals (first | (exfalso; go_light; omega) | (go_ret; exact ⟨ret_int (by rw [localDay, if_neg (by omega)]), rfl⟩))
theorem zcheck_any (w : World) (A : Option Addr) (n c : Nat) (z : Zone) (hx : In w A n c z.shifts) (ho : I64 z.offset) (t : Int) :
    Calls Tryd.prog 81 #[.agg #[.string z.name, .int .i64 z.offset, .slice A n c], .int .i64 t] w fun e w' => e = .returned (.int .i64 (dayErr z t)) ∧ Below w.heap.size w w' := by
  go_enter Tryd.func81, Tryd.ntmps81
  go_wp2_with fail
  refine (zone_any _ A n c z (hx.below (by first | exact below_alloc | exact Below.refl _ _)) ho).mono ?_
  rintro e w1 ⟨rfl, hb1⟩
  have hbb : Below w.heap.size w w1 := by first | exact hb1 | exact below_trans below_alloc hb1
  clear hb1
  by_cases h0 : zoneErr z = 0
  · have HD : Hid (dayErr z t = if t < 0 ∨ 575999999 < t then 1 else 0) := hide (by rw [dayErr, if_neg (by simp [h0])])
    rw [h0]
    clear h0
    go_wp2
    all_goals (go_ret; refine ⟨ret_int ?_, hbb⟩; rw [HD.out]; go_light; (try simp only [decide_eq_true_eq, decide_eq_false_iff_not] at *); first | (rw [if_pos (by omega)]) | (rw [if_neg (by omega)]))
  · have HD : Hid (dayErr z t = zoneErr z) := hide (by rw [dayErr, if_pos h0])
    have q : (zoneErr z != 0) = true := by simpa using h0
    clear h0
    go_wp2
    go_ret
    exact ⟨ret_int HD.out.symm, hbb⟩
end Go.Proofs.YtmnhahilbbnkkaaDoor

namespace Go.Proofs.YtmnhahilbbnkkaaDoor
open Go.RowKit
set_option linter.unusedSimpArgs false
set_option linter.unusedVariables false

theorem shift_off {l : List Shift} {k : Nat} (h : firstShift l k (l.drop k) = 0) : ∀ s ∈ l.drop k, -840 ≤ s.offset ∧ s.offset ≤ 840 ∧ 1 ≤ s.at_ ∧ s.at_ ≤ 575999999 := by
  have key : ∀ (r : List Shift) (k : Nat), firstShift l k r = 0 → ∀ s ∈ r, -840 ≤ s.offset ∧ s.offset ≤ 840 ∧ 1 ≤ s.at_ ∧ s.at_ ≤ 575999999 := by
    intro r
    induction r with
    | nil => intro k _ s hs; cases hs
    | cons x r ih =>
      intro k h s hs
      rw [firstShift] at h
      split at h
      · contradiction
      · rename_i h0
        have h0 : shiftErr l k x = 0 := by omega
        rcases List.mem_cons.1 hs with rfl | hs
        · rw [shiftErr] at h0
          split at h0
          · omega
          · rename_i hn
            have h3 : offOk s.offset = true := by
              cases hq : offOk s.offset
              · exact absurd (.inr (.inr hq)) hn
              · rfl
            simp [offOk] at h3
            have h1 : ¬ s.at_ < 1 := fun q => hn (.inl q)
            have h2 : ¬ 575999999 < s.at_ := fun q => hn (.inr (.inl q))
            omega
        · exact ih (k + 1) h s hs
  exact key _ k h
theorem offL_bd (t : Int) : ∀ (l : List Shift) (o : Int), (∀ s ∈ l, -840 ≤ s.offset ∧ s.offset ≤ 840) → -840 ≤ o ∧ o ≤ 840 → -840 ≤ offL t l o ∧ offL t l o ≤ 840
  | [], o, _, h => h
  | s :: l, o, h, ho => by
    rw [offL]
    refine offL_bd t l _ (fun q hq => h q (by simp [hq])) ?_
    split
    · exact h s (by simp)
    · exact ho
theorem zone_bd {z : Zone} (hz : zoneErr z = 0) : (-840 ≤ z.offset ∧ z.offset ≤ 840) ∧ ∀ s ∈ z.shifts, -840 ≤ s.offset ∧ s.offset ≤ 840 ∧ 1 ≤ s.at_ ∧ s.at_ ≤ 575999999 := by
  rw [zoneErr] at hz
  split at hz
  · omega
  · split at hz
    · omega
    · rename_i h1 h2
      refine ⟨?_, shift_off (k := 0) hz⟩
      have h3 : offOk z.offset = true := by
        cases hq : offOk z.offset
        · exact absurd hq h2
        · rfl
      simpa [offOk] using h3
end Go.Proofs.YtmnhahilbbnkkaaDoor

namespace Go.Proofs.YtmnhahilbbnkkaaDoor
set_option linter.unusedVariables false
set_option linter.unusedSimpArgs false

def Has (k : Kd) (v : Val) : Prop := valid v = true ∧ (v.kind = k.kind ∨ (v.kind = 0 ∧ k.null = true))
def KdOk (k : Kd) : Prop := 0 ≤ k.kind ∧ k.kind ≤ 4 ∧ (k.kind = 0 → k.null = true)
def Fit2 : List Kd → List Val → Prop
  | [], [] => True
  | k :: ks, v :: vs => (KdOk k ∧ Has k v) ∧ Fit2 ks vs
  | _, _ => False
theorem Fit2.len : ∀ {ks : List Kd} {vs : List Val}, Fit2 ks vs → ks.length = vs.length
  | [], [], _ => rfl
  | _ :: _, _ :: _, h => by rw [List.length_cons, List.length_cons, Fit2.len h.2]
  | [], _ :: _, h => h.elim
  | _ :: _, [], h => h.elim
theorem Fit2.take : ∀ {ks : List Kd} {vs : List Val} (n : Nat), Fit2 ks vs → Fit2 (ks.take n) (vs.take n)
  | [], [], _, _ => by simp [Fit2]
  | _ :: _, _ :: _, 0, _ => trivial
  | _ :: _, _ :: _, n + 1, h => ⟨h.1, Fit2.take n h.2⟩
  | [], _ :: _, _, h => h.elim
  | _ :: _, [], _, h => h.elim
theorem Fit2.drop : ∀ {ks : List Kd} {vs : List Val} (n : Nat), Fit2 ks vs → Fit2 (ks.drop n) (vs.drop n)
  | [], [], _, _ => by simp [Fit2]
  | _ :: _, _ :: _, 0, h => h
  | _ :: _, _ :: _, n + 1, h => Fit2.drop n h.2
  | [], _ :: _, _, h => h.elim
  | _ :: _, [], _, h => h.elim
theorem Fit2.push {k : Kd} {v : Val} (hk : KdOk k ∧ Has k v) : ∀ {ks : List Kd} {vs : List Val}, Fit2 ks vs → Fit2 (ks ++ [k]) (vs ++ [v])
  | [], [], _ => ⟨hk, trivial⟩
  | _ :: _, _ :: _, h => ⟨h.1, Fit2.push hk h.2⟩
  | [], _ :: _, h => h.elim
  | _ :: _, [], h => h.elim
theorem Fit2.valid : ∀ {ks : List Kd} {vs : List Val}, Fit2 ks vs → ∀ v ∈ vs, valid v = true
  | [], [], _, _, h => by cases h
  | k :: ks, x :: vs, h, v, hv => by
    rcases List.mem_cons.1 hv with rfl | hv
    · exact h.1.2.1
    · exact Fit2.valid h.2 v hv
  | [], _ :: _, h, _, _ => h.elim
  | _ :: _, [], h, _, _ => h.elim

/-! ### Valid values -/
theorem empty_toList : (⟨#[]⟩ : ByteArray).toList = [] := by rw [ByteArray.toList_eq]
theorem noStr_empty : noStr ⟨#[]⟩ = true := by rw [noStr, empty_toList]; rfl
theorem valid_null : valid nullV = true := by simp [valid, nullV, noStr_empty]
theorem valid_boolV (b : Bool) : valid (boolV b) = true := by cases b <;> simp [valid, boolV, noStr_empty]
theorem valid_numV (n : Int) (ok : Bool) (h : ok = true → smallI n = true) : valid (numV n ok) = true := by
  cases ok
  · exact valid_null
  · have := h rfl
    simp [smallI] at this
    simp [numV, valid, noStr_empty]
    omega
theorem valid_momV (n : Int) : valid (momV n) = true := by
  rw [momV]
  split
  · exact valid_null
  · simp [valid, noStr_empty]; omega
theorem small_add {a b : Int} : (addX a b).2 = true → smallI (addX a b).1 = true := by
  rw [addX]; split
  · rename_i h; intro _; simp [Bool.and_eq_true] at h; exact h.2
  · intro h; cases h
theorem small_sub {a b : Int} : (subX a b).2 = true → smallI (subX a b).1 = true := by
  rw [subX]; split
  · rename_i h; intro _; simp [Bool.and_eq_true] at h; exact h.2
  · intro h; cases h
theorem small_mul {a b : Int} : (mulX a b).2 = true → smallI (mulX a b).1 = true := by
  rw [mulX]; split
  · rename_i h; intro _; simp [Bool.and_eq_true] at h; exact h.2
  · intro h; cases h
theorem fdiv_bd {a b : Int} (ha : -1073741824 ≤ a ∧ a ≤ 1073741824) (hb : b ≠ 0) : -1073741824 ≤ a.fdiv b ∧ a.fdiv b ≤ 1073741824 := by
  have key : ∀ (a b : Int), 0 < b → -1073741824 ≤ a → a ≤ 1073741824 → -1073741824 ≤ a.fdiv b ∧ a.fdiv b ≤ 1073741824 := by
    intro a b hb h1 h2
    rw [Int.fdiv_eq_ediv_of_nonneg _ (by omega)]
    constructor
    · rw [Int.le_ediv_iff_mul_le hb]
      have : (-1073741824 : Int) * b ≤ -1073741824 * 1 := Int.mul_le_mul_of_nonpos_left (by omega) (by omega)
      omega
    · have : a / b < 1073741825 := by
        rw [Int.ediv_lt_iff_lt_mul hb]
        have : (1073741825 : Int) * 1 ≤ 1073741825 * b := Int.mul_le_mul_of_nonneg_left (by omega) (by omega)
        omega
      omega
  rcases Int.lt_or_gt_of_ne hb with h | h
  · have := key (-a) (-b) (by omega) (by omega) (by omega)
    rw [Int.neg_fdiv_neg] at this
    exact this
  · exact key a b (by omega) ha.1 ha.2
theorem fmod_bd {a b : Int} (hb : -1073741824 ≤ b ∧ b ≤ 1073741824) (h0 : b ≠ 0) : -1073741824 ≤ a.fmod b ∧ a.fmod b ≤ 1073741824 := by
  rcases Int.lt_or_gt_of_ne h0 with h | h
  · have h1 := Int.fmod_nonneg_of_pos (-a) (b := -b) (by omega)
    have h2 := Int.fmod_lt_of_pos (-a) (b := -b) (by omega)
    rw [Int.neg_fmod_neg] at h1 h2
    omega
  · have h1 := Int.fmod_nonneg_of_pos a (b := b) (by omega)
    have h2 := Int.fmod_lt_of_pos a (b := b) (by omega)
    omega
theorem small_div {a b : Int} : (divX a b).2 = true → smallI (divX a b).1 = true := by
  rw [divX]; split
  · rename_i h; intro _
    simp [smallI] at h
    have := fdiv_bd (a := a) (b := b) (by omega) h.2
    simp [smallI]; omega
  · intro h; cases h
theorem small_mod {a b : Int} : (modX a b).2 = true → smallI (modX a b).1 = true := by
  rw [modX]; split
  · rename_i h; intro _
    simp [smallI] at h
    have := fmod_bd (a := a) (b := b) (by omega) h.2
    simp [smallI]; omega
  · intro h; cases h
theorem localDay_bd {t o : Int} (ht : t ≤ 575999999) (ho : o ≤ 840) : localDay t o ≤ 400001 := by
  unfold localDay; split <;> omega
theorem dayFrom_bd {t : Int} (ht : t ≤ 575999999) : ∀ (l : List Shift) (best o : Int), (∀ s ∈ l, s.offset ≤ 840 ∧ s.at_ ≤ 575999999) → o ≤ 840 → 0 ≤ best → best ≤ 400001 → 0 ≤ dayFrom t l best o ∧ dayFrom t l best o ≤ 400001
  | [], best, o, _, ho, h0, h1 => by
    have := localDay_bd ht ho
    rw [dayFrom]; omega
  | s :: l, best, o, h, ho, h0, h1 => by
    have hs := h s (by simp)
    have h2 := localDay_bd ht ho
    have h3 := localDay_bd (t := s.at_ - 1) (o := o) (by omega) ho
    rw [dayFrom]
    split
    · omega
    · exact dayFrom_bd ht l _ _ (fun q hq => h q (by simp [hq])) hs.1 (by omega) (by omega)
theorem dayAt_bd {z : Zone} (hz : zoneErr z = 0) {t : Int} (ht : t ≤ 575999999) : 0 ≤ dayAt z t ∧ dayAt z t ≤ 400001 := by
  obtain ⟨h1, h2⟩ := zone_bd hz
  exact dayFrom_bd ht z.shifts 0 z.offset (fun s hs => ⟨(h2 s hs).2.1, (h2 s hs).2.2.2⟩) (by omega) (by omega) (by omega)
theorem dayS_small (z : Zone) (t : Int) : smallI (dayS z t).1 = true := by
  rw [dayS]
  split
  · rfl
  · rename_i h
    have h : dayErr z t = 0 := by omega
    rw [dayErr] at h
    split at h
    · omega
    · split at h
      · omega
      · have := dayAt_bd (z := z) (by omega) (t := t) (by omega)
        simp [smallI]; omega

theorem valid_ok {v : Val} (h : valid v = true) : v.ok := by
  obtain ⟨k, n, s⟩ := v
  have e : ∀ s : ByteArray, noStr s = true → Str s := by
    intro s hs
    rw [noStr, List.isEmpty_iff] at hs
    have : s.size = s.toList.length := by rw [ByteArray.toList_eq]; rfl
    unfold Str; rw [this, hs]; exact Nat.zero_le _
  rw [valid] at h
  simp only at h
  refine ⟨?_, ?_, ?_⟩ <;> simp only
  · unfold I64; (repeat' split at h) <;> first | omega | (subst_vars; omega) | (cases h)
  · unfold I64; (repeat' split at h) <;> simp at h <;> omega
  · (repeat' split at h) <;> simp at h <;> first | exact e _ h.2 | exact e _ h.1 | (unfold Str; omega)
theorem valid_kind {v : Val} (h : valid v = true) : 0 ≤ v.kind ∧ v.kind ≤ 4 := by
  rw [valid] at h
  (repeat' split at h) <;> first | omega | (cases h)
theorem valid_null_eq {v : Val} (h : valid v = true) (h0 : v.kind = 0) : v = nullV := by
  obtain ⟨k, n, s⟩ := v
  simp only at h0
  subst h0
  simp [valid, noStr] at h
  obtain ⟨h1, h2⟩ := h
  subst h1
  have : s = ⟨#[]⟩ := by
    rw [ByteArray.toList_eq] at h2
    obtain ⟨⟨l⟩⟩ := s
    simp at h2
    subst h2
    rfl
  subst this
  rfl
theorem has_zero {k : Kd} {v : Val} (hk : KdOk k) (h : Has k v) (h0 : v.kind = 0) : k.null = true := by
  rcases h.2 with h1 | h1
  · exact hk.2.2 (by omega)
  · exact h1.2
theorem has_fits {k : Kd} {v : Val} (hk : KdOk k) (h : Has k v) {j : Int} (hf : fits k j = true) : v.kind = j ∨ v.kind = 0 := by
  simp [fits] at hf
  rcases h.2 with h1 | h1
  · omega
  · exact .inr h1.1
theorem has_mk {k : Int} {b : Bool} {v : Val} (hv : valid v = true) (h : v.kind = k ∨ (v.kind = 0 ∧ b = true)) : Has ⟨k, b⟩ v := ⟨hv, h⟩
theorem has_null {k : Kd} (h : k.null = true) : Has k nullV := ⟨valid_null, .inr ⟨rfl, h⟩⟩
theorem numV_kind (n : Int) (ok : Bool) : (numV n ok).kind = 2 ∨ (numV n ok).kind = 0 := by cases ok <;> simp [numV, nullV]
theorem momV_kind (n : Int) : (momV n).kind = 4 ∨ (momV n).kind = 0 := by rw [momV]; split <;> simp [nullV]
theorem common_kd {x y : Kd} (h : (common x y).2 = true) : (x.kind = (common x y).1 ∨ x.kind = 0) ∧ (y.kind = (common x y).1 ∨ y.kind = 0) := by
  rw [common] at h ⊢
  split
  · rename_i h0; exact ⟨.inr h0, .inl rfl⟩
  · rename_i h0
    rw [if_neg h0] at h
    simp [fits] at h
    exact ⟨.inl rfl, h⟩
theorem common_rng {x y : Kd} (hx : KdOk x) (hy : KdOk y) : 0 ≤ (common x y).1 ∧ (common x y).1 ≤ 4 := by
  rw [common]; split
  · exact ⟨hy.1, hy.2.1⟩
  · exact ⟨hx.1, hx.2.1⟩
theorem common_zero {x y : Kd} (h : (common x y).2 = true) (h0 : (common x y).1 = 0) : x.kind = 0 ∧ y.kind = 0 := by
  have := common_kd h
  omega

theorem un_sound {zs : List Zone} {op : Int} {nm : ByteArray} {x : Kd} {v : Val} (hop : op = 2 ∨ op = 3 ∨ op = 16 ∨ op = 19 ∨ op = 20) (hx : KdOk x) (hv : Has x v) (h : (unKd op x).2 = true) :
    KdOk (unKd op x).1 ∧ Has (unKd op x).1 (unV zs op nm v) := by
  by_cases h0 : v.kind = 0
  · have hn := has_zero hx hv h0
    rcases hop with rfl | rfl | rfl | rfl | rfl
    · simp [unKd, unV, h0, KdOk]; exact has_null hn
    · simp [unKd, unV, h0, KdOk]; exact has_null hn
    · simp [unKd, unV, h0, KdOk]; exact has_mk (valid_boolV _) (.inl rfl)
    · simp [unKd, unV, h0, KdOk]; exact has_null hn
    · simp [unKd, unV, h0, KdOk]; exact has_null hn
  · rcases hop with rfl | rfl | rfl | rfl | rfl
    · simp [unKd, unV, h0, KdOk]; exact has_mk (valid_boolV _) (.inl rfl)
    · have hk := (has_fits hx hv (j := 2) (by simpa [unKd] using h)).resolve_right h0
      have hs : (subX 0 v.num).2 = true := by
        have h1 := hv.1
        rw [valid, if_neg h0, if_neg (by omega), if_pos hk] at h1
        simp at h1
        rw [subX, if_pos (by simp [smallI]; omega)]
      simp [unKd, unV, h0, KdOk, hs]
      exact has_mk (valid_numV _ _ fun _ => small_sub hs) (.inl rfl)
    · simp [unKd, unV, h0, KdOk]; exact has_mk (valid_boolV _) (.inl rfl)
    · have hk := (has_fits hx hv (j := 3) (by simpa [unKd] using h)).resolve_right h0
      have hs : v.str.size ≤ 64 := by
        have h1 := hv.1
        rw [valid, if_neg h0, if_neg (by omega), if_neg (by omega), if_pos hk] at h1
        simp at h1
        exact h1.2
      simp [unKd, unV, h0, KdOk]
      exact has_mk (valid_numV _ _ fun _ => by simp [smallI]; omega) (.inl rfl)
    · simp [unKd, unV, h0, KdOk]
      exact has_mk (valid_numV _ _ fun _ => dayS_small _ _) (.inl rfl)
theorem bool_pick {v : Val} (hv : valid v = true) (h : v.kind = 1 ∨ v.kind = 0) : truth v = -1 ∨ truth v = 0 ∨ truth v = 1 := by
  rw [truth]
  split
  · rename_i q
    rw [valid, if_neg (by omega), if_pos q.1] at hv
    simp at hv
    omega
  · exact .inl rfl
theorem logic_sound {a b : Val} {s : Int} {x y : Kd} (hx : KdOk x) (ha : Has x a) (hy : KdOk y) (hb : Has y b) (fx : fits x 1 = true) (fy : fits y 1 = true) : Has ⟨1, x.null || y.null⟩ (logicV a b s) := by
  rw [logicV]
  split
  · exact has_mk (valid_boolV _) (.inl rfl)
  · split
    · rename_i h1 h2
      refine has_mk valid_null (.inr ⟨rfl, ?_⟩)
      have key : ∀ {k : Kd} {v : Val}, KdOk k → Has k v → fits k 1 = true → truth v < 0 → k.null = true := by
        intro k v hk hv hf ht
        rcases has_fits hk hv hf with h3 | h3
        · exfalso
          rw [truth, if_pos ⟨h3, hv.1⟩] at ht
          have h4 := hv.1
          rw [valid, if_neg (by omega), if_pos h3] at h4
          simp at h4
          omega
        · exact has_zero hk hv h3
      rcases h2 with h2 | h2
      · rw [key hx ha fx h2]; rfl
      · rw [key hy hb fy h2]; simp
    · exact has_mk (valid_boolV _) (.inl rfl)
theorem bin_sound {zs : List Zone} {n : Node} {x y : Kd} {a b : Val} (hop : (4 ≤ n.op ∧ n.op ≤ 15) ∨ n.op = 18) (hx : KdOk x) (ha : Has x a) (hy : KdOk y) (hb : Has y b) (h : (binKd n.op x y).2 = true) :
    KdOk (binKd n.op x y).1 ∧ Has (binKd n.op x y).1 (opV zs n [a, b]) := by
  obtain ⟨op, v, nm, ar⟩ := n
  simp only at hop h ⊢
  by_cases h14 : op = 14
  · subst h14
    simp [binKd] at h
    simp [binKd, opV, KdOk]
    exact logic_sound hx ha hy hb h.1 h.2
  by_cases h15 : op = 15
  · subst h15
    simp [binKd] at h
    simp [binKd, opV, KdOk]
    exact logic_sound hx ha hy hb h.1 h.2
  by_cases h18 : op = 18
  · subst h18
    simp [binKd] at h
    have hc := common_kd h
    have hr := common_rng hx hy
    have hz := common_zero h
    simp only [binKd, opV]
    refine ⟨⟨hr.1, hr.2, fun h0 => ?_⟩, ?_⟩
    · simp only [Int.reduceEq, or_self, if_false, if_true] at h0 ⊢
      have := hz h0
      simp [hx.2.2 this.1, hy.2.2 this.2]
    · simp only [Int.reduceEq, or_self, if_false, if_true]
      by_cases ha0 : a.kind = 0
      · rw [if_pos ha0]
        have hxn := has_zero hx ha ha0
        refine has_mk hb.1 ?_
        rcases hb.2 with h1 | h1
        · rcases hc.2 with h2 | h2
          · exact .inl (by omega)
          · exact .inr ⟨by omega, by simp [hxn, hy.2.2 h2]⟩
        · exact .inr ⟨h1.1, by simp [hxn, h1.2]⟩
      · rw [if_neg ha0]
        refine has_mk ha.1 ?_
        rcases ha.2 with h1 | h1
        · rcases hc.1 with h2 | h2
          · exact .inl (by omega)
          · omega
        · omega
  have hop' : 4 ≤ op ∧ op ≤ 13 := by omega
  have hko : KdOk (binKd op x y).1 := by
    have h4 : op = 4 ∨ op = 5 ∨ op = 6 ∨ op = 7 ∨ op = 8 ∨ op = 9 ∨ op = 10 ∨ op = 11 ∨ op = 12 ∨ op = 13 := by omega
    rcases h4 with rfl | rfl | rfl | rfl | rfl | rfl | rfl | rfl | rfl | rfl <;> simp [binKd] <;> (repeat' split) <;> simp [KdOk]
  refine ⟨hko, ?_⟩
  simp only [opV]
  rw [if_neg h14, if_neg h15, if_neg h18]
  by_cases h0 : a.kind = 0 ∨ b.kind = 0
  · rw [if_pos h0]
    refine has_null ?_
    have hn : x.null = true ∨ y.null = true := by
      rcases h0 with h0 | h0
      · exact .inl (has_zero hx ha h0)
      · exact .inr (has_zero hy hb h0)
    have hn' : (x.null || y.null) = true := by simpa using hn
    have h4 : op = 4 ∨ op = 5 ∨ op = 6 ∨ op = 7 ∨ op = 8 ∨ op = 9 ∨ op = 10 ∨ op = 11 ∨ op = 12 ∨ op = 13 := by omega
    rcases h4 with rfl | rfl | rfl | rfl | rfl | rfl | rfl | rfl | rfl | rfl <;> simp [binKd] <;> (repeat' split) <;> first | exact hn' | rfl | (simp; done) | simpa using hn
  · rw [if_neg h0]
    have ha0 : a.kind ≠ 0 := fun q => h0 (.inl q)
    have hb0 : b.kind ≠ 0 := fun q => h0 (.inr q)
    have hax : a.kind = x.kind := ha.2.resolve_right fun q => ha0 q.1
    have hby : b.kind = y.kind := hb.2.resolve_right fun q => hb0 q.1
    have num : ∀ n ok, (ok = true → smallI n = true) → Has ⟨2, true⟩ (numV n ok) := fun n ok hh => has_mk (valid_numV n ok hh) ((numV_kind n ok).elim .inl fun q => .inr ⟨q, rfl⟩)
    have h4 : op = 4 ∨ op = 5 ∨ op = 6 ∨ op = 7 ∨ op = 8 ∨ op = 9 ∨ op = 10 ∨ op = 11 ∨ op = 12 ∨ op = 13 := by omega
    rcases h4 with rfl | rfl | rfl | rfl | rfl | rfl | rfl | rfl | rfl | rfl
    · simp only [binKd, binV, arithV, Int.reduceEq, or_self, if_false, if_true]
      by_cases hx4 : x.kind = 4
      · rw [if_pos hx4, if_pos (by omega)]
        exact has_mk (valid_momV _) ((momV_kind _).elim .inl fun q => .inr ⟨q, rfl⟩)
      · rw [if_neg hx4, if_neg (by omega)]
        exact num _ _ small_add
    · simp only [binKd, binV, arithV, Int.reduceEq, or_self, if_false, if_true] at h ⊢
      by_cases hy4 : y.kind = 4
      · rw [if_pos hy4] at h ⊢
        have hx4 : a.kind = 4 := (has_fits hx ha h).resolve_right ha0
        rw [if_neg (by omega)]
        have va := ha.1
        have vb := hb.1
        rw [valid, if_neg ha0, if_neg (by omega), if_neg (by omega), if_neg (by omega), if_pos hx4] at va
        rw [valid, if_neg hb0, if_neg (by omega), if_neg (by omega), if_neg (by omega), if_pos (by omega)] at vb
        simp at va vb
        have hs : (subX a.num b.num).2 = true := by rw [subX, if_pos (by simp [smallI]; omega)]
        rw [hs]
        exact has_mk (valid_numV _ _ fun _ => small_sub hs) (.inl rfl)
      · rw [if_neg hy4] at h ⊢
        by_cases hx4 : x.kind = 4
        · rw [if_pos hx4] at h ⊢
          have hb2 : b.kind = 2 := (has_fits hy hb h).resolve_right hb0
          rw [if_pos ⟨by omega, hb2⟩]
          exact has_mk (valid_momV _) ((momV_kind _).elim .inl fun q => .inr ⟨q, rfl⟩)
        · rw [if_neg hx4] at h ⊢
          rw [if_neg (by omega)]
          exact num _ _ small_sub
    · simp only [binKd, binV, arithV, Int.reduceEq, or_self, or_false, false_or, or_true, true_or, if_false, if_true]
      exact num _ _ small_mul
    · simp only [binKd, binV, arithV, Int.reduceEq, or_self, or_false, false_or, or_true, true_or, if_false, if_true]
      exact num _ _ small_div
    · simp only [binKd, binV, arithV, Int.reduceEq, or_self, or_false, false_or, or_true, true_or, if_false, if_true]
      exact num _ _ small_mod
    · simp only [binKd, binV, Int.reduceEq, or_self, if_false, if_true]
      split
      · exact has_null rfl
      · rename_i hs
        exact has_mk (by simp [valid]; simpa using hs) (.inl rfl)
    · simp only [binKd, binV, Int.reduceEq, or_self, if_false, if_true]
      exact has_mk (valid_boolV _) (.inl rfl)
    · simp only [binKd, binV, Int.reduceEq, or_self, if_false, if_true]
      exact has_mk (valid_boolV _) (.inl rfl)
    · simp only [binKd, binV, Int.reduceEq, or_self, if_false, if_true]
      exact has_mk (valid_boolV _) (.inl rfl)
    · simp only [binKd, binV, Int.reduceEq, or_self, if_false, if_true]
      exact has_mk (valid_boolV _) (.inl rfl)
theorem if_sound {zs : List Zone} {n : Node} {y z : Kd} {a b c : Val} {m : List Val} (hy : KdOk y) (hb : Has y b) (hz : KdOk z) (hc : Has z c) (h : (common y z).2 = true) :
    KdOk ⟨(common y z).1, y.null || z.null⟩ ∧ Has ⟨(common y z).1, y.null || z.null⟩ (opV zs n (a :: b :: c :: m)) := by
  have hcm := common_kd h
  have hr := common_rng hy hz
  have h0 := common_zero h
  refine ⟨⟨hr.1, hr.2, fun q => ?_⟩, ?_⟩
  · have := h0 q
    simp [hy.2.2 this.1]
  · have one : ∀ {k : Kd} {v : Val}, KdOk k → Has k v → (k.kind = (common y z).1 ∨ k.kind = 0) → (k.null = true → (y.null || z.null) = true) → Has ⟨(common y z).1, y.null || z.null⟩ v := by
      intro k v hk hv hcm hn
      refine has_mk hv.1 ?_
      rcases hv.2 with h1 | h1
      · rcases hcm with h2 | h2
        · exact .inl (by omega)
        · exact .inr ⟨by omega, hn (hk.2.2 h2)⟩
      · exact .inr ⟨h1.1, hn h1.2⟩
    simp only [opV]
    split
    · exact one hy hb hcm.1 (fun q => by simp [q])
    · exact one hz hc hcm.2 (fun q => by simp [q])
end Go.Proofs.YtmnhahilbbnkkaaDoor

namespace Go.Proofs.YtmnhahilbbnkkaaDoor
open Go.RowKit
set_option linter.unusedSimpArgs false
set_option linter.unusedVariables false

end Go.Proofs.YtmnhahilbbnkkaaDoor

namespace Go.Proofs.YtmnhahilbbnkkaaDoor
open Go.RowKit
set_option linter.unusedSimpArgs false
set_option linter.unusedVariables false

set_option maxHeartbeats 1000000 in
set_option maxRecDepth 100000 in
theorem dayAt_any (w : World) (A : Option Addr) (n c : Nat) (z : Zone) (hx : In w A n c z.shifts) (hz : zoneErr z = 0) (t : Int) (ht0 : 0 ≤ t) (ht1 : t ≤ 575999999) :
    Calls Tryd.prog 82 #[.agg #[.string z.name, .int .i64 z.offset, .slice A n c], .int .i64 t] w fun e w' => e = .returned (.int .i64 (dayAt z t)) ∧ Below w.heap.size w w' := by
  have HB1 := hide (zone_bd hz).2
  have hoff := (zone_bd hz).1
  have h63 := hx.le
  obtain ⟨nm, off0, xs⟩ := z
  simp only at hx hoff ⊢
  have HD : Hid (dayAt ⟨nm, off0, xs⟩ t = dayFrom t xs 0 off0) := hide rfl
  clear hz
  go_enter Tryd.func82, Tryd.ntmps82
  go_wp2
  obtain ⟨w1, hw1⟩ : ∃ w1, w1 = w.alloc (.cells #[.string nm, .int .i64 off0, .slice A n c] 52) := ⟨_, rfl⟩
  have g0 : w1.cell? ⟨w.heap.size, 0, none⟩ = some (.string nm) := by rw [hw1]; simp [go_sem]
  have g1 : w1.cell? ⟨w.heap.size, 1, none⟩ = some (.int .i64 off0) := by rw [hw1]; simp [go_sem]
  have g2 : w1.cell? ⟨w.heap.size, 2, none⟩ = some (.slice A n c) := by rw [hw1]; simp [go_sem]
  have hb1 : Below w.heap.size w w1 := by rw [hw1]; exact below_alloc
  rw [← hw1]
  clear hw1
  go_quiet (fail)
  go_wp2
  go_loopw [5, 6, 14] (fun d o i wr => ∃ (k : Nat) (q r : Int), k ≤ n ∧ i = .int .i64 k ∧ d = .int .i64 q ∧ o = .int .i64 r ∧ (-840 ≤ r ∧ r ≤ 840) ∧ dayFrom t xs 0 off0 = dayFrom t (xs.drop k) q r ∧ Below w.heap.size w wr) (fun _ _ i _ => n - (intOf i).toNat)
  case atStart => exact ⟨0, 0, off0, Nat.zero_le _, rfl, rfl, rfl, hoff, rfl, below_drewN hb1 _⟩
  case round =>
    obtain ⟨k, q, r, hk, rfl, rfl, rfl, ⟨hr0, hr1⟩, heq, hb⟩ := hrel
    have HE := hide heq
    have HB := hide hb
    clear heq hb
    by_cases hlt : k < n
    · obtain ⟨b, off, x, rfl, hBk, HX, f0, f1, f2, f3⟩ := (hx.below HB.out).shift hlt
      obtain ⟨x1, x2, x3, x4⟩ := HB1.out x (List.mem_of_mem_drop (i := k) (by rw [HX.out]; simp))
      have k0 : (0 : Int) ≤ (k : Int) := by omega
      have k1 : (k : Int) < (n : Int) := by omega
      have hw : IntKind.i64.wrap (x.at_ - 1) = x.at_ - 1 := IntWalk.i64_in _ (by omega)
      by_cases hs : t < x.at_
      · have HN : Hid (dayFrom t xs 0 off0 = max q (localDay t r)) := hide (by rw [HE.out, HX.out, dayFrom, if_pos hs])
        go_wp2_with (go_at_call 96; refine (local_any _ _ (by omega) (by omega) hr0 hr1 _).mono ?_; rintro e w' ⟨rfl, rfl⟩)
        all_goals
          go_ret
          exact ⟨ret_int (by rw [HD.out, HN.out]; first | rfl | omega), below_trans HB.out below_alloc⟩
      · have HN : Hid (dayFrom t xs 0 off0 = dayFrom t (xs.drop (k + 1)) (max q (localDay (x.at_ - 1) r)) x.offset) := hide (by rw [HE.out, HX.out, dayFrom, if_neg hs])
        go_wp2
        go_region_held3 (fun V => V.cell? ⟨wr.heap.size, 0, none⟩ = some (.int .i64 x.at_) ∧ V.cell? ⟨wr.heap.size, 1, none⟩ = some (.int .i64 x.offset)) (first | go_keep | fail) (first | (go_at_call 96; (try rw [hw]); refine (local_any _ _ (by omega) (by omega) hr0 hr1 _).mono ?_; rintro e w' ⟨rfl, rfl⟩))
        go_wp2
        all_goals
          go_roundw
          case rel => exact ⟨k + 1, _, _, by omega, by go_num, rfl, rfl, ⟨x1, x2⟩, by first | exact HN.out | (rw [HN.out]; congr 1; omega), below_drewN (below_trans HB.out below_alloc) _⟩
          case measure => simp [intOf]; omega
    · have HN : Hid (dayFrom t xs 0 off0 = max q (localDay t r)) := hide (by rw [HE.out, drop_end hx.len (by omega), dayFrom])
      go_wp2_with (go_at_call 96; refine (local_any _ _ (by omega) (by omega) hr0 hr1 _).mono ?_; rintro e w' ⟨rfl, rfl⟩)
      all_goals
        go_ret
        exact ⟨ret_int (by rw [HD.out, HN.out]; first | rfl | omega), HB.out⟩
set_option maxHeartbeats 1000000 in
set_option maxRecDepth 100000 in
theorem day_any (w : World) (A : Option Addr) (n c : Nat) (z : Zone) (hx : In w A n c z.shifts) (ho : I64 z.offset) (t : Int) :
    Calls Tryd.prog 65 #[.agg #[.string z.name, .int .i64 z.offset, .slice A n c], .int .i64 t] w fun e w' => e = .returned (.tuple #[.int .i64 (dayS z t).1, .int .i64 (dayS z t).2]) ∧ Below w.heap.size w w' := by
  go_enter Tryd.func65, Tryd.ntmps65
  go_wp2_with fail
  refine (zcheck_any _ A n c z (hx.below below_alloc) ho t).mono ?_
  rintro e w1 ⟨rfl, hb1⟩
  have hbb := below_trans below_alloc hb1
  have g0 := bat (b := w.heap.size) (o := 0) (v := .string z.name) hb1 (by simp) (by simp [go_sem])
  have g1 := bat (b := w.heap.size) (o := 1) (v := .int .i64 z.offset) hb1 (by simp) (by simp [go_sem])
  have g2 := bat (b := w.heap.size) (o := 2) (v := .slice A n c) hb1 (by simp) (by simp [go_sem])
  clear hb1
  by_cases h0 : dayErr z t = 0
  · have HD : Hid (dayS z t = (dayAt z t, 0)) := hide (by rw [dayS, if_neg (by simp [h0])])
    have h1 : zoneErr z = 0 ∧ 0 ≤ t ∧ t ≤ 575999999 := by
      rw [dayErr] at h0
      split at h0
      · omega
      · split at h0
        · omega
        · omega
    obtain ⟨h1, h2, h3⟩ := h1
    have H1 := hide h1
    rw [h0]
    clear h0 h1
    go_wp2_with fail
    refine (dayAt_any _ A n c z (hx.below hbb) H1.out t h2 h3).mono ?_
    rintro e w2 ⟨rfl, hb2⟩
    go_wp2
    go_ret2
    exact ⟨by rw [HD.out]; rfl, below_trans hbb hb2⟩
  · have HD : Hid (dayS z t = (0, dayErr z t)) := hide (by rw [dayS, if_pos h0])
    have q : (dayErr z t != 0) = true := by simpa using h0
    clear h0
    go_wp2
    go_ret2
    exact ⟨by rw [HD.out]; rfl, hbb⟩
end Go.Proofs.YtmnhahilbbnkkaaDoor
