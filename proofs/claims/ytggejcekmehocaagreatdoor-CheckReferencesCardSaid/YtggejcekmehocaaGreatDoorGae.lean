/-
  Names with a dot, reserved words: strings.Cut at one byte, schema.IsQualified, token.Reserved, and the reference's. strings.Cut at ".", schema.IsQualified and warehouseref5.IsQualified: both return isQual.
-/
import Derived.Lib.Strings
import Derived.Lib.Slices
import Derived.Lib.Walk
import Derived.Lib.Bytealg
import Derived.Test.YtggejcekmehocaaGreatDoorGac
import Derived.Test.YtggejcekmehocaaGreatDoorGaa
namespace Go.Proofs.YtggejcekmehocaaGreatDoor
open Go.RowKit
set_option linter.unusedSimpArgs false
set_option linter.unusedVariables false
theorem hasStr_cons (x : ByteArray) (l : List ByteArray) (s : ByteArray) : hasStr (x :: l) s = (x.toList == s.toList || hasStr l s) := rfl
def strIx (name : ByteArray) : Nat → List ByteArray → Int
  | _, [] => -1
  | k, x :: l => if name.toList == x.toList then k else strIx name (k + 1) l
theorem strIx_has (name : ByteArray) : ∀ (l : List ByteArray) (k : Nat), decide (0 ≤ strIx name k l) = hasStr l name
  | [], k => rfl
  | x :: l, k => by
    rw [strIx, hasStr_cons, show (x.toList == name.toList) = (name.toList == x.toList) from Bool.beq_comm]
    cases h : (name.toList == x.toList)
    · simp only [Bool.false_eq_true, if_false, Bool.false_or]; exact strIx_has name l (k + 1)
    · simp
set_option maxRecDepth 100000 in
theorem strIx_any (w : World) (A : Option Addr) (n c : Nat) (xs : List ByteArray) (hx : In w A n c xs) (name : ByteArray) :
    Calls Tryz.prog 163 #[.slice A n c, .string name] w fun e w' => e = .returned (.int .i64 (strIx name 0 xs)) ∧ w = w' := by
  have h63 := hx.le
  go_enter Tryz.func163, Tryz.ntmps163
  go_wp2
  go_loop [8] (fun i => ∃ k : Nat, k ≤ n ∧ i = .int .i64 k ∧ strIx name 0 xs = strIx name k (xs.drop k)) (fun i => n - (intOf i).toNat)
  case atStart => exact ⟨0, Nat.zero_le _, rfl, rfl⟩
  case round =>
    obtain ⟨k, hk, rfl, heq⟩ := hrel
    have HE := hide heq
    clear heq
    by_cases hlt' : k < n
    · obtain ⟨b, off, x, rfl, hB, HX, e0, e1⟩ := hx.str hlt'
      cases hz : (name.toList == x.toList)
      · go_wp2
        go_round
        case rel => exact ⟨k + 1, by omega, by go_num, by rw [HE.out, HX.out, strIx, if_neg (by simp [hz])]⟩
        case measure => simp [intOf]; omega
      · go_wp2
        go_ret
        exact ⟨ret_int (by rw [HE.out, HX.out, strIx, if_pos hz]), rfl⟩
    · go_wp2
      go_ret
      exact ⟨ret_int (by rw [HE.out, drop_end hx.len (by omega), strIx]), rfl⟩
theorem hasStr_any (w : World) (A : Option Addr) (n c : Nat) (xs : List ByteArray) (hx : In w A n c xs) (name : ByteArray) :
    Calls Tryz.prog 126 #[.slice A n c, .string name] w fun e w' => e = .returned (.bool (hasStr xs name)) ∧ w = w' := by
  go_enter Tryz.func126, Tryz.ntmps126
  have HS := hide (strIx_has name xs 0)
  go_wp2_with (go_at_call 163; refine (strIx_any _ _ _ _ xs hx name).mono ?_; rintro e w' ⟨rfl, rfl⟩)
  go_ret
  exact ⟨ret_bool HS.out, rfl⟩
def Words (w : World) : Prop := ∃ A n c, w.cell? ⟨0, 0, none⟩ = some (.slice A n c) ∧ In w A n c words ∧ 0 < w.heap.size
theorem Words.below {w w' : World} (h : Words w) (hb : Below w.heap.size w w') : Words w' := by
  obtain ⟨A, n, c, h1, h2, h3⟩ := h
  exact ⟨A, n, c, bat hb h3 h1, h2.below hb, Nat.lt_of_lt_of_le h3 hb.size⟩
theorem reserved_any (s : ByteArray) (w : World) (hw : Words w) : Calls Tryz.prog 251 #[.string s] w fun e w' => e = .returned (.bool (isRes s)) ∧ w = w' := by
  obtain ⟨A, n, c, h1, h2, h3⟩ := hw
  go_enter Tryz.func251, Tryz.ntmps251
  go_wp2_with (go_at_call 126; refine (hasStr_any _ _ _ _ words h2 s).mono ?_; rintro e w' ⟨rfl, rfl⟩)
  go_ret
  exact ⟨rfl, rfl⟩
end Go.Proofs.YtggejcekmehocaaGreatDoor

namespace Go.Proofs.YtggejcekmehocaaGreatDoor
open Go.RowKit
set_option linter.unusedSimpArgs false
set_option linter.unusedVariables false
theorem dot_index : ∀ l : List UInt8, Lib.indexByte l 46 = if dotFrom l < l.length then (dotFrom l : Int) else -1
  | [] => rfl
  | c :: l => by
    have ih := dot_index l
    rw [Lib.indexByte, dotFrom]
    by_cases h : c = 46
    · subst h; simp
    · have hb : (c == 46) = false := by simpa using h
      rw [hb, ih, if_neg h]
      by_cases hl : dotFrom l < l.length
      · have e : (((dotFrom l : Nat) : Int) == -1) = false := by simp
        simp [hl, e]
      · simp [hl]
theorem dotAt_eq (s : ByteArray) : dotAt s = dotFrom s.data.toList := by rw [dotAt, ByteArray.toList_eq]
theorem dot_len (s : ByteArray) : s.data.toList.length = s.size := rfl
set_option maxRecDepth 100000 in
theorem lite_indexByte (s : ByteArray) (c : Int) (w : World) :
    Calls Tryz.prog 260 #[.string s, .int .u8 c] w fun e w' => e = .returned (.int .i64 (Lib.indexByte s.data.toList c.toNat.toUInt8)) ∧ w = w' := by
  go_enter Tryz.func260, Tryz.ntmps260
  go_wp2
  rw [run_callFunc_extern Tryz.func264 (by kernel_rfl) (by kernel_rfl) (by kernel_rfl) (e := Extern.BytealgIndexByte.indexByte) (by kernel_rfl), Lib.run_indexByteString]
  simp only [Result.andThen]
  rw [Oper.upon_value]
  go_wp2
  go_ret
  exact ⟨rfl, rfl⟩
set_option maxRecDepth 100000 in
set_option maxHeartbeats 1000000 in
theorem lite_index (s : ByteArray) (w : World) :
    Calls Tryz.prog 259 #[.string s, .string ⟨#[46]⟩] w fun e w' => e = .returned (.int .i64 (Lib.indexByte s.data.toList 46)) ∧ w = w' := by
  go_enter Tryz.func259, Tryz.ntmps259
  go_wp2_with (go_at_call 260; refine (lite_indexByte _ _ _).mono ?_; rintro e w' ⟨rfl, rfl⟩)
  · have h : ([46] == s.toList) = true := by assumption
    go_ret
    refine ⟨ret_int ?_, rfl⟩
    rw [ByteArray.toList_eq] at h
    rw [← eq_of_beq h]
    rfl
  · go_ret
    exact ⟨ret_int rfl, rfl⟩
set_option maxRecDepth 100000 in
set_option maxHeartbeats 1000000 in
theorem lite_cut_miss (s : ByteArray) (w : World) (h : ¬ dotAt s < s.size) :
    Calls Tryz.prog 258 #[.string s, .string ⟨#[46]⟩] w fun e w' => e = .returned (.tuple #[.string s, .string ⟨#[]⟩, .bool false]) ∧ Below w.heap.size w w' := by
  have hix : Lib.indexByte s.data.toList 46 = -1 := by rw [dot_index, dot_len, ← dotAt_eq, if_neg h]
  have HX := hide hix
  clear hix
  go_enter Tryz.func258, Tryz.ntmps258
  go_wp2_with (go_at_call 259; refine (lite_index _ _).mono ?_; rintro e w' ⟨rfl, rfl⟩; rw [HX.out])
  go_ret3
  exact ⟨rfl, Below.refl _ _⟩
set_option maxRecDepth 100000 in
set_option maxHeartbeats 1000000 in
theorem lite_cut_hit (s : ByteArray) (w : World) (hs : Str s) (d : Nat) (hd : dotAt s = d) (h : d < s.size) :
    Calls Tryz.prog 258 #[.string s, .string ⟨#[46]⟩] w fun e w' => e = .returned (.tuple #[.string (s.extract 0 d), .string (s.extract (d + 1) s.size), .bool true]) ∧ Below w.heap.size w w' := by
  have hix : Lib.indexByte s.data.toList 46 = (d : Int) := by rw [dot_index, dot_len, ← dotAt_eq, hd, if_pos h]
  have HX := hide hix
  clear hix hd
  unfold Str at hs
  have c1 : (0 : Int) ≤ ↑d := by omega
  have c2 : (↑d : Int) ≤ ↑s.size := by omega
  have c3 : (0 : Int) ≤ ↑d + 1 := by omega
  have c4 : (↑d + 1 : Int) ≤ ↑s.size := by omega
  have c5 : ((d : Int) + 1).toNat = d + 1 := by omega
  have c6 : IntKind.i64.wrap ((d : Int) + 1) = (d : Int) + 1 := IntWalk.i64_in _ (by omega)
  go_enter Tryz.func258, Tryz.ntmps258
  go_wp2_with (go_at_call 259; refine (lite_index _ _).mono ?_; rintro e w' ⟨rfl, rfl⟩; rw [HX.out])
  go_quiet (fail)
  go_wp2
  go_ret3
  exact ⟨rfl, below_drewN (Below.refl _ _) _⟩
theorem cut_miss (s : ByteArray) (w : World) (h : ¬ dotAt s < s.size) :
    Calls Tryz.prog 256 #[.string s, .string ⟨#[46]⟩] w fun e w' => e = .returned (.tuple #[.string s, .string ⟨#[]⟩, .bool false]) ∧ Below w.heap.size w w' := by
  have H := hide h
  clear h
  go_enter Tryz.func256, Tryz.ntmps256
  go_wp2_with (go_at_call 258; refine (lite_cut_miss s _ H.out).mono ?_; rintro e w1 ⟨rfl, hb1⟩)
  go_ret3
  exact ⟨rfl, hb1⟩
theorem cut_hit (s : ByteArray) (w : World) (hs : Str s) (d : Nat) (hd : dotAt s = d) (h : d < s.size) :
    Calls Tryz.prog 256 #[.string s, .string ⟨#[46]⟩] w fun e w' => e = .returned (.tuple #[.string (s.extract 0 d), .string (s.extract (d + 1) s.size), .bool true]) ∧ Below w.heap.size w w' := by
  have H := hide hd
  clear hd
  go_enter Tryz.func256, Tryz.ntmps256
  go_wp2_with (go_at_call 258; refine (lite_cut_hit s _ hs d H.out h).mono ?_; rintro e w1 ⟨rfl, hb1⟩)
  go_ret3
  exact ⟨rfl, hb1⟩
theorem str_extract {s : ByteArray} (hs : Str s) (a b : Nat) : Str (s.extract a b) := by
  unfold Str at hs ⊢
  have : (s.extract a b).size ≤ s.size := by simp [ByteArray.size_extract]; omega
  omega
set_option maxRecDepth 100000 in
set_option maxHeartbeats 1000000 in
theorem qual_any (s : ByteArray) (hs : Str s) (w : World) :
    Calls Tryz.prog 252 #[.string s] w fun e w' => e = .returned (.bool (isQual s)) ∧ Below w.heap.size w w' := by
  by_cases h : dotAt s < s.size
  · obtain ⟨d, hd⟩ : ∃ d, dotAt s = d := ⟨_, rfl⟩
    have hq : isQual s = (isName (s.extract 0 d) && isName (s.extract (d + 1) s.size)) := by rw [isQual, if_pos h, hd]
    rw [hd] at h
    have HD := hide hd
    have HQ := hide hq
    clear hq hd
    have S1 := str_extract hs 0 d
    have S2 := str_extract hs (d + 1) s.size
    obtain ⟨p, hp⟩ : ∃ p, p = s.extract 0 d := ⟨_, rfl⟩
    obtain ⟨q, hq⟩ : ∃ q, q = s.extract (d + 1) s.size := ⟨_, rfl⟩
    go_enter Tryz.func252, Tryz.ntmps252
    go_wp2_with fail
    refine (cut_hit s _ hs d HD.out h).mono ?_
    rintro e w1 ⟨rfl, hb1⟩
    rw [← hp] at S1 ⊢
    rw [← hq] at S2 ⊢
    have HP : Hid (isQual s = (isName p && isName q)) := hide (by rw [hp, hq]; exact HQ.out)
    clear hp hq HD HQ
    go_wp2_with fail
    refine (isName_any p S1 _).mono ?_
    rintro e w2 ⟨rfl, hb2⟩
    have hbb := below_trans hb1 hb2
    clear hb1 hb2
    cases hn : isName p
    · go_wp2
      go_ret
      exact ⟨ret_bool (by rw [HP.out, hn]; rfl), hbb⟩
    · go_wp2_with fail
      refine (isName_any q S2 _).mono ?_
      rintro e w3 ⟨rfl, hb3⟩
      have hb4 := below_trans hbb hb3
      clear hbb hb3
      go_wp2
      go_ret
      exact ⟨ret_bool (by rw [HP.out, hn]; rfl), hb4⟩
  · have hq : isQual s = isName s := by rw [isQual, if_neg h]
    have HQ := hide hq
    have HD := hide h
    clear hq h
    go_enter Tryz.func252, Tryz.ntmps252
    go_wp2_with fail
    refine (cut_miss s _ HD.out).mono ?_
    rintro e w1 ⟨rfl, hb1⟩
    go_wp2_with fail
    refine (isName_any s hs _).mono ?_
    rintro e w2 ⟨rfl, hb2⟩
    have hbb := below_trans hb1 hb2
    clear hb1 hb2
    cases hn : isName s
    · go_wp2
      go_ret
      exact ⟨ret_bool (by rw [HQ.out, hn]), hbb⟩
    · go_wp2
      go_ret
      exact ⟨ret_bool (by rw [HQ.out, hn]), hbb⟩
end Go.Proofs.YtggejcekmehocaaGreatDoor
