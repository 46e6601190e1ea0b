/-
  check.text, check.picked; warehouseref28.pick.
-/
import Derived.Test.YtodapiholjeehaaGreatDoorGaj
import Derived.Test.YtodapiholjeehaaGreatDoorPck
namespace Go.Proofs.YtodapiholjeehaaGreatDoor
open Go.RowKit
set_option linter.unusedSimpArgs false
set_option linter.unusedVariables false
def textS (row : List Val) : ByteArray := ⟨(encS row).2.toArray⟩
set_option maxRecDepth 100000 in
theorem conv_own {w : World} {B n c : Nat} {A : Option Addr} {bs : List UInt8} (h : OB B w (.slice A n c) bs) (hl : bs.length = n) :
    (convert 154 9 (.slice A n c)).run Tryz.prog w = .ok (.string ⟨bs.toArray⟩) w := by
  obtain ⟨cs, h1, h2⟩ := h.own
  obtain rfl := bytes_of h2
  rcases h1.2 with ⟨e, hz⟩ | ⟨g, cap, cur, e, hb, hh, r1, r2, r3, r4⟩
  · injection e with e1 e2 e3
    subst e1 e2 e3
    obtain rfl : bs = [] := List.eq_nil_of_length_eq_zero hl
    rw [run_convert_bytes_string w 154 9 5 none 0 0 Tryz.underlying154 Tryz.underlying5 Tryz.underlying9]
    rfl
  · injection e with e1 e2 e3
    subst e1 e2 e3
    refine run_convert_bytes_back w 154 9 5 ⟨g, 0, none⟩ _ bs Tryz.underlying154 Tryz.underlying5 Tryz.underlying9 fun j hj => ?_
    rw [add_at, Nat.zero_add, cell_of_row w g _ cur _ (0, 0) hh]
    have h3 : (cur.toList.take (bs.length * 1))[j]? = (bs.map fun b => Value.int .u8 b.toNat)[j]? := by rw [← r4]; rfl
    rw [List.getElem?_take_of_lt (by omega)] at h3
    rw [← Array.getElem?_toList, h3]
    simp [hj]
set_option maxRecDepth 100000 in
theorem text_any (w : World) (A : Option Addr) (n c : Nat) (row : List Val) (hx : In w A n c row) :
    Calls Tryz.prog 127 #[.slice A n c] w fun e w' => e = .returned (.string (textS row)) ∧ Below w.heap.size w w' := by
  have HT := hide (show textS row = ⟨(encS row).2.toArray⟩ from rfl)
  generalize textS row = R at *
  go_enter Tryz.func127, Tryz.ntmps127
  go_wp2_with fail
  refine (encode_any _ A n c row (by exact hx)).mono ?_
  rintro e w1 ⟨⟨v, rfl, ho⟩, hb⟩
  obtain ⟨A1, c1, rfl⟩ := ho.form
  have HCV := conv_own ho rfl
  rw [← HT.out] at HCV
  have HB := hide hb
  clear ho hb HT
  go_wp2
  go_ret
  exact ⟨rfl, HB.out⟩
def pickN (cols : List Col) (names : List ByteArray) (row : List Val) : List Val := pickV row (indsS cols names).2
theorem inds_len (cols : List Col) (names : List ByteArray) : (indsS cols names).2.length ≤ names.length := by
  rw [indsS]
  split
  · exact Nat.zero_le _
  · simp
theorem pickV_len (row : List Val) (ks : List Int) : (pickV row ks).length = ks.length := by rw [pickV, List.length_map]
set_option maxRecDepth 100000 in
theorem picked_any (w : World) (A : Option Addr) (n c : Nat) (cols : List Col) (hx : In w A n c cols) (A2 : Option Addr) (n2 c2 : Nat) (names : List ByteArray) (hy : In w A2 n2 c2 names) (A3 : Option Addr) (n3 c3 : Nat) (row : List Val) (hz : In w A3 n3 c3 row) (hn : n ≤ 1048576) (hn2 : n2 ≤ 4096) :
    Calls Tryz.prog 93 #[.slice A n c, .slice A2 n2 c2, .slice A3 n3 c3] w
      fun e w' => (∃ A' m c', e = .returned (.slice A' m c') ∧ OL 85 w.heap.size (fun _ => False) [] w' (.slice A' m c') (pickN cols names row) ∧ (pickN cols names row).length = m ∧ m ≤ n2) ∧ Below w.heap.size w w' := by
  have HL := hide (inds_len cols names)
  have HP := hide (show pickN cols names row = pickV row (indsS cols names).2 from rfl)
  have HLY := hide hy.len
  have hII := fun W hx hy => indices_any W A n c cols hx A2 n2 c2 names hy (by omega) hn
  obtain ⟨ke, hke⟩ : ∃ k, indsS cols names = k := ⟨_, rfl⟩
  rw [hke] at HL HP hII
  obtain ⟨R, hR⟩ : ∃ R, pickN cols names row = R := ⟨_, rfl⟩
  rw [hR] at HP
  rw [hR]
  clear hke hR
  obtain ⟨ke, ks⟩ := ke
  have HII := hide hII
  clear hII
  go_enter Tryz.func93, Tryz.ntmps93
  have HX := hide hx
  clear hx
  have HY := hide hy
  clear hy
  have HZ := hide hz
  clear hz
  go_wp2_with fail
  refine (HII.out _ (by exact HX.out) (by exact HY.out)).mono ?_
  rintro e w1 ⟨⟨v, rfl, ho⟩, hb1⟩
  obtain ⟨A4, c4, rfl⟩ := ho.form
  have hkl : ks.length ≤ n2 := by rw [← HLY.out]; exact HL.out
  obtain ⟨m, hm⟩ : ∃ m, ks.length = m := ⟨_, rfl⟩
  have hI := ho.inn
  obtain ⟨A9, c9, e9, h9⟩ := hI
  injection e9 with e1 e2 e3
  subst e1 e3
  rw [hm] at h9 hkl ⊢
  have HM := hide hm
  clear ho e2 hm
  have HX := hide (HX.out.below hb1)
  have HY := hide (HY.out.below hb1)
  have HZ := hide (HZ.out.below hb1)
  have LST1 := hide hb1
  have SG1 := hide hb1
  clear hb1
  have HK := hide h9
  clear h9
  go_wp2_with fail
  refine (pick_any _ A3 n3 c3 row (by exact HZ.out) A4 m c4 ks (by exact HK.out) (by omega)).mono ?_
  rintro e w2 ⟨⟨A5, c5, rfl, ho2⟩, hb2⟩
  have HO2 := hide (ho2.rebase SG1.out.size)
  have HX := hide (HX.out.below hb2)
  have HY := hide (HY.out.below hb2)
  have HZ := hide (HZ.out.below hb2)
  have HK := hide (HK.out.below hb2)
  have LST2 := hide hb2
  have SG2 := hide (below_trans SG1.out hb2)
  clear hb2
  clear ho2
  go_wp2
  go_ret
  exact ⟨⟨A5, m, c5, rfl, by rw [HP.out]; exact HO2.out, by rw [HP.out, pickV_len, HM.out], hkl⟩, SG2.out⟩
end Go.Proofs.YtodapiholjeehaaGreatDoor
