/-
  warehouseref22.Join.
-/
import Derived.Test.YtlbhnfnecfllkaaGreatGai
import Derived.Test.YtlbhnfnecfllkaaGreatRepl
import Derived.Test.YtlbhnfnecfllkaaGreatSum
namespace Go.Proofs.YtlbhnfnecfllkaaGreat
open Go.RowKit
set_option linter.unusedSimpArgs false
set_option linter.unusedVariables false

set_option maxHeartbeats 4000000 in
set_option maxRecDepth 100000 in
theorem join_ref (w : World) (A : Option Addr) (n c : Nat) (ps : List Partn) (hx : In w A n c ps) (hn : n ≤ 1000) (hr : ∀ p ∈ ps, p.rows.length ≤ 1000) :
    Calls Tryz.prog 29 #[.slice A n c] w
      fun e w' => (∃ v, e = .returned (.tuple #[v, .int .i64 (joinS ps).1]) ∧ OE w.heap.size w' v (joinS ps).2) ∧ Below w.heap.size w w' := by
  have HBD := hide (flat_bd hr)
  have HRS := hide hr
  have HD := hide (show joinS ps = normS (ps.flatMap Partn.rows) from rfl)
  obtain ⟨R, hR⟩ : ∃ R, joinS ps = R := ⟨_, rfl⟩
  rw [hR] at HD
  rw [hR]
  clear hR hr
  have HIN := hide hx
  have hn63 := hx.le
  clear hx
  go_enter Tryz.func29, Tryz.ntmps29
  go_wp2
  go_loopw [4, 5] (fun v i wr => ∃ (k : Nat) (zs : List Ent), k ≤ n ∧ i = .int .i64 k ∧ zs = (ps.take k).flatMap Partn.rows ∧ OL 63 w.heap.size (fun _ => True) [] wr v zs ∧ Below w.heap.size w wr) (fun _ i _ => n - (RowKit.intOf i).toNat)
  case atStart => exact ⟨0, [], Nat.zero_le _, rfl, by simp, OL.nil (Nat.le_refl _), Below.refl _ _⟩
  case round =>
    obtain ⟨k, zs, hk, rfl, hzs, ho, hb⟩ := hrel
    have hzl : zs.length ≤ k * 1000 := by rw [hzs]; exact HBD.out k
    have HZ := hide hzs
    have HO := hide ho
    have HB := hide hb
    clear hzs ho hb
    by_cases hlt : k < n
    · obtain ⟨b, off, p, rfl, hB, HX, A', n', c', e0, e1, e2, e3⟩ := HIN.out.part hlt
      have e0 := bat HB.out hB e0
      have e1 := bat HB.out hB e1
      have hpl := HRS.out p (mem_of_drop HX.out)
      obtain ⟨cs, h1, h2, h3, h4⟩ := cells_old e2 rfl HB.out
      have H1 := hide h1
      have H2 := hide h2
      have H3 := hide h3
      have H4 := hide h4
      have hn1 : n' ≤ 1000 := by omega
      have HZ2 := hide (flat_snoc HX.out)
      rw [← HZ.out] at HZ2
      have k0 : (0 : Int) ≤ (k : Int) := by omega
      have k1 : (k : Int) < (n : Int) := by omega
      clear h1 h2 h3 h4 hpl e2
      go_wp2_with (at_builtin; refine wpList_append_OL _ rfl _ _ _ rfl elem_ents (by simp) HO.out rfl A' n' c' cs p.rows rfl H3.out H2.out H1.out H4.out (by simp only [maxLen]; omega) (by omega) ?_; intro v1 w9 ho9 hb9 hg9 hat9)
      have HO9 := hide ho9
      have HB9 := hide (HB.out.trans hb9)
      clear ho9 hb9 hg9 hat9
      go_wp2
      go_roundw
      case rel => exact ⟨k + 1, _, by omega, by go_num, HZ2.out.symm, HO9.out, HB9.out⟩
      case measure => simp [RowKit.intOf]; omega
    · have HZ2 : Hid (zs = ps.flatMap Partn.rows) := hide (by rw [HZ.out, List.take_of_length_le (by rw [HIN.out.len]; omega)])
      have HD2 : Hid (R = normS zs) := hide (by rw [HD.out, HZ2.out])
      obtain ⟨A5, c5, hv, hin5⟩ := HO.out.inn
      subst hv
      have hl5 : zs.length ≤ 1048576 := by omega
      have HI5 := hide hin5
      clear hin5 hzl
      obtain ⟨m5, hm5⟩ : ∃ m5, m5 = zs.length := ⟨_, rfl⟩
      rw [← hm5] at HI5 hl5 ⊢
      clear hm5
      go_wp2_with fail
      refine (normalize_ref _ A5 m5 c5 zs (by exact HI5.out) hl5).mono ?_
      rintro e w11 ⟨⟨v6, m6, zs6, rfl, hf6, hn6⟩, hb11⟩
      have HO6 := hide ((hf6.ol hb11.size).rebase HB.out.size)
      have HN6 := hide (normed_S hn6)
      have HB11 := hide (below_trans HB.out hb11)
      clear hf6 hn6 hb11
      obtain rfl := HD2.out.trans HN6.out
      go_wp2
      go_ret2
      exact ⟨⟨_, rfl, HO6.out⟩, HB11.out⟩
end Go.Proofs.YtlbhnfnecfllkaaGreat
