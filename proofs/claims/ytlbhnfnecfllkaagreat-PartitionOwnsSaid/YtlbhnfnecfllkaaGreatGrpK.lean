/-
  The keys of a map of groups, sorted, are the days of the list. No program is in sight.
-/
import Derived.Lib.SlKeysI
import Derived.Test.YtlbhnfnecfllkaaGreatGrp
namespace Go.Proofs.YtlbhnfnecfllkaaGreat
open Go.RowKit Go.Maps
set_option linter.unusedSimpArgs false
set_option linter.unusedVariables false
/-! ### The keys of the map, sorted, are the days -/
theorem sorted_asc {H : Type} {P : Program} {K : TypeId} {R : Value → Option (DataW H × List MemPlace)} {w : World} {b n : Nat} {D : DataW H} (h : w.ownsMap P K R b n D) (hK : P.underlying K = some (.int .i64)) {ks : List Int} (hp : ks.Perm (intKeys D)) :
    Asc (ks.mergeSort fun x y => decide (x ≤ y)) ∧ (∀ d, d ∈ (ks.mergeSort fun x y => decide (x ≤ y)) ↔ Maps.has D (.int .i64 d) = true) ∧ ∀ d ∈ (ks.mergeSort fun x y => decide (x ≤ y)), I64 d := by
  have hent := h.entries (int_keyed hK)
  have hko := h.keysOf
  have hwf := intKeys_wf h hK
  obtain ⟨es, hD, hpw, _⟩ := hent
  obtain ⟨es', hD', hko⟩ := hko
  obtain rfl : es = es' := by rw [hD] at hD'; simpa using hD'
  subst hD
  have hk : ∀ p ∈ es, ∃ x, p.1 = .int .i64 x := fun p hp => by
    obtain ⟨v, hv⟩ := hko p hp
    obtain ⟨x, _, hx, _⟩ := Maps.keyOf_i64 hK hv
    exact ⟨x, hx⟩
  have hnd : (intKeys (.map es)).Nodup := by
    show (es.map fun p => Go.intOf p.1).Nodup
    refine List.pairwise_map.2 (hpw.imp_of_mem fun {p q} hp' hq' hne e => hne ?_)
    obtain ⟨a, ha⟩ := hk p hp'
    obtain ⟨b, hb⟩ := hk q hq'
    rw [ha, hb] at e ⊢
    exact congrArg _ e
  have hm : ∀ x, x ∈ intKeys (.map es) ↔ Maps.has (.map es) (.int .i64 x) = true := fun x => by
    rw [Maps.has_eq, List.any_eq_true]
    show x ∈ es.map (fun p => Go.intOf p.1) ↔ _
    rw [List.mem_map]
    constructor
    · rintro ⟨p, hp', rfl⟩
      obtain ⟨a, ha⟩ := hk p hp'
      exact ⟨p, hp', by rw [ha]; simp [Lit.sameKey, Go.intOf]⟩
    · rintro ⟨p, hp', hs⟩
      obtain ⟨a, ha⟩ := hk p hp'
      rw [ha] at hs
      exact ⟨p, hp', by rw [ha]; simpa [Lit.sameKey, Go.intOf] using hs⟩
  have hpp : (ks.mergeSort fun x y => decide (x ≤ y)).Perm (intKeys (.map es)) := (List.mergeSort_perm _ _).trans hp
  have hnd2 : (ks.mergeSort fun x y => decide (x ≤ y)).Nodup := hpp.nodup_iff.2 hnd
  have hs : (ks.mergeSort fun x y => decide (x ≤ y)).Pairwise (fun a b => decide (a ≤ b) = true) :=
    List.pairwise_mergeSort (fun a b c h1 h2 => by simp only [decide_eq_true_eq] at *; omega) (fun a b => by simp only [Bool.or_eq_true, decide_eq_true_eq]; omega) ks
  refine ⟨?_, fun d => by rw [hpp.mem_iff, hm d], fun d hd => wf_i64 (hwf d (hpp.mem_iff.1 hd))⟩
  unfold Asc
  unfold List.Nodup at hnd2
  refine List.Pairwise.imp₂ (fun a b h1 h2 => ?_) hs hnd2
  simp only [decide_eq_true_eq] at h1
  omega
end Go.Proofs.YtlbhnfnecfllkaaGreat
