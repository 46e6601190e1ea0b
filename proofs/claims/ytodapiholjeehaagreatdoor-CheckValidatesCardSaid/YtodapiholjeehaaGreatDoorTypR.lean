/-
  warehouseref9.Type: it returns typeS. (Printed by gen_typeR.py.)
-/
import Derived.Deep.RegionLawGrows
import Derived.Test.YtodapiholjeehaaGreatDoorNode
import Derived.Test.YtodapiholjeehaaGreatDoorGag
namespace Go.Proofs.YtodapiholjeehaaGreatDoor
open Go.RowKit
set_option linter.unusedSimpArgs false
set_option linter.unusedVariables false
theorem kdr_info : (Tryz.prog.info? 167).map (fun i => (i.zero, i.size, i.bytes)) = some (some (.agg #[.int .i64 0, .bool false]), 2, 16) := by kernel_rfl
theorem node_any (x : Node) (hsh : shaped x = true) (m : Nat) (hm : arity x.op x.arity = (m : Int)) (w : World) (A : Option Addr) (c : Nat) (xs : List Kd) (hx : In w A m c xs)
    (A1 : Option Addr) (n1 c1 : Nat) (cols : List Col) (hc : In w A1 n1 c1 cols) (A2 : Option Addr) (n2 c2 : Nat) (zs : List Zone) (hz : In w A2 n2 c2 zs) :
    Calls Tryz.prog 121 #[.agg x.cells.toArray, .slice A m c, .slice A1 n1 c1, .slice A2 n2 c2] w fun e w' => e = .returned (.tuple #[.agg (nodeKd cols zs x xs).2.cells.toArray, .int .i64 (nodeKd cols zs x xs).1]) ∧ Below w.heap.size w w' := by
  have hop := fun h1 h21 => shaped_op hsh h1 h21
  obtain ⟨op, ⟨kd, nu, st⟩, nm, ar⟩ := x
  simp only at hop hm
  clear hsh
  by_cases h1 : op = 1
  · subst h1
    exact node_1 kd nu ar st nm w A1 n1 c1 cols hc A2 n2 c2 zs hz A m c xs
  by_cases h21 : op = 21
  · subst h21
    exact node_21 kd nu ar st nm w A1 n1 c1 cols hc A2 n2 c2 zs hz A m c xs
  rcases hop h1 h21 with rfl | ⟨hl, hh⟩
  · have e : m = 0 := by simp [arity] at hm; omega
    subst e
    obtain rfl := hx.len0
    exact node_0 kd nu ar st nm w A1 n1 c1 cols hc A2 n2 c2 zs hz A 0 c
  by_cases h20 : op = 20
  · subst h20
    by_cases hz0 : zoneIx zs nm < 0
    · exact node_20n kd nu ar st nm w A1 n1 c1 cols hc A2 n2 c2 zs hz A m c xs hz0
    · have e : m = 1 := by simp [arity] at hm; omega
      subst e
      obtain ⟨⟨xk, xn⟩, b, off, rfl, rfl⟩ := hx.len1
      cases hok : (unKd 20 ⟨xk, xn⟩).2
      · exact node_20f kd nu ar st nm w A1 n1 c1 cols hc A2 n2 c2 zs hz b off c xk xn hx (by omega) hok
      · exact node_20t kd nu ar st nm w A1 n1 c1 cols hc A2 n2 c2 zs hz b off c xk xn hx (by omega) hok
  by_cases h17 : op = 17
  · subst h17
    have e : m = 3 := by simp [arity] at hm; omega
    subst e
    obtain ⟨⟨xk, xn⟩, ⟨yk, yn⟩, ⟨zk, zn⟩, b, off, rfl, rfl⟩ := hx.len3
    cases yn
    · cases hco : (common ⟨yk, false⟩ ⟨zk, zn⟩).2
      · exact node_17_ff kd nu ar st nm w A1 n1 c1 cols hc A2 n2 c2 zs hz b off c xk xn yk zk zn hx hco
      · cases hf : fits ⟨xk, xn⟩ 1
        · exact node_17_ftf kd nu ar st nm w A1 n1 c1 cols hc A2 n2 c2 zs hz b off c xk xn yk zk zn hx hco hf
        · exact node_17_ftt kd nu ar st nm w A1 n1 c1 cols hc A2 n2 c2 zs hz b off c xk xn yk zk zn hx hco hf
    · cases hco : (common ⟨yk, true⟩ ⟨zk, zn⟩).2
      · exact node_17_tf kd nu ar st nm w A1 n1 c1 cols hc A2 n2 c2 zs hz b off c xk xn yk zk zn hx hco
      · cases hf : fits ⟨xk, xn⟩ 1
        · exact node_17_ttf kd nu ar st nm w A1 n1 c1 cols hc A2 n2 c2 zs hz b off c xk xn yk zk zn hx hco hf
        · exact node_17_ttt kd nu ar st nm w A1 n1 c1 cols hc A2 n2 c2 zs hz b off c xk xn yk zk zn hx hco hf
  by_cases hu : op = 2 ∨ op = 3 ∨ op = 16 ∨ op = 19
  · have e : m = 1 := by rw [arity, if_neg (by omega), if_pos (by omega)] at hm; omega
    subst e
    obtain ⟨⟨xk, xn⟩, b, off, rfl, rfl⟩ := hx.len1
    cases hok : (unKd op ⟨xk, xn⟩).2
    · exact node_un_f op kd nu ar st nm w A1 n1 c1 cols hc A2 n2 c2 zs hz b off c xk xn hx hu hok
    · exact node_un_t op kd nu ar st nm w A1 n1 c1 cols hc A2 n2 c2 zs hz b off c xk xn hx hu hok
  · have e : m = 2 := by rw [arity, if_neg (by omega), if_neg (by omega), if_neg h17, if_neg h21, if_pos (by omega)] at hm; omega
    subst e
    obtain ⟨⟨xk, xn⟩, ⟨yk, yn⟩, b, off, rfl, rfl⟩ := hx.len2
    cases hok : (binKd op ⟨xk, xn⟩ ⟨yk, yn⟩).2
    · exact node_bin_f op kd nu ar st nm w A1 n1 c1 cols hc A2 n2 c2 zs hz b off c xk xn yk yn hx (by omega) hok
    · exact node_bin_t op kd nu ar st nm w A1 n1 c1 cols hc A2 n2 c2 zs hz b off c xk xn yk yn hx (by omega) hok
theorem step_pushN {α : Type} [Flat α] {P : Program} (w : World) {ops : Array Oper} {o : Oper} {a : Act} {K : Act → World → Prop} {Q : Exit → Act → World → Prop} {E : Prop} (hgd : o.guard = none) (s x : Operand) (t : TypeId)
    (ho : o.op = .call { callee := .builtin .append, args := #[s, x], argTypes := #[t, t] })
    (B : Nat) (e : TypeId) (i : TypeInfo) (z : Value) (bytes : Nat) (ht : P.underlying t = some (.slice e)) (hi : P.info? e = some i) (hz : i.zero = some z)
    (hsize : i.size = Rep.size α) (hby : i.bytes = bytes) (hzs : z.cells.size = Rep.size α) (hbm : bytes ≤ 256)
    (A : Option Addr) (c k : Nat) (xs : List α) (hown : Stk B w e A c xs) (hk : k ≤ xs.length) (hs : a.eval s = .slice A k k)
    (y : α) (hy : Flat.ok y) (b : Nat) (hx : a.eval x = .slice (some ⟨b, 0, none⟩) 1 1) (hc : OneAt w b y) (hm : k ≤ 1048576) (hB : B ≤ w.heap.size)
    (h : ∀ A' c' w', Stk B w' e A' c' (xs.take k ++ [y]) → Below w.heap.size w w' → K (a.put o.dst (.slice A' (k + 1) c')) w') :
    if Region.wanted o (yielded ops a.tmps) = true then Oper.wp P o a w K Q else E := by
  have hp := hown.take hk
  have hl : (xs.take k).length = k := by rw [List.length_take]; omega
  refine step_append_grows (P := P) (w := w) hgd s x t ho e i z (Rep.size α) bytes ht hi hz hsize hby hzs Flat.pos A k k ((xs.take k).flatMap Flat.cs) hs (fun hA => by have := hp.none_ hA; omega) (by rw [flat_len, hl]) ?_
    ⟨b, 0, none⟩ 1 1 (Flat.cs y) hx (by rw [Flat.cs_len]; omega) (fun j u hu => by rw [add_at, Nat.zero_add]; exact hc j u hu) (Flat.cs_one y) (by omega) (by simp only [maxLen]; omega) ?_ ?_
  · intro ad hA j u hu
    rcases hp.own.2 with ⟨h2, _⟩ | ⟨g, cap, cur, hv, hB, hh, h4, h5, h6, h7⟩
    · injection h2 with h2; subst h2; cases hA
    · injection hv with hv; subst hv
      injection hA with hA
      subst hA
      rw [add_at, Nat.zero_add, cell_of_row w g j cur e (0, 0) hh, ← Array.getElem?_toList]
      rw [← h7, List.getElem?_take] at hu
      split at hu
      · exact hu
      · cases hu
  · have : (k + 1) * bytes ≤ 1048577 * 256 := Nat.mul_le_mul (by omega) hbm
    omega
  · intro v' w1 h1 h2
    have hb : Below w.heap.size w w1 := (Below.refl w.heap.size w).grown h2 (Nat.le_refl _) (fun g hg => by cases hg)
    have h1' := ownsRow_base h1 hB
    rcases h1'.2 with ⟨_, h5⟩ | ⟨g, cap, cur, hv, hg, r⟩
    · omega
    · subst hv
      refine h _ _ _ ⟨?_, ?_⟩ hb
      · rw [List.length_append, hl, List.flatMap_append]
        have e1 : [y].flatMap Flat.cs = Flat.cs y := by simp
        rw [e1]
        exact h1'
      · intro q hq
        rcases List.mem_append.1 hq with hq | hq
        · exact hp.ok q hq
        · simp at hq; subst hq; exact hy
theorem nodeKd_i64 {cols : List Col} {zs : List Zone} {x : Node} {l : List Kd} {r : Nat} (hx : x.ok) (hc : ∀ c ∈ cols, I64 c.kind) (hl : ∀ k ∈ l, I64 k.kind) : I64 (nodeKd cols zs x (l.drop r)).2.kind := by
  have h0 : I64 0 := by unfold I64; omega
  have hd : I64 (default : Kd).kind := h0
  rw [nodeKd]
  split
  · split
    · exact hd
    · rename_i hi
      obtain ⟨i, c, e1, e2, _⟩ := col_at hi
      simp only
      rw [e1, Int.toNat_natCast, getD_of e2]
      exact hc c (List.mem_of_getElem? e2)
  · (repeat' split) <;> first | exact hd | exact opKd_i64 hx hl
set_option maxHeartbeats 40000000 in
set_option maxRecDepth 100000 in
theorem type_ref (w : World) (A : Option Addr) (n c : Nat) (es : List Node) (hx : In w A n c es) (A1 : Option Addr) (n1 c1 : Nat) (cols : List Col) (hc : In w A1 n1 c1 cols) (hci : ∀ c ∈ cols, I64 c.kind)
    (A2 : Option Addr) (n2 c2 : Nat) (zs : List Zone) (hz : In w A2 n2 c2 zs) :
    Calls Tryz.prog 76 #[.slice A n c, .slice A1 n1 c1, .slice A2 n2 c2] w fun e w' => e = .returned (.tuple #[.int .i64 (typeS es cols zs).2.kind, .bool (typeS es cols zs).2.null, .int .i64 (typeS es cols zs).1]) ∧ Below w.heap.size w w' := by
  have h63 := hx.le
  have h65 := hz.le
  have HCI := hide hci
  clear hci
  obtain ⟨i0, hi, hy0, hy1, hy2⟩ := info_parts kdr_info
  go_enter Tryz.func76, Tryz.ntmps76
  go_wp2_with fail
  refine (exprErr_ref _ _ _ _ es hx).mono ?_
  rintro e w1 ⟨rfl, hb1⟩
  by_cases h0 : ¬ exprErr es = 0
  · have HN : Hid (typeS es cols zs = (exprErr es, default)) := hide (by have hk : checkErr es cols zs = exprErr es := (by rw [checkErr, if_pos h0]); rw [typeS, hk, if_pos h0])
    have q : (exprErr es != 0) = true := by simpa using h0
    clear h0
    go_wp2
    go_ret3
    exact ⟨by rw [HN.out]; rfl, hb1⟩
  replace h0 : exprErr es = 0 := by omega
  have HE := hide (exprErr_loop h0)
  have HE0 := hide h0
  have hn256 : n ≤ 256 := by have := HE.out.1; rw [hx.len] at this; exact this
  rw [h0]
  clear h0
  go_wp2_with fail
  refine (cols_ref _ _ _ _ cols (hc.below hb1)).mono ?_
  rintro e w2 ⟨rfl, rfl⟩
  have hbb := hb1
  clear hb1
  by_cases h2 : ¬ colsErr cols = 0
  · have HN : Hid (typeS es cols zs = (colsErr cols, default)) := hide (by have hk : checkErr es cols zs = colsErr cols := (by rw [checkErr, if_neg (by simp [HE0.out]), if_pos h2]); rw [typeS, hk, if_pos h2])
    have q : (colsErr cols != 0) = true := by simpa using h2
    clear h2
    go_wp2
    go_ret3
    exact ⟨by rw [HN.out]; rfl, hbb⟩
  replace h2 : colsErr cols = 0 := by omega
  have HK : Hid (checkErr es cols zs = firstErr (fun _ z => zoneErr z) 0 zs) := hide (by rw [checkErr, if_neg (by simp [HE0.out]), if_neg (by simp [h2])]; rfl)
  rw [h2]
  clear h2
  go_wp2
  go_loopw [11] (fun i wr => ∃ k : Nat, k ≤ n2 ∧ i = .int .i64 k ∧ firstErr (fun _ z => zoneErr z) 0 zs = firstErr (fun _ z => zoneErr z) k (zs.drop k) ∧ Below w.heap.size w wr) (fun i _ => n2 - (intOf i).toNat)
  case atStart => exact ⟨0, Nat.zero_le _, rfl, rfl, hbb⟩
  case round =>
    obtain ⟨k, hk, rfl, heq, hb⟩ := hrel
    have HQ := hide heq
    clear heq
    by_cases hlt : k < n2
    · obtain ⟨b, off, x, rfl, hB, HX, A', n', c', e0, e1, e2, e3, e4, e5⟩ := (hz.below hb).zone hlt
      go_wp2_with fail
      refine (zone_ref _ A' n' c' x e3 e5).mono ?_
      rintro e w3 ⟨rfl, hb3⟩
      have hb4 := below_trans hb hb3
      clear hb3 e0 e1 e2
      by_cases h3 : zoneErr x = 0
      · have HN : Hid (firstErr (fun _ z => zoneErr z) 0 zs = firstErr (fun _ z => zoneErr z) (k + 1) (zs.drop (k + 1))) := hide (by rw [HQ.out, HX.out]; exact firstErr_zero h3)
        rw [h3]
        clear h3
        go_wp2
        go_roundw
        case rel => exact ⟨k + 1, by omega, by go_num, HN.out, hb4⟩
        case measure => simp [intOf]; omega
      · have HN : Hid (typeS es cols zs = (zoneErr x, default)) := hide (by have hk : checkErr es cols zs = zoneErr x := (by rw [HK.out, HQ.out, HX.out]; exact firstErr_err (f := fun _ z => zoneErr z) (e := zoneErr x) rfl h3); rw [typeS, hk, if_pos h3])
        have q : (zoneErr x != 0) = true := by simpa using h3
        clear h3
        go_wp2
        go_ret3
        exact ⟨by rw [HN.out]; rfl, hb4⟩
    · have HT : Hid (typeS es cols zs = typeLoop cols zs [] es) := hide (by have hk : checkErr es cols zs = 0 := (by rw [HK.out, HQ.out, drop_end hz.len (by omega)]; rfl); rw [typeS, if_neg (by simp [hk])])
      go_wp2
      clear HQ hlt hbb
      go_loopw [13, 14] (fun v i wr => ∃ (k d : Nat) (st : List Kd) (hs : List Int) (B : Option Addr) (cb : Nat), k ≤ n ∧ d ≤ k ∧ i = .int .i64 k ∧ v = .slice B d cb ∧ (typeLoop cols zs [] es = typeLoop cols zs st (es.drop k) ∧ hs.length = d ∧ exprLoop hs (es.drop k) = 0) ∧ KSt 167 w wr st d B cb) (fun _ i _ => n - (intOf i).toNat)
      case atStart => exact ⟨0, 0, [], [], none, 0, Nat.zero_le _, Nat.zero_le _, rfl, rfl, ⟨rfl, rfl, HE.out.2⟩, ⟨Stk.nil_ _ _ _, rfl, hb⟩⟩
      case round =>
        clear hb
        obtain ⟨k, d, st, hs, B, cb, hk, hdk, rfl, rfl, heq, hst⟩ := hrel
        have HQ := hide heq
        have HST := hide hst
        clear heq hst
        by_cases hlt : k < n
        · obtain ⟨b, off, x, rfl, hB, HX, f0, f1, f2, f3, f4, f5, hok⟩ := (hx.below HST.out.below).node hlt
          have HV : Hid (exprLoop hs (x :: es.drop (k + 1)) = 0) := hide (by rw [← HX.out]; exact HQ.out.2.2)
          obtain ⟨m, r, hs', hsh, hm, hm8, rfl, hl', hx'⟩ := exprLoop_inv HV.out HQ.out.2.1
          have HM := hide hm
          have HSH := hide hsh
          have HL' := hide hl'
          have HX' := hide hx'
          have HKI : Hid (I64 (nodeKd cols zs x (st.drop r)).2.kind) := hide (nodeKd_i64 hok HCI.out HST.out.stk.ok)
          clear hm hsh hl' hx' HV hok
          go_wp2_with fail
          refine (arity_ref x _).mono ?_
          rintro e w2 ⟨rfl, hb2⟩
          rw [HM.out]
          have f0 := bat hb2 hB f0
          have f1 := bat hb2 hB f1
          have f2 := bat hb2 hB f2
          have f3 := bat hb2 hB f3
          have f4 := bat hb2 hB f4
          have f5 := bat hb2 hB f5
          have hB2 := Nat.lt_of_lt_of_le hB hb2.size
          have HST2 := hide (HST.out.keep hb2)
          clear hb2
          have hc2 := hc.below HST2.out.below
          have hz2 := hz.below HST2.out.below
          have r0 : (0 : Int) ≤ (r : Int) := by omega
          have r2 : (r : Int) ≤ (r : Int) + (m : Int) := by omega
          obtain ⟨⟨er, kk, kn⟩, hnk⟩ : ∃ q, nodeKd cols zs x (st.drop r) = q := ⟨_, rfl⟩
          rw [hnk] at HKI
          have HNK := hide hnk
          clear hnk
          by_cases her : er = 0
          · subst her
            rcases ops_of HST2.out.stk HST2.out.len with ⟨rfl, hm0⟩ | ⟨hcb, g, rfl, hin⟩
            · have hVB : Below w2.heap.size w2 (w2.alloc (.cells #[.int .i64 0, .bool false] 167)).drew := ((Below.refl _ _).alloc (Nat.le_refl _) _).drew
              have HIN : Hid (In (w2.alloc (.cells #[.int .i64 0, .bool false] 167)).drew B m 0 (st.drop r)) := hide (by rw [List.drop_eq_nil_of_le (by rw [HST.out.len]; omega), hm0]; exact Sl.empty (by omega) (fun _ => rfl))
              have HIN2 : Hid (In w2.drew B m 0 (st.drop r)) := hide (by rw [List.drop_eq_nil_of_le (by rw [HST.out.len]; omega), hm0]; exact Sl.empty (by omega) (fun _ => rfl))
              clear hm0
              have hGv : w2.heap.size < (w2.alloc (.cells #[.int .i64 0, .bool false] 167)).drew.heap.size := by simp
              have hBv : b < (w2.alloc (.cells #[.int .i64 0, .bool false] 167)).drew.heap.size := by simp; omega
              have hbg : ¬ b = w2.heap.size := by omega
              have u0 : (w2.alloc (.cells #[.int .i64 0, .bool false] 167)).drew.cell? ⟨w2.heap.size, 0, none⟩ = some (.int .i64 0) := by simp [go_sem]
              have u1 : (w2.alloc (.cells #[.int .i64 0, .bool false] 167)).drew.cell? ⟨w2.heap.size, 1, none⟩ = some (.bool false) := by simp [go_sem]
              have F0 : (w2.alloc (.cells #[.int .i64 0, .bool false] 167)).drew.frozen? ⟨w2.heap.size, 0, none⟩ = false := by simp [go_sem]
              have F1 : (w2.alloc (.cells #[.int .i64 0, .bool false] 167)).drew.frozen? ⟨w2.heap.size, 1, none⟩ = false := by simp [go_sem]
              have d0 := bat hVB hB2 f0
              have d1 := bat hVB hB2 f1
              have d2 := bat hVB hB2 f2
              have d3 := bat hVB hB2 f3
              have d4 := bat hVB hB2 f4
              have d5 := bat hVB hB2 f5
              go_wp2
              go_region_held3 (fun V => V.cell? ⟨b, off + k * 6, none⟩ = some (.int .i64 x.op) ∧ V.cell? ⟨b, off + k * 6 + 1, none⟩ = some (.int .i64 x.value.kind) ∧ V.cell? ⟨b, off + k * 6 + 2, none⟩ = some (.int .i64 x.value.num) ∧ V.cell? ⟨b, off + k * 6 + 3, none⟩ = some (.string x.value.str) ∧ V.cell? ⟨b, off + k * 6 + 4, none⟩ = some (.string x.name) ∧ V.cell? ⟨b, off + k * 6 + 5, none⟩ = some (.int .i64 x.arity)) (first | exact ⟨f0, f1, f2, f3, f4, f5⟩ | exact ⟨f0', f1', f2', f3', f4', f5'⟩ | exact ⟨d0, d1, d2, d3, d4, d5⟩ | exact ⟨set_far (set_far f0' (.inl hbg)) (.inl hbg), set_far (set_far f1' (.inl hbg)) (.inl hbg), set_far (set_far f2' (.inl hbg)) (.inl hbg), set_far (set_far f3' (.inl hbg)) (.inl hbg), set_far (set_far f4' (.inl hbg)) (.inl hbg), set_far (set_far f5' (.inl hbg)) (.inl hbg)⟩ | exact ⟨bat (b := b) (below_alloc (w := w5)) hB5 f0', bat (b := b) (below_alloc (w := w5)) hB5 f1', bat (b := b) (below_alloc (w := w5)) hB5 f2', bat (b := b) (below_alloc (w := w5)) hB5 f3', bat (b := b) (below_alloc (w := w5)) hB5 f4', bat (b := b) (below_alloc (w := w5)) hB5 f5'⟩ | exact ⟨set_far (set_far (bat (b := b) (below_alloc (w := w5)) hB5 f0') (.inl hb5n)) (.inl hb5n), set_far (set_far (bat (b := b) (below_alloc (w := w5)) hB5 f1') (.inl hb5n)) (.inl hb5n), set_far (set_far (bat (b := b) (below_alloc (w := w5)) hB5 f2') (.inl hb5n)) (.inl hb5n), set_far (set_far (bat (b := b) (below_alloc (w := w5)) hB5 f3') (.inl hb5n)) (.inl hb5n), set_far (set_far (bat (b := b) (below_alloc (w := w5)) hB5 f4') (.inl hb5n)) (.inl hb5n), set_far (set_far (bat (b := b) (below_alloc (w := w5)) hB5 f5') (.inl hb5n)) (.inl hb5n)⟩) (first | (go_at_call 121; refine (node_any x HSH.out m HM.out _ _ _ (st.drop r) HIN.out _ _ _ cols (hc2.below hVB) _ _ _ zs (hz2.below hVB)).mono ?_; rintro e w5 ⟨rfl, hb5⟩; rw [HNK.out]; simp only [Kd.cells]; have hQ : Hid (w2.heap.size = w2.heap.size) := hide rfl; have f0' := bat hb5 hBv d0; have f1' := bat hb5 hBv d1; have f2' := bat hb5 hBv d2; have f3' := bat hb5 hBv d3; have f4' := bat hb5 hBv d4; have f5' := bat hb5 hBv d5; have u0' := bat hb5 hGv u0; have u1' := bat hb5 hGv u1; have F0' := ((bcell hb5).2 _ _ hGv).trans F0; have F1' := ((bcell hb5).2 _ _ hGv).trans F1; have HB5 : Below w2.heap.size w2 w5 := hVB.trans (hb5.mono hVB.size); have hB5 : b < w5.heap.size := Nat.lt_of_lt_of_le hB2 HB5.size; have hb5n : ¬ b = w5.heap.size := (by omega); clear hb5 u0 u1 F0 F1) | (go_at_call 121; refine (node_any x HSH.out m HM.out _ _ _ (st.drop r) HIN2.out _ _ _ cols (hc2.below (Below.refl _ _).drew) _ _ _ zs (hz2.below (Below.refl _ _).drew)).mono ?_; rintro e w5 ⟨rfl, hb5⟩; rw [HNK.out]; simp only [Kd.cells]; have f0' := bat (below_undrew hb5) hB2 f0; have f1' := bat (below_undrew hb5) hB2 f1; have f2' := bat (below_undrew hb5) hB2 f2; have f3' := bat (below_undrew hb5) hB2 f3; have f4' := bat (below_undrew hb5) hB2 f4; have f5' := bat (below_undrew hb5) hB2 f5; have HB5 : Below w2.heap.size w2 w5 := below_undrew hb5; have hB5 : b < w5.heap.size := Nat.lt_of_lt_of_le hB2 HB5.size; have hb5n : ¬ b = w5.heap.size := (by omega); clear hb5 u0 u1 F0 F1))
              · obtain ⟨w4, hw4⟩ : ∃ w4, w4 = w5.alloc (.cells #[.int .i64 kk, .bool kn] 167) := ⟨_, rfl⟩
                have hx4 : Below w2.heap.size w2 w4 := by rw [hw4]; exact HB5.alloc HB5.size _
                have u0 : w4.cell? ⟨w5.heap.size, 0, none⟩ = some (.int .i64 kk) := by rw [hw4]; simp [go_sem]
                have u1 : w4.cell? ⟨w5.heap.size, 1, none⟩ = some (.bool kn) := by rw [hw4]; simp [go_sem]
                rw [← hw4]
                obtain ⟨G, hG⟩ : ∃ G, w5.heap.size = G := ⟨_, rfl⟩
                rw [hG] at u0 u1
                rw [hG]
                clear hw4 hG f0 f1 f2 f3 f4 f5 f0' f1' f2' f3' f4' f5' d0 d1 d2 d3 d4 d5 HIN HIN2 HB5 hVB hGv hBv hB5 hb5n
                have HN : Hid (typeLoop cols zs [] es = typeLoop cols zs (st.take r ++ [⟨kk, kn⟩]) (es.drop (k + 1))) := hide (by rw [HQ.out.1, HX.out, typeLoop_ok HM.out HST.out.len (k := ⟨kk, kn⟩) HNK.out])
                have HSTW := hide (HST2.out.keep hx4)
                have HLE : Hid (r ≤ st.length) := hide (by rw [HST.out.len]; omega)
                have hszW : w.heap.size ≤ w4.heap.size := HSTW.out.below.size
                have hG4 : G < w4.heap.size := lt_of_cell u0
                have r1 : (r : Int) ≤ (r : Int) := by have h1 := HST.out.stk.cap.1; have h2 := HST.out.len; omega
                clear hx4
                go_wp2
                go_region_held3 (fun V => V.cell? ⟨G, 0, none⟩ = some (.int .i64 kk) ∧ V.cell? ⟨G, 1, none⟩ = some (.bool kn)) (first | exact ⟨u0, u1⟩ | exact ⟨bat ((Below.refl _ _).drew.alloc (Nat.le_refl _) _) hG4 u0, bat ((Below.refl _ _).drew.alloc (Nat.le_refl _) _) hG4 u1⟩ | exact ⟨bat hb7 hG7 (bat ((Below.refl _ _).drew.alloc (Nat.le_refl _) _) hG4 u0), bat hb7 hG7 (bat ((Below.refl _ _).drew.alloc (Nat.le_refl _) _) hG4 u1)⟩) (first | (refine step_pushN (α := Kd) _ rfl (.tmp 75) (.tmp 77) 164 rfl w.heap.size 167 i0 _ 16 Tryz.underlying164 hi hy0 hy1 hy2 rfl (by decide) B r r st (HSTW.out.stk.keep ((Below.refl _ _).drew.alloc (Nat.le_refl _) _)) HLE.out rfl ⟨kk, kn⟩ HKI.out w4.heap.size rfl (oneAt_new _ _ _ _ rfl) (by omega) (by simp; omega) ?_; intro A' c' w7 hst7 hb7; have hG7 : G < (World.alloc w4.drew (.cells #[.int .i64 kk, .bool kn] 167)).heap.size := (by simp; omega); have HP : Hid (KSt 167 w w7 (st.take r ++ [⟨kk, kn⟩]) (r + 1) A' c') := hide ⟨hst7, (by rw [List.length_append, List.length_take, Nat.min_eq_left HLE.out]; rfl), (HSTW.out.below.drew.alloc (by simp; omega) _).trans (hb7.mono (by simp; omega))⟩))
                go_wp2
                go_roundw
                case rel => exact ⟨k + 1, r + 1, _, hs', A', c', by omega, by omega, by go_num, rfl, ⟨HN.out, HL'.out, HX'.out⟩, HP.out⟩
                case measure => simp [intOf]; omega
              · obtain ⟨w4, hw4⟩ : ∃ w4, w4 = (w5.setCell ⟨w2.heap.size, 0, none⟩ (.int .i64 kk)).setCell ⟨w2.heap.size, 1, none⟩ (.bool kn) := ⟨_, rfl⟩
                have hx4 : Below w2.heap.size w2 w4 := by rw [hw4]; exact below_set2' HB5 (Nat.le_refl _) _ _
                have u0 : w4.cell? ⟨w2.heap.size, 0, none⟩ = some (.int .i64 kk) := by rw [hw4]; exact set_two u0' u1' 0 _ rfl
                have u1 : w4.cell? ⟨w2.heap.size, 1, none⟩ = some (.bool kn) := by rw [hw4]; exact set_two u0' u1' 1 _ rfl
                rw [← hw4]
                obtain ⟨G, hG⟩ : ∃ G, w2.heap.size = G := ⟨_, rfl⟩
                rw [hG] at u0 u1
                rw [hG]
                clear hw4 hG u0' u1' F0' F1' f0 f1 f2 f3 f4 f5 f0' f1' f2' f3' f4' f5' d0 d1 d2 d3 d4 d5 HIN HIN2 HB5 hVB hGv hBv hB5 hb5n
                have HN : Hid (typeLoop cols zs [] es = typeLoop cols zs (st.take r ++ [⟨kk, kn⟩]) (es.drop (k + 1))) := hide (by rw [HQ.out.1, HX.out, typeLoop_ok HM.out HST.out.len (k := ⟨kk, kn⟩) HNK.out])
                have HSTW := hide (HST2.out.keep hx4)
                have HLE : Hid (r ≤ st.length) := hide (by rw [HST.out.len]; omega)
                have hszW : w.heap.size ≤ w4.heap.size := HSTW.out.below.size
                have hG4 : G < w4.heap.size := lt_of_cell u0
                have r1 : (r : Int) ≤ (r : Int) := by have h1 := HST.out.stk.cap.1; have h2 := HST.out.len; omega
                clear hx4
                go_wp2
                go_region_held3 (fun V => V.cell? ⟨G, 0, none⟩ = some (.int .i64 kk) ∧ V.cell? ⟨G, 1, none⟩ = some (.bool kn)) (first | exact ⟨u0, u1⟩ | exact ⟨bat ((Below.refl _ _).drew.alloc (Nat.le_refl _) _) hG4 u0, bat ((Below.refl _ _).drew.alloc (Nat.le_refl _) _) hG4 u1⟩ | exact ⟨bat hb7 hG7 (bat ((Below.refl _ _).drew.alloc (Nat.le_refl _) _) hG4 u0), bat hb7 hG7 (bat ((Below.refl _ _).drew.alloc (Nat.le_refl _) _) hG4 u1)⟩) (first | (refine step_pushN (α := Kd) _ rfl (.tmp 75) (.tmp 77) 164 rfl w.heap.size 167 i0 _ 16 Tryz.underlying164 hi hy0 hy1 hy2 rfl (by decide) B r r st (HSTW.out.stk.keep ((Below.refl _ _).drew.alloc (Nat.le_refl _) _)) HLE.out rfl ⟨kk, kn⟩ HKI.out w4.heap.size rfl (oneAt_new _ _ _ _ rfl) (by omega) (by simp; omega) ?_; intro A' c' w7 hst7 hb7; have hG7 : G < (World.alloc w4.drew (.cells #[.int .i64 kk, .bool kn] 167)).heap.size := (by simp; omega); have HP : Hid (KSt 167 w w7 (st.take r ++ [⟨kk, kn⟩]) (r + 1) A' c') := hide ⟨hst7, (by rw [List.length_append, List.length_take, Nat.min_eq_left HLE.out]; rfl), (HSTW.out.below.drew.alloc (by simp; omega) _).trans (hb7.mono (by simp; omega))⟩))
                go_wp2
                go_roundw
                case rel => exact ⟨k + 1, r + 1, _, hs', A', c', by omega, by omega, by go_num, rfl, ⟨HN.out, HL'.out, HX'.out⟩, HP.out⟩
                case measure => simp [intOf]; omega
            · have hVB : Below w2.heap.size w2 (w2.alloc (.cells #[.int .i64 0, .bool false] 167)).drew := ((Below.refl _ _).alloc (Nat.le_refl _) _).drew
              have HIN : Hid (In (w2.alloc (.cells #[.int .i64 0, .bool false] 167)).drew (some ⟨g, r * 2, none⟩) m (cb - r) (st.drop r)) := hide (hin.below hVB)
              have HIN2 : Hid (In w2.drew (some ⟨g, r * 2, none⟩) m (cb - r) (st.drop r)) := hide (hin.below (Below.refl _ _).drew)
              clear hin
              have hGv : w2.heap.size < (w2.alloc (.cells #[.int .i64 0, .bool false] 167)).drew.heap.size := by simp
              have hBv : b < (w2.alloc (.cells #[.int .i64 0, .bool false] 167)).drew.heap.size := by simp; omega
              have hbg : ¬ b = w2.heap.size := by omega
              have u0 : (w2.alloc (.cells #[.int .i64 0, .bool false] 167)).drew.cell? ⟨w2.heap.size, 0, none⟩ = some (.int .i64 0) := by simp [go_sem]
              have u1 : (w2.alloc (.cells #[.int .i64 0, .bool false] 167)).drew.cell? ⟨w2.heap.size, 1, none⟩ = some (.bool false) := by simp [go_sem]
              have F0 : (w2.alloc (.cells #[.int .i64 0, .bool false] 167)).drew.frozen? ⟨w2.heap.size, 0, none⟩ = false := by simp [go_sem]
              have F1 : (w2.alloc (.cells #[.int .i64 0, .bool false] 167)).drew.frozen? ⟨w2.heap.size, 1, none⟩ = false := by simp [go_sem]
              have d0 := bat hVB hB2 f0
              have d1 := bat hVB hB2 f1
              have d2 := bat hVB hB2 f2
              have d3 := bat hVB hB2 f3
              have d4 := bat hVB hB2 f4
              have d5 := bat hVB hB2 f5
              go_wp2
              go_region_held3 (fun V => V.cell? ⟨b, off + k * 6, none⟩ = some (.int .i64 x.op) ∧ V.cell? ⟨b, off + k * 6 + 1, none⟩ = some (.int .i64 x.value.kind) ∧ V.cell? ⟨b, off + k * 6 + 2, none⟩ = some (.int .i64 x.value.num) ∧ V.cell? ⟨b, off + k * 6 + 3, none⟩ = some (.string x.value.str) ∧ V.cell? ⟨b, off + k * 6 + 4, none⟩ = some (.string x.name) ∧ V.cell? ⟨b, off + k * 6 + 5, none⟩ = some (.int .i64 x.arity)) (first | exact ⟨f0, f1, f2, f3, f4, f5⟩ | exact ⟨f0', f1', f2', f3', f4', f5'⟩ | exact ⟨d0, d1, d2, d3, d4, d5⟩ | exact ⟨set_far (set_far f0' (.inl hbg)) (.inl hbg), set_far (set_far f1' (.inl hbg)) (.inl hbg), set_far (set_far f2' (.inl hbg)) (.inl hbg), set_far (set_far f3' (.inl hbg)) (.inl hbg), set_far (set_far f4' (.inl hbg)) (.inl hbg), set_far (set_far f5' (.inl hbg)) (.inl hbg)⟩ | exact ⟨bat (b := b) (below_alloc (w := w5)) hB5 f0', bat (b := b) (below_alloc (w := w5)) hB5 f1', bat (b := b) (below_alloc (w := w5)) hB5 f2', bat (b := b) (below_alloc (w := w5)) hB5 f3', bat (b := b) (below_alloc (w := w5)) hB5 f4', bat (b := b) (below_alloc (w := w5)) hB5 f5'⟩ | exact ⟨set_far (set_far (bat (b := b) (below_alloc (w := w5)) hB5 f0') (.inl hb5n)) (.inl hb5n), set_far (set_far (bat (b := b) (below_alloc (w := w5)) hB5 f1') (.inl hb5n)) (.inl hb5n), set_far (set_far (bat (b := b) (below_alloc (w := w5)) hB5 f2') (.inl hb5n)) (.inl hb5n), set_far (set_far (bat (b := b) (below_alloc (w := w5)) hB5 f3') (.inl hb5n)) (.inl hb5n), set_far (set_far (bat (b := b) (below_alloc (w := w5)) hB5 f4') (.inl hb5n)) (.inl hb5n), set_far (set_far (bat (b := b) (below_alloc (w := w5)) hB5 f5') (.inl hb5n)) (.inl hb5n)⟩) (first | (go_at_call 121; refine (node_any x HSH.out m HM.out _ _ _ (st.drop r) HIN.out _ _ _ cols (hc2.below hVB) _ _ _ zs (hz2.below hVB)).mono ?_; rintro e w5 ⟨rfl, hb5⟩; rw [HNK.out]; simp only [Kd.cells]; have hQ : Hid (w2.heap.size = w2.heap.size) := hide rfl; have f0' := bat hb5 hBv d0; have f1' := bat hb5 hBv d1; have f2' := bat hb5 hBv d2; have f3' := bat hb5 hBv d3; have f4' := bat hb5 hBv d4; have f5' := bat hb5 hBv d5; have u0' := bat hb5 hGv u0; have u1' := bat hb5 hGv u1; have F0' := ((bcell hb5).2 _ _ hGv).trans F0; have F1' := ((bcell hb5).2 _ _ hGv).trans F1; have HB5 : Below w2.heap.size w2 w5 := hVB.trans (hb5.mono hVB.size); have hB5 : b < w5.heap.size := Nat.lt_of_lt_of_le hB2 HB5.size; have hb5n : ¬ b = w5.heap.size := (by omega); clear hb5 u0 u1 F0 F1) | (go_at_call 121; refine (node_any x HSH.out m HM.out _ _ _ (st.drop r) HIN2.out _ _ _ cols (hc2.below (Below.refl _ _).drew) _ _ _ zs (hz2.below (Below.refl _ _).drew)).mono ?_; rintro e w5 ⟨rfl, hb5⟩; rw [HNK.out]; simp only [Kd.cells]; have f0' := bat (below_undrew hb5) hB2 f0; have f1' := bat (below_undrew hb5) hB2 f1; have f2' := bat (below_undrew hb5) hB2 f2; have f3' := bat (below_undrew hb5) hB2 f3; have f4' := bat (below_undrew hb5) hB2 f4; have f5' := bat (below_undrew hb5) hB2 f5; have HB5 : Below w2.heap.size w2 w5 := below_undrew hb5; have hB5 : b < w5.heap.size := Nat.lt_of_lt_of_le hB2 HB5.size; have hb5n : ¬ b = w5.heap.size := (by omega); clear hb5 u0 u1 F0 F1))
              · obtain ⟨w4, hw4⟩ : ∃ w4, w4 = w5.alloc (.cells #[.int .i64 kk, .bool kn] 167) := ⟨_, rfl⟩
                have hx4 : Below w2.heap.size w2 w4 := by rw [hw4]; exact HB5.alloc HB5.size _
                have u0 : w4.cell? ⟨w5.heap.size, 0, none⟩ = some (.int .i64 kk) := by rw [hw4]; simp [go_sem]
                have u1 : w4.cell? ⟨w5.heap.size, 1, none⟩ = some (.bool kn) := by rw [hw4]; simp [go_sem]
                rw [← hw4]
                obtain ⟨G, hG⟩ : ∃ G, w5.heap.size = G := ⟨_, rfl⟩
                rw [hG] at u0 u1
                rw [hG]
                clear hw4 hG f0 f1 f2 f3 f4 f5 f0' f1' f2' f3' f4' f5' d0 d1 d2 d3 d4 d5 HIN HIN2 HB5 hVB hGv hBv hB5 hb5n
                have HN : Hid (typeLoop cols zs [] es = typeLoop cols zs (st.take r ++ [⟨kk, kn⟩]) (es.drop (k + 1))) := hide (by rw [HQ.out.1, HX.out, typeLoop_ok HM.out HST.out.len (k := ⟨kk, kn⟩) HNK.out])
                have HSTW := hide (HST2.out.keep hx4)
                have HLE : Hid (r ≤ st.length) := hide (by rw [HST.out.len]; omega)
                have hszW : w.heap.size ≤ w4.heap.size := HSTW.out.below.size
                have hG4 : G < w4.heap.size := lt_of_cell u0
                have r1 : (r : Int) ≤ (cb : Int) := by have h1 := HST.out.stk.cap.1; have h2 := HST.out.len; omega
                clear hx4
                go_wp2
                go_region_held3 (fun V => V.cell? ⟨G, 0, none⟩ = some (.int .i64 kk) ∧ V.cell? ⟨G, 1, none⟩ = some (.bool kn)) (first | exact ⟨u0, u1⟩ | exact ⟨bat ((Below.refl _ _).drew.alloc (Nat.le_refl _) _) hG4 u0, bat ((Below.refl _ _).drew.alloc (Nat.le_refl _) _) hG4 u1⟩ | exact ⟨bat hb7 hG7 (bat ((Below.refl _ _).drew.alloc (Nat.le_refl _) _) hG4 u0), bat hb7 hG7 (bat ((Below.refl _ _).drew.alloc (Nat.le_refl _) _) hG4 u1)⟩) (first | (refine step_pushN (α := Kd) _ rfl (.tmp 75) (.tmp 77) 164 rfl w.heap.size 167 i0 _ 16 Tryz.underlying164 hi hy0 hy1 hy2 rfl (by decide) (some ⟨g, 0, none⟩) cb r st (HSTW.out.stk.keep ((Below.refl _ _).drew.alloc (Nat.le_refl _) _)) HLE.out rfl ⟨kk, kn⟩ HKI.out w4.heap.size rfl (oneAt_new _ _ _ _ rfl) (by omega) (by simp; omega) ?_; intro A' c' w7 hst7 hb7; have hG7 : G < (World.alloc w4.drew (.cells #[.int .i64 kk, .bool kn] 167)).heap.size := (by simp; omega); have HP : Hid (KSt 167 w w7 (st.take r ++ [⟨kk, kn⟩]) (r + 1) A' c') := hide ⟨hst7, (by rw [List.length_append, List.length_take, Nat.min_eq_left HLE.out]; rfl), (HSTW.out.below.drew.alloc (by simp; omega) _).trans (hb7.mono (by simp; omega))⟩))
                go_wp2
                go_roundw
                case rel => exact ⟨k + 1, r + 1, _, hs', A', c', by omega, by omega, by go_num, rfl, ⟨HN.out, HL'.out, HX'.out⟩, HP.out⟩
                case measure => simp [intOf]; omega
              · obtain ⟨w4, hw4⟩ : ∃ w4, w4 = (w5.setCell ⟨w2.heap.size, 0, none⟩ (.int .i64 kk)).setCell ⟨w2.heap.size, 1, none⟩ (.bool kn) := ⟨_, rfl⟩
                have hx4 : Below w2.heap.size w2 w4 := by rw [hw4]; exact below_set2' HB5 (Nat.le_refl _) _ _
                have u0 : w4.cell? ⟨w2.heap.size, 0, none⟩ = some (.int .i64 kk) := by rw [hw4]; exact set_two u0' u1' 0 _ rfl
                have u1 : w4.cell? ⟨w2.heap.size, 1, none⟩ = some (.bool kn) := by rw [hw4]; exact set_two u0' u1' 1 _ rfl
                rw [← hw4]
                obtain ⟨G, hG⟩ : ∃ G, w2.heap.size = G := ⟨_, rfl⟩
                rw [hG] at u0 u1
                rw [hG]
                clear hw4 hG u0' u1' F0' F1' f0 f1 f2 f3 f4 f5 f0' f1' f2' f3' f4' f5' d0 d1 d2 d3 d4 d5 HIN HIN2 HB5 hVB hGv hBv hB5 hb5n
                have HN : Hid (typeLoop cols zs [] es = typeLoop cols zs (st.take r ++ [⟨kk, kn⟩]) (es.drop (k + 1))) := hide (by rw [HQ.out.1, HX.out, typeLoop_ok HM.out HST.out.len (k := ⟨kk, kn⟩) HNK.out])
                have HSTW := hide (HST2.out.keep hx4)
                have HLE : Hid (r ≤ st.length) := hide (by rw [HST.out.len]; omega)
                have hszW : w.heap.size ≤ w4.heap.size := HSTW.out.below.size
                have hG4 : G < w4.heap.size := lt_of_cell u0
                have r1 : (r : Int) ≤ (cb : Int) := by have h1 := HST.out.stk.cap.1; have h2 := HST.out.len; omega
                clear hx4
                go_wp2
                go_region_held3 (fun V => V.cell? ⟨G, 0, none⟩ = some (.int .i64 kk) ∧ V.cell? ⟨G, 1, none⟩ = some (.bool kn)) (first | exact ⟨u0, u1⟩ | exact ⟨bat ((Below.refl _ _).drew.alloc (Nat.le_refl _) _) hG4 u0, bat ((Below.refl _ _).drew.alloc (Nat.le_refl _) _) hG4 u1⟩ | exact ⟨bat hb7 hG7 (bat ((Below.refl _ _).drew.alloc (Nat.le_refl _) _) hG4 u0), bat hb7 hG7 (bat ((Below.refl _ _).drew.alloc (Nat.le_refl _) _) hG4 u1)⟩) (first | (refine step_pushN (α := Kd) _ rfl (.tmp 75) (.tmp 77) 164 rfl w.heap.size 167 i0 _ 16 Tryz.underlying164 hi hy0 hy1 hy2 rfl (by decide) (some ⟨g, 0, none⟩) cb r st (HSTW.out.stk.keep ((Below.refl _ _).drew.alloc (Nat.le_refl _) _)) HLE.out rfl ⟨kk, kn⟩ HKI.out w4.heap.size rfl (oneAt_new _ _ _ _ rfl) (by omega) (by simp; omega) ?_; intro A' c' w7 hst7 hb7; have hG7 : G < (World.alloc w4.drew (.cells #[.int .i64 kk, .bool kn] 167)).heap.size := (by simp; omega); have HP : Hid (KSt 167 w w7 (st.take r ++ [⟨kk, kn⟩]) (r + 1) A' c') := hide ⟨hst7, (by rw [List.length_append, List.length_take, Nat.min_eq_left HLE.out]; rfl), (HSTW.out.below.drew.alloc (by simp; omega) _).trans (hb7.mono (by simp; omega))⟩))
                go_wp2
                go_roundw
                case rel => exact ⟨k + 1, r + 1, _, hs', A', c', by omega, by omega, by go_num, rfl, ⟨HN.out, HL'.out, HX'.out⟩, HP.out⟩
                case measure => simp [intOf]; omega
          · have q2 : (er != 0) = true := by simpa using her
            have HN : Hid (typeS es cols zs = (er, default)) := hide (by rw [HT.out, HQ.out.1, HX.out, typeLoop_err HM.out HST.out.len (e := er) (by rw [HNK.out]) her])
            clear her
            rcases ops_of HST2.out.stk HST2.out.len with ⟨rfl, hm0⟩ | ⟨hcb, g, rfl, hin⟩
            · have hVB : Below w2.heap.size w2 (w2.alloc (.cells #[.int .i64 0, .bool false] 167)).drew := ((Below.refl _ _).alloc (Nat.le_refl _) _).drew
              have HIN : Hid (In (w2.alloc (.cells #[.int .i64 0, .bool false] 167)).drew B m 0 (st.drop r)) := hide (by rw [List.drop_eq_nil_of_le (by rw [HST.out.len]; omega), hm0]; exact Sl.empty (by omega) (fun _ => rfl))
              have HIN2 : Hid (In w2.drew B m 0 (st.drop r)) := hide (by rw [List.drop_eq_nil_of_le (by rw [HST.out.len]; omega), hm0]; exact Sl.empty (by omega) (fun _ => rfl))
              clear hm0
              have hGv : w2.heap.size < (w2.alloc (.cells #[.int .i64 0, .bool false] 167)).drew.heap.size := by simp
              have hBv : b < (w2.alloc (.cells #[.int .i64 0, .bool false] 167)).drew.heap.size := by simp; omega
              have hbg : ¬ b = w2.heap.size := by omega
              have u0 : (w2.alloc (.cells #[.int .i64 0, .bool false] 167)).drew.cell? ⟨w2.heap.size, 0, none⟩ = some (.int .i64 0) := by simp [go_sem]
              have u1 : (w2.alloc (.cells #[.int .i64 0, .bool false] 167)).drew.cell? ⟨w2.heap.size, 1, none⟩ = some (.bool false) := by simp [go_sem]
              have F0 : (w2.alloc (.cells #[.int .i64 0, .bool false] 167)).drew.frozen? ⟨w2.heap.size, 0, none⟩ = false := by simp [go_sem]
              have F1 : (w2.alloc (.cells #[.int .i64 0, .bool false] 167)).drew.frozen? ⟨w2.heap.size, 1, none⟩ = false := by simp [go_sem]
              have d0 := bat hVB hB2 f0
              have d1 := bat hVB hB2 f1
              have d2 := bat hVB hB2 f2
              have d3 := bat hVB hB2 f3
              have d4 := bat hVB hB2 f4
              have d5 := bat hVB hB2 f5
              go_wp2
              go_region_held3 (fun V => V.cell? ⟨b, off + k * 6, none⟩ = some (.int .i64 x.op) ∧ V.cell? ⟨b, off + k * 6 + 1, none⟩ = some (.int .i64 x.value.kind) ∧ V.cell? ⟨b, off + k * 6 + 2, none⟩ = some (.int .i64 x.value.num) ∧ V.cell? ⟨b, off + k * 6 + 3, none⟩ = some (.string x.value.str) ∧ V.cell? ⟨b, off + k * 6 + 4, none⟩ = some (.string x.name) ∧ V.cell? ⟨b, off + k * 6 + 5, none⟩ = some (.int .i64 x.arity)) (first | exact ⟨f0, f1, f2, f3, f4, f5⟩ | exact ⟨f0', f1', f2', f3', f4', f5'⟩ | exact ⟨d0, d1, d2, d3, d4, d5⟩ | exact ⟨set_far (set_far f0' (.inl hbg)) (.inl hbg), set_far (set_far f1' (.inl hbg)) (.inl hbg), set_far (set_far f2' (.inl hbg)) (.inl hbg), set_far (set_far f3' (.inl hbg)) (.inl hbg), set_far (set_far f4' (.inl hbg)) (.inl hbg), set_far (set_far f5' (.inl hbg)) (.inl hbg)⟩ | exact ⟨bat (b := b) (below_alloc (w := w5)) hB5 f0', bat (b := b) (below_alloc (w := w5)) hB5 f1', bat (b := b) (below_alloc (w := w5)) hB5 f2', bat (b := b) (below_alloc (w := w5)) hB5 f3', bat (b := b) (below_alloc (w := w5)) hB5 f4', bat (b := b) (below_alloc (w := w5)) hB5 f5'⟩ | exact ⟨set_far (set_far (bat (b := b) (below_alloc (w := w5)) hB5 f0') (.inl hb5n)) (.inl hb5n), set_far (set_far (bat (b := b) (below_alloc (w := w5)) hB5 f1') (.inl hb5n)) (.inl hb5n), set_far (set_far (bat (b := b) (below_alloc (w := w5)) hB5 f2') (.inl hb5n)) (.inl hb5n), set_far (set_far (bat (b := b) (below_alloc (w := w5)) hB5 f3') (.inl hb5n)) (.inl hb5n), set_far (set_far (bat (b := b) (below_alloc (w := w5)) hB5 f4') (.inl hb5n)) (.inl hb5n), set_far (set_far (bat (b := b) (below_alloc (w := w5)) hB5 f5') (.inl hb5n)) (.inl hb5n)⟩) (first | (go_at_call 121; refine (node_any x HSH.out m HM.out _ _ _ (st.drop r) HIN.out _ _ _ cols (hc2.below hVB) _ _ _ zs (hz2.below hVB)).mono ?_; rintro e w5 ⟨rfl, hb5⟩; rw [HNK.out]; simp only [Kd.cells]; have hQ : Hid (w2.heap.size = w2.heap.size) := hide rfl; have f0' := bat hb5 hBv d0; have f1' := bat hb5 hBv d1; have f2' := bat hb5 hBv d2; have f3' := bat hb5 hBv d3; have f4' := bat hb5 hBv d4; have f5' := bat hb5 hBv d5; have u0' := bat hb5 hGv u0; have u1' := bat hb5 hGv u1; have F0' := ((bcell hb5).2 _ _ hGv).trans F0; have F1' := ((bcell hb5).2 _ _ hGv).trans F1; have HB5 : Below w2.heap.size w2 w5 := hVB.trans (hb5.mono hVB.size); have hB5 : b < w5.heap.size := Nat.lt_of_lt_of_le hB2 HB5.size; have hb5n : ¬ b = w5.heap.size := (by omega); clear hb5 u0 u1 F0 F1) | (go_at_call 121; refine (node_any x HSH.out m HM.out _ _ _ (st.drop r) HIN2.out _ _ _ cols (hc2.below (Below.refl _ _).drew) _ _ _ zs (hz2.below (Below.refl _ _).drew)).mono ?_; rintro e w5 ⟨rfl, hb5⟩; rw [HNK.out]; simp only [Kd.cells]; have f0' := bat (below_undrew hb5) hB2 f0; have f1' := bat (below_undrew hb5) hB2 f1; have f2' := bat (below_undrew hb5) hB2 f2; have f3' := bat (below_undrew hb5) hB2 f3; have f4' := bat (below_undrew hb5) hB2 f4; have f5' := bat (below_undrew hb5) hB2 f5; have HB5 : Below w2.heap.size w2 w5 := below_undrew hb5; have hB5 : b < w5.heap.size := Nat.lt_of_lt_of_le hB2 HB5.size; have hb5n : ¬ b = w5.heap.size := (by omega); clear hb5 u0 u1 F0 F1))
              · go_wp2
                go_ret3
                exact ⟨by rw [HN.out]; rfl, (HST2.out.below.trans (HB5.mono HST2.out.below.size)).alloc (HST2.out.below.trans (HB5.mono HST2.out.below.size)).size _⟩
              · go_wp2
                go_ret3
                exact ⟨by rw [HN.out]; rfl, below_set2' (HST2.out.below.trans (HB5.mono HST2.out.below.size)) HST2.out.below.size _ _⟩
            · have hVB : Below w2.heap.size w2 (w2.alloc (.cells #[.int .i64 0, .bool false] 167)).drew := ((Below.refl _ _).alloc (Nat.le_refl _) _).drew
              have HIN : Hid (In (w2.alloc (.cells #[.int .i64 0, .bool false] 167)).drew (some ⟨g, r * 2, none⟩) m (cb - r) (st.drop r)) := hide (hin.below hVB)
              have HIN2 : Hid (In w2.drew (some ⟨g, r * 2, none⟩) m (cb - r) (st.drop r)) := hide (hin.below (Below.refl _ _).drew)
              clear hin
              have hGv : w2.heap.size < (w2.alloc (.cells #[.int .i64 0, .bool false] 167)).drew.heap.size := by simp
              have hBv : b < (w2.alloc (.cells #[.int .i64 0, .bool false] 167)).drew.heap.size := by simp; omega
              have hbg : ¬ b = w2.heap.size := by omega
              have u0 : (w2.alloc (.cells #[.int .i64 0, .bool false] 167)).drew.cell? ⟨w2.heap.size, 0, none⟩ = some (.int .i64 0) := by simp [go_sem]
              have u1 : (w2.alloc (.cells #[.int .i64 0, .bool false] 167)).drew.cell? ⟨w2.heap.size, 1, none⟩ = some (.bool false) := by simp [go_sem]
              have F0 : (w2.alloc (.cells #[.int .i64 0, .bool false] 167)).drew.frozen? ⟨w2.heap.size, 0, none⟩ = false := by simp [go_sem]
              have F1 : (w2.alloc (.cells #[.int .i64 0, .bool false] 167)).drew.frozen? ⟨w2.heap.size, 1, none⟩ = false := by simp [go_sem]
              have d0 := bat hVB hB2 f0
              have d1 := bat hVB hB2 f1
              have d2 := bat hVB hB2 f2
              have d3 := bat hVB hB2 f3
              have d4 := bat hVB hB2 f4
              have d5 := bat hVB hB2 f5
              go_wp2
              go_region_held3 (fun V => V.cell? ⟨b, off + k * 6, none⟩ = some (.int .i64 x.op) ∧ V.cell? ⟨b, off + k * 6 + 1, none⟩ = some (.int .i64 x.value.kind) ∧ V.cell? ⟨b, off + k * 6 + 2, none⟩ = some (.int .i64 x.value.num) ∧ V.cell? ⟨b, off + k * 6 + 3, none⟩ = some (.string x.value.str) ∧ V.cell? ⟨b, off + k * 6 + 4, none⟩ = some (.string x.name) ∧ V.cell? ⟨b, off + k * 6 + 5, none⟩ = some (.int .i64 x.arity)) (first | exact ⟨f0, f1, f2, f3, f4, f5⟩ | exact ⟨f0', f1', f2', f3', f4', f5'⟩ | exact ⟨d0, d1, d2, d3, d4, d5⟩ | exact ⟨set_far (set_far f0' (.inl hbg)) (.inl hbg), set_far (set_far f1' (.inl hbg)) (.inl hbg), set_far (set_far f2' (.inl hbg)) (.inl hbg), set_far (set_far f3' (.inl hbg)) (.inl hbg), set_far (set_far f4' (.inl hbg)) (.inl hbg), set_far (set_far f5' (.inl hbg)) (.inl hbg)⟩ | exact ⟨bat (b := b) (below_alloc (w := w5)) hB5 f0', bat (b := b) (below_alloc (w := w5)) hB5 f1', bat (b := b) (below_alloc (w := w5)) hB5 f2', bat (b := b) (below_alloc (w := w5)) hB5 f3', bat (b := b) (below_alloc (w := w5)) hB5 f4', bat (b := b) (below_alloc (w := w5)) hB5 f5'⟩ | exact ⟨set_far (set_far (bat (b := b) (below_alloc (w := w5)) hB5 f0') (.inl hb5n)) (.inl hb5n), set_far (set_far (bat (b := b) (below_alloc (w := w5)) hB5 f1') (.inl hb5n)) (.inl hb5n), set_far (set_far (bat (b := b) (below_alloc (w := w5)) hB5 f2') (.inl hb5n)) (.inl hb5n), set_far (set_far (bat (b := b) (below_alloc (w := w5)) hB5 f3') (.inl hb5n)) (.inl hb5n), set_far (set_far (bat (b := b) (below_alloc (w := w5)) hB5 f4') (.inl hb5n)) (.inl hb5n), set_far (set_far (bat (b := b) (below_alloc (w := w5)) hB5 f5') (.inl hb5n)) (.inl hb5n)⟩) (first | (go_at_call 121; refine (node_any x HSH.out m HM.out _ _ _ (st.drop r) HIN.out _ _ _ cols (hc2.below hVB) _ _ _ zs (hz2.below hVB)).mono ?_; rintro e w5 ⟨rfl, hb5⟩; rw [HNK.out]; simp only [Kd.cells]; have hQ : Hid (w2.heap.size = w2.heap.size) := hide rfl; have f0' := bat hb5 hBv d0; have f1' := bat hb5 hBv d1; have f2' := bat hb5 hBv d2; have f3' := bat hb5 hBv d3; have f4' := bat hb5 hBv d4; have f5' := bat hb5 hBv d5; have u0' := bat hb5 hGv u0; have u1' := bat hb5 hGv u1; have F0' := ((bcell hb5).2 _ _ hGv).trans F0; have F1' := ((bcell hb5).2 _ _ hGv).trans F1; have HB5 : Below w2.heap.size w2 w5 := hVB.trans (hb5.mono hVB.size); have hB5 : b < w5.heap.size := Nat.lt_of_lt_of_le hB2 HB5.size; have hb5n : ¬ b = w5.heap.size := (by omega); clear hb5 u0 u1 F0 F1) | (go_at_call 121; refine (node_any x HSH.out m HM.out _ _ _ (st.drop r) HIN2.out _ _ _ cols (hc2.below (Below.refl _ _).drew) _ _ _ zs (hz2.below (Below.refl _ _).drew)).mono ?_; rintro e w5 ⟨rfl, hb5⟩; rw [HNK.out]; simp only [Kd.cells]; have f0' := bat (below_undrew hb5) hB2 f0; have f1' := bat (below_undrew hb5) hB2 f1; have f2' := bat (below_undrew hb5) hB2 f2; have f3' := bat (below_undrew hb5) hB2 f3; have f4' := bat (below_undrew hb5) hB2 f4; have f5' := bat (below_undrew hb5) hB2 f5; have HB5 : Below w2.heap.size w2 w5 := below_undrew hb5; have hB5 : b < w5.heap.size := Nat.lt_of_lt_of_le hB2 HB5.size; have hb5n : ¬ b = w5.heap.size := (by omega); clear hb5 u0 u1 F0 F1))
              · go_wp2
                go_ret3
                exact ⟨by rw [HN.out]; rfl, (HST2.out.below.trans (HB5.mono HST2.out.below.size)).alloc (HST2.out.below.trans (HB5.mono HST2.out.below.size)).size _⟩
              · go_wp2
                go_ret3
                exact ⟨by rw [HN.out]; rfl, below_set2' (HST2.out.below.trans (HB5.mono HST2.out.below.size)) HST2.out.below.size _ _⟩
        · have HX := hide (drop_end hx.len (show n ≤ k by omega))
          have hd1 : d = 1 := exprLoop_end (by rw [← HX.out]; exact HQ.out.2.2) HQ.out.2.1
          subst hd1
          have HIN : Hid (In wr B 1 cb st) := hide (by have := HST.out.stk.inn; rw [HST.out.len] at this; exact this)
          obtain ⟨b3, off3, y, rfl, hB3, HY, y0, y1, y2⟩ := HIN.out.kd (show 0 < 1 by omega)
          simp only [Nat.zero_mul, Nat.add_zero] at y0 y1
          have HR : Hid (typeS es cols zs = (0, y)) := hide (by
            rw [HT.out, HQ.out.1, HX.out, typeLoop]
            have := HY.out
            rw [List.drop_zero] at this
            rw [this]; rfl)
          have k0 : (0 : Int) < (1 : Int) := by omega
          go_wp2
          go_quiet (fail)
          go_wp2
          go_ret3
          exact ⟨by rw [HR.out]; rfl, below_drewN HST.out.below _⟩
end Go.Proofs.YtodapiholjeehaaGreatDoor
