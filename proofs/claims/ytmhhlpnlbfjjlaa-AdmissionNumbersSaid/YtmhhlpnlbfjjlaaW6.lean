import Derived.Test.YtmhhlpnlbfjjlaaW5
namespace Go.Proofs.Ytmhhlpnlbfjjlaa
open Go.RowKit
theorem transfer_ref (c : Cfg) (w : World) (hv : macV c = true) : Calls Try.prog 25 #[cv c] w fun e w' => e = .returned (.int .i64 (maxT c)) ∧ Ext w w' := by
  have hx := Box.made w (cc c) 27
  have he := (Ext.refl w).alloc (.cells (cc c) 27)
  have hc := hx.cell
  obtain ⟨_, ⟨q1, q2, q3, q4⟩, m3, m4⟩ := mac_le hv
  have hbv := mac_bus hv
  obtain ⟨b1, b2, b3, b4, b5, b6, b7⟩ := bus_le hbv
  obtain ⟨t1, t2⟩ := maxT_le hbv
  obtain ⟨x1, x2⟩ := maxI_le hv
  go_enter Try.func25, Try.ntmps25
  go_wp2
  go_ret
  exact ⟨ret_int rfl, by assumption⟩
set_option maxHeartbeats 3200000 in
theorem maxInstr_ref (c : Cfg) (w : World) (hv : macV c = true) : Calls Try.prog 26 #[cv c] w fun e w' => e = .returned (.int .i64 (maxI c)) ∧ Ext w w' := by
  have hx := Box.made w (cc c) 27
  have he := (Ext.refl w).alloc (.cells (cc c) 27)
  have hc := hx.cell
  obtain ⟨_, ⟨q1, q2, q3, q4⟩, m3, m4⟩ := mac_le hv
  have hbv := mac_bus hv
  obtain ⟨b1, b2, b3, b4, b5, b6, b7⟩ := bus_le hbv
  obtain ⟨t1, t2⟩ := maxT_le hbv
  obtain ⟨x1, x2⟩ := maxI_le hv
  obtain ⟨⟨m1, m2, m3, m4, m5, m6, m7, m8⟩, _⟩ := mac_le hv
  have t1' : 1 ≤ (c.co - 1) * c.sl + c.tr - 1 + c.tr := t1
  have t2' : (c.co - 1) * c.sl + c.tr - 1 + c.tr ≤ 4999999 := t2
  go_enter Try.func26, Try.ntmps26
  go_wp2
  all_goals (
    go_ret
    go_loud (exact ⟨ret_int (by unfold maxI maxT; omega), by assumption⟩))
set_option maxHeartbeats 3200000 in
theorem reload_ref (c : Cfg) (w : World) (hv : macV c = true) : Calls Try.prog 12 #[cv c] w fun e w' => e = .returned (.int .i64 (relV c)) ∧ Ext w w' := by
  have hx := Box.made w (cc c) 27
  have he := (Ext.refl w).alloc (.cells (cc c) 27)
  have hc := hx.cell
  obtain ⟨_, ⟨q1, q2, q3, q4⟩, m3, m4⟩ := mac_le hv
  have hbv := mac_bus hv
  obtain ⟨b1, b2, b3, b4, b5, b6, b7⟩ := bus_le hbv
  obtain ⟨t1, t2⟩ := maxT_le hbv
  obtain ⟨x1, x2⟩ := maxI_le hv
  obtain ⟨c1, c2, c3, c4, c5, c6, c7, c8⟩ := cac_le m3
  obtain ⟨d1, d2, d3, d4, d5, d6, d7, d8⟩ := cac_le m4
  have p1 : 2 * 1 ≤ (c.is * c.iw + c.ds * c.dw) * maxT c := Int.mul_le_mul (by omega) (by omega) (by omega) (by omega)
  have p2 : (c.is * c.iw + c.ds * c.dw) * maxT c ≤ 1024 * 4999999 := Int.mul_le_mul (by omega) (by omega) (by omega) (by omega)
  go_enter Try.func12, Try.ntmps12
  go_wp2_with fail
  go_region_held3 (fun w' => Box w.heap.size (cc c) 27 w' ∧ Ext w w' ∧ ∀ o, w'.cell? ⟨w.heap.size, o, none⟩ = (cc c)[o]?)
    (first | exact ⟨by assumption, by assumption, by assumption⟩ | exact ⟨hx1, he1, hx1.cell⟩ | exact ⟨hx.drew, he.drew, hx.drew.cell⟩)
    ((go_at_call 25; refine (transfer_ref c _ hv).mono ?_; rintro e w2 ⟨rfl, hb2⟩; go_split_ands; have he2 := Ext.trans (by assumption : Ext w _) hb2; have hx2 := Box.ext (by assumption : Box w.heap.size _ 27 _) hb2; have hc2 := hx2.cell))
  go_wp2
  go_ret
  exact ⟨ret_int (by unfold relV; go_unwrap), by assumption⟩
theorem useful_ref (c : Cfg) (n : Int) (w : World) (hv : macV c = true) (hi : inR n = true) : Calls Try.prog 14 #[cv c, .int .i64 n] w fun e w' => e = .returned (.int .i64 (useV c n)) ∧ Ext w w' := by
  have hx := Box.made w (cc c) 27
  have he := (Ext.refl w).alloc (.cells (cc c) 27)
  have hc := hx.cell
  obtain ⟨_, ⟨q1, q2, q3, q4⟩, m3, m4⟩ := mac_le hv
  have hbv := mac_bus hv
  obtain ⟨b1, b2, b3, b4, b5, b6, b7⟩ := bus_le hbv
  obtain ⟨t1, t2⟩ := maxT_le hbv
  obtain ⟨x1, x2⟩ := maxI_le hv
  obtain ⟨i1, i2⟩ := in_le hi
  have p1 : 0 ≤ c.co * n := Int.mul_nonneg (by omega) (by omega)
  have p2 : c.co * n ≤ 4 * 1099511627776 := Int.mul_le_mul (by omega) (by omega) (by omega) (by omega)
  go_enter Try.func14, Try.ntmps14
  go_wp2_with (go_at_call 26; refine (maxInstr_ref c _ hv).mono ?_; rintro e w2 ⟨rfl, hb2⟩; have he2 := he.trans hb2; have hx2 := hx.ext hb2; have hc2 := hx2.cell)
  all_goals (
    go_ret
    go_loud (exact ⟨ret_int (by unfold useV; omega), by assumption⟩))
set_option maxHeartbeats 3200000 in
theorem quantaR_load (c : Cfg) (cy n : Int) (w : World) (hv : macV c = true) (hj : inR cy = true) (hi : inR n = true) (hl : useV c n ≤ relV c) : Calls Try.prog 15 #[cv c, .int .i64 cy, .int .i64 n] w fun e w' => e = .returned (.int .i64 0) ∧ Ext w w' := by
  have hx := Box.made w (cc c) 27
  have he := (Ext.refl w).alloc (.cells (cc c) 27)
  have hc := hx.cell
  obtain ⟨r1, r2⟩ := relV_le hv
  obtain ⟨u1, u2⟩ := useV_le hv hi
  obtain ⟨j1, j2⟩ := in_le hj
  go_enter Try.func15, Try.ntmps15
  go_wp2_with fail
  go_region_held3 (fun w' => Box w.heap.size (cc c) 27 w' ∧ Ext w w' ∧ ∀ o, w'.cell? ⟨w.heap.size, o, none⟩ = (cc c)[o]?)
    (first | exact ⟨by assumption, by assumption, by assumption⟩ | exact ⟨hx1, he1, hx1.cell⟩ | exact ⟨hx.drew, he.drew, hx.drew.cell⟩)
    (first | (go_at_call 14; refine (useful_ref c n _ hv hi).mono ?_; rintro e w2 ⟨rfl, hb2⟩; go_split_ands; have he2 := Ext.trans (by assumption : Ext w _) hb2; have hx2 := Box.ext (by assumption : Box w.heap.size _ 27 _) hb2; have hc2 := hx2.cell) | (go_at_call 12; refine (reload_ref c _ hv).mono ?_; rintro e w2 ⟨rfl, hb2⟩; go_split_ands; have he2 := Ext.trans (by assumption : Ext w _) hb2; have hx2 := Box.ext (by assumption : Box w.heap.size _ 27 _) hb2; have hc2 := hx2.cell))
  go_wp2
  go_ret
  go_loud (exact ⟨ret_int rfl, by assumption⟩)
set_option maxHeartbeats 3200000 in
theorem quantaR_one (c : Cfg) (cy n : Int) (w : World) (hv : macV c = true) (hj : inR cy = true) (hi : inR n = true) (hl : relV c < useV c n) (hk : cy ≤ useV c n) : Calls Try.prog 15 #[cv c, .int .i64 cy, .int .i64 n] w fun e w' => e = .returned (.int .i64 1) ∧ Ext w w' := by
  have hx := Box.made w (cc c) 27
  have he := (Ext.refl w).alloc (.cells (cc c) 27)
  have hc := hx.cell
  obtain ⟨r1, r2⟩ := relV_le hv
  obtain ⟨u1, u2⟩ := useV_le hv hi
  obtain ⟨j1, j2⟩ := in_le hj
  go_enter Try.func15, Try.ntmps15
  go_wp2_with fail
  go_region_held3 (fun w' => Box w.heap.size (cc c) 27 w' ∧ Ext w w' ∧ ∀ o, w'.cell? ⟨w.heap.size, o, none⟩ = (cc c)[o]?)
    (first | exact ⟨by assumption, by assumption, by assumption⟩ | exact ⟨hx1, he1, hx1.cell⟩ | exact ⟨hx.drew, he.drew, hx.drew.cell⟩)
    (first | (go_at_call 14; refine (useful_ref c n _ hv hi).mono ?_; rintro e w2 ⟨rfl, hb2⟩; go_split_ands; have he2 := Ext.trans (by assumption : Ext w _) hb2; have hx2 := Box.ext (by assumption : Box w.heap.size _ 27 _) hb2; have hc2 := hx2.cell) | (go_at_call 12; refine (reload_ref c _ hv).mono ?_; rintro e w2 ⟨rfl, hb2⟩; go_split_ands; have he2 := Ext.trans (by assumption : Ext w _) hb2; have hx2 := Box.ext (by assumption : Box w.heap.size _ 27 _) hb2; have hc2 := hx2.cell))
  go_wp2
  go_ret
  go_loud (exact ⟨ret_int rfl, by assumption⟩)
set_option maxHeartbeats 3200000 in
theorem quantaR_many (c : Cfg) (cy n : Int) (w : World) (hv : macV c = true) (hj : inR cy = true) (hi : inR n = true) (hl : relV c < useV c n) (hk : useV c n < cy) : Calls Try.prog 15 #[cv c, .int .i64 cy, .int .i64 n] w fun e w' => e = .returned (.int .i64 ((cy - relV c + useV c n - relV c - 1) / (useV c n - relV c))) ∧ Ext w w' := by
  have hx := Box.made w (cc c) 27
  have he := (Ext.refl w).alloc (.cells (cc c) 27)
  have hc := hx.cell
  obtain ⟨r1, r2⟩ := relV_le hv
  obtain ⟨u1, u2⟩ := useV_le hv hi
  obtain ⟨j1, j2⟩ := in_le hj
  go_enter Try.func15, Try.ntmps15
  go_wp2_with fail
  go_region_held3 (fun w' => Box w.heap.size (cc c) 27 w' ∧ Ext w w' ∧ ∀ o, w'.cell? ⟨w.heap.size, o, none⟩ = (cc c)[o]?)
    (first | exact ⟨by assumption, by assumption, by assumption⟩ | exact ⟨hx1, he1, hx1.cell⟩ | exact ⟨hx.drew, he.drew, hx.drew.cell⟩)
    (first | (go_at_call 14; refine (useful_ref c n _ hv hi).mono ?_; rintro e w2 ⟨rfl, hb2⟩; go_split_ands; have he2 := Ext.trans (by assumption : Ext w _) hb2; have hx2 := Box.ext (by assumption : Box w.heap.size _ 27 _) hb2; have hc2 := hx2.cell) | (go_at_call 12; refine (reload_ref c _ hv).mono ?_; rintro e w2 ⟨rfl, hb2⟩; go_split_ands; have he2 := Ext.trans (by assumption : Ext w _) hb2; have hx2 := Box.ext (by assumption : Box w.heap.size _ 27 _) hb2; have hc2 := hx2.cell))
  go_wp2
  go_ret
  go_loud (exact ⟨ret_int rfl, by assumption⟩)
end Go.Proofs.Ytmhhlpnlbfjjlaa
