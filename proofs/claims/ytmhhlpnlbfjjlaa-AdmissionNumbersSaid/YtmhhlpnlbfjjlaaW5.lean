import Derived.Test.YtmhhlpnlbfjjlaaW4
namespace Go.Proofs.Ytmhhlpnlbfjjlaa
open Go.RowKit
def relV (c : Cfg) : Int := (c.is * c.iw + c.ds * c.dw) * maxT c
theorem relV_le {c : Cfg} (hv : macV c = true) : 2 ≤ relV c ∧ relV c ≤ 5119998976 := by
  obtain ⟨_, _, m3, m4⟩ := mac_le hv
  obtain ⟨b1, b2⟩ := maxT_le (mac_bus hv)
  obtain ⟨c1, c2, c3, c4, c5, c6, c7, c8⟩ := cac_le m3
  obtain ⟨d1, d2, d3, d4, d5, d6, d7, d8⟩ := cac_le m4
  have p1 : 2 * 1 ≤ (c.is * c.iw + c.ds * c.dw) * maxT c := Int.mul_le_mul (by omega) (by omega) (by omega) (by omega)
  have p2 : (c.is * c.iw + c.ds * c.dw) * maxT c ≤ 1024 * 4999999 := Int.mul_le_mul (by omega) (by omega) (by omega) (by omega)
  unfold relV
  omega
theorem useV_le {c : Cfg} {n : Int} (hv : macV c = true) (hi : inR n = true) : -4398046511104 ≤ useV c n ∧ useV c n ≤ 16777216 := by
  obtain ⟨_, ⟨q1, q2, q3, q4⟩, m3, m4⟩ := mac_le hv
  obtain ⟨b1, b2, b3, b4, b5, b6, b7⟩ := bus_le (mac_bus hv)
  obtain ⟨x1, x2⟩ := maxI_le hv
  obtain ⟨i1, i2⟩ := in_le hi
  have p1 : 0 ≤ c.co * n := Int.mul_nonneg (by omega) (by omega)
  have p2 : c.co * n ≤ 4 * 1099511627776 := Int.mul_le_mul (by omega) (by omega) (by omega) (by omega)
  unfold useV
  omega
theorem reload_ok' (c : Cfg) (w : World) (hv : macV c = true) : Calls Try.prog 8 #[cv c] w fun e w' => e = .returned (.int .i64 (relV c)) ∧ Ext w w' := reload_ok c w hv
set_option maxHeartbeats 3200000 in
theorem quanta_bad1 (c : Cfg) (cy n : Int) (w : World) (hv : macV c = false) : Calls Try.prog 7 #[cv c, .int .i64 cy, .int .i64 n] w fun e w' => e = .returned (.tuple #[.int .i64 0, .int .i64 1]) ∧ Ext w w' := by
  have hx := Box.made w (cc c) 27
  have he := (Ext.refl w).alloc (.cells (cc c) 27)
  go_enter Try.func7, Try.ntmps7
  go_wp2_with (first | (go_at_call 11; refine (macV_any c _).mono ?_; rintro e w1 ⟨rfl, hb1⟩; have he1 := (he.trans hb1); have hx1 := (hx.ext hb1); have hc1 := hx1.cell) | (go_at_call 20; refine (inRange_any _ _).mono ?_; rintro e w2 ⟨rfl, rfl⟩))
  go_ret2
  go_loud (exact ⟨rfl, by assumption⟩)
set_option maxHeartbeats 3200000 in
theorem quanta_bad2 (c : Cfg) (cy n : Int) (w : World) (hv : macV c = true) (hi : inR cy = false) : Calls Try.prog 7 #[cv c, .int .i64 cy, .int .i64 n] w fun e w' => e = .returned (.tuple #[.int .i64 0, .int .i64 2]) ∧ Ext w w' := by
  have hx := Box.made w (cc c) 27
  have he := (Ext.refl w).alloc (.cells (cc c) 27)
  go_enter Try.func7, Try.ntmps7
  go_wp2_with (first | (go_at_call 11; refine (macV_any c _).mono ?_; rintro e w1 ⟨rfl, hb1⟩; have he1 := (he.trans hb1); have hx1 := (hx.ext hb1); have hc1 := hx1.cell) | (go_at_call 20; refine (inRange_any _ _).mono ?_; rintro e w2 ⟨rfl, rfl⟩))
  go_ret2
  go_loud (exact ⟨rfl, by assumption⟩)
set_option maxHeartbeats 3200000 in
theorem quanta_bad3 (c : Cfg) (cy n : Int) (w : World) (hv : macV c = true) (hj : inR cy = true) (hi : inR n = false) : Calls Try.prog 7 #[cv c, .int .i64 cy, .int .i64 n] w fun e w' => e = .returned (.tuple #[.int .i64 0, .int .i64 2]) ∧ Ext w w' := by
  have hx := Box.made w (cc c) 27
  have he := (Ext.refl w).alloc (.cells (cc c) 27)
  go_enter Try.func7, Try.ntmps7
  go_wp2_with (first | (go_at_call 11; refine (macV_any c _).mono ?_; rintro e w1 ⟨rfl, hb1⟩; have he1 := (he.trans hb1); have hx1 := (hx.ext hb1); have hc1 := hx1.cell) | (go_at_call 20; refine (inRange_any _ _).mono ?_; rintro e w2 ⟨rfl, rfl⟩))
  go_ret2
  go_loud (exact ⟨rfl, by assumption⟩)
set_option maxHeartbeats 3200000 in
theorem quanta_load (c : Cfg) (cy n : Int) (w : World) (hv : macV c = true) (hj : inR cy = true) (hi : inR n = true) (hl : useV c n ≤ relV c) : Calls Try.prog 7 #[cv c, .int .i64 cy, .int .i64 n] w fun e w' => e = .returned (.tuple #[.int .i64 0, .int .i64 20]) ∧ Ext w w' := by
  have hx := Box.made w (cc c) 27
  have he := (Ext.refl w).alloc (.cells (cc c) 27)
  obtain ⟨r1, r2⟩ := relV_le hv
  obtain ⟨u1, u2⟩ := useV_le hv hi
  obtain ⟨j1, j2⟩ := in_le hj
  go_enter Try.func7, Try.ntmps7
  go_wp2_with (first | (go_at_call 11; refine (macV_any c _).mono ?_; rintro e w1 ⟨rfl, hb1⟩; have he1 := (he.trans hb1).drew; have hx1 := (hx.ext hb1).drew; have hc1 := hx1.cell) | (go_at_call 20; refine (inRange_any _ _).mono ?_; rintro e w2 ⟨rfl, rfl⟩))
  go_region_held3 (fun w' => Box w.heap.size (cc c) 27 w' ∧ Ext w w' ∧ ∀ o, w'.cell? ⟨w.heap.size, o, none⟩ = (cc c)[o]?)
    (first | exact ⟨by assumption, by assumption, by assumption⟩ | exact ⟨hx1, he1, hx1.cell⟩ | exact ⟨hx.drew, he.drew, hx.drew.cell⟩)
    (first | (go_at_call 10; refine (useful_ok c n _ hv hi).mono ?_; rintro e w2 ⟨rfl, hb2⟩; go_split_ands; have he2 := Ext.trans (by assumption : Ext w _) hb2; have hx2 := Box.ext (by assumption : Box w.heap.size _ 27 _) hb2; have hc2 := hx2.cell) | (go_at_call 8; refine (reload_ok' c _ hv).mono ?_; rintro e w2 ⟨rfl, hb2⟩; go_split_ands; have he2 := Ext.trans (by assumption : Ext w _) hb2; have hx2 := Box.ext (by assumption : Box w.heap.size _ 27 _) hb2; have hc2 := hx2.cell))
  go_wp2
  go_ret2
  go_loud (exact ⟨rfl, by assumption⟩)
set_option maxHeartbeats 3200000 in
theorem quanta_one (c : Cfg) (cy n : Int) (w : World) (hv : macV c = true) (hj : inR cy = true) (hi : inR n = true) (hl : relV c < useV c n) (hk : cy ≤ useV c n) : Calls Try.prog 7 #[cv c, .int .i64 cy, .int .i64 n] w fun e w' => e = .returned (.tuple #[.int .i64 1, .int .i64 0]) ∧ Ext w w' := by
  have hx := Box.made w (cc c) 27
  have he := (Ext.refl w).alloc (.cells (cc c) 27)
  obtain ⟨r1, r2⟩ := relV_le hv
  obtain ⟨u1, u2⟩ := useV_le hv hi
  obtain ⟨j1, j2⟩ := in_le hj
  go_enter Try.func7, Try.ntmps7
  go_wp2_with (first | (go_at_call 11; refine (macV_any c _).mono ?_; rintro e w1 ⟨rfl, hb1⟩; have he1 := (he.trans hb1).drew; have hx1 := (hx.ext hb1).drew; have hc1 := hx1.cell) | (go_at_call 20; refine (inRange_any _ _).mono ?_; rintro e w2 ⟨rfl, rfl⟩))
  go_region_held3 (fun w' => Box w.heap.size (cc c) 27 w' ∧ Ext w w' ∧ ∀ o, w'.cell? ⟨w.heap.size, o, none⟩ = (cc c)[o]?)
    (first | exact ⟨by assumption, by assumption, by assumption⟩ | exact ⟨hx1, he1, hx1.cell⟩ | exact ⟨hx.drew, he.drew, hx.drew.cell⟩)
    (first | (go_at_call 10; refine (useful_ok c n _ hv hi).mono ?_; rintro e w2 ⟨rfl, hb2⟩; go_split_ands; have he2 := Ext.trans (by assumption : Ext w _) hb2; have hx2 := Box.ext (by assumption : Box w.heap.size _ 27 _) hb2; have hc2 := hx2.cell) | (go_at_call 8; refine (reload_ok' c _ hv).mono ?_; rintro e w2 ⟨rfl, hb2⟩; go_split_ands; have he2 := Ext.trans (by assumption : Ext w _) hb2; have hx2 := Box.ext (by assumption : Box w.heap.size _ 27 _) hb2; have hc2 := hx2.cell))
  go_wp2
  go_ret2
  go_loud (exact ⟨rfl, by assumption⟩)
set_option maxHeartbeats 3200000 in
theorem quanta_many (c : Cfg) (cy n : Int) (w : World) (hv : macV c = true) (hj : inR cy = true) (hi : inR n = true) (hl : relV c < useV c n) (hk : useV c n < cy) : Calls Try.prog 7 #[cv c, .int .i64 cy, .int .i64 n] w fun e w' => e = .returned (.tuple #[.int .i64 ((cy - relV c + (useV c n - relV c) - 1) / (useV c n - relV c)), .int .i64 0]) ∧ Ext w w' := by
  have hx := Box.made w (cc c) 27
  have he := (Ext.refl w).alloc (.cells (cc c) 27)
  obtain ⟨r1, r2⟩ := relV_le hv
  obtain ⟨u1, u2⟩ := useV_le hv hi
  obtain ⟨j1, j2⟩ := in_le hj
  go_enter Try.func7, Try.ntmps7
  go_wp2_with (first | (go_at_call 11; refine (macV_any c _).mono ?_; rintro e w1 ⟨rfl, hb1⟩; have he1 := (he.trans hb1).drew; have hx1 := (hx.ext hb1).drew; have hc1 := hx1.cell) | (go_at_call 20; refine (inRange_any _ _).mono ?_; rintro e w2 ⟨rfl, rfl⟩))
  go_region_held3 (fun w' => Box w.heap.size (cc c) 27 w' ∧ Ext w w' ∧ ∀ o, w'.cell? ⟨w.heap.size, o, none⟩ = (cc c)[o]?)
    (first | exact ⟨by assumption, by assumption, by assumption⟩ | exact ⟨hx1, he1, hx1.cell⟩ | exact ⟨hx.drew, he.drew, hx.drew.cell⟩)
    (first | (go_at_call 10; refine (useful_ok c n _ hv hi).mono ?_; rintro e w2 ⟨rfl, hb2⟩; go_split_ands; have he2 := Ext.trans (by assumption : Ext w _) hb2; have hx2 := Box.ext (by assumption : Box w.heap.size _ 27 _) hb2; have hc2 := hx2.cell) | (go_at_call 8; refine (reload_ok' c _ hv).mono ?_; rintro e w2 ⟨rfl, hb2⟩; go_split_ands; have he2 := Ext.trans (by assumption : Ext w _) hb2; have hx2 := Box.ext (by assumption : Box w.heap.size _ 27 _) hb2; have hc2 := hx2.cell))
  go_wp2
  go_ret2
  go_loud (exact ⟨rfl, by assumption⟩)
end Go.Proofs.Ytmhhlpnlbfjjlaa
