import Derived.Test.YtmhhlpnlbfjjlaaW7
namespace Go.Proofs.Ytmhhlpnlbfjjlaa
open Go.RowKit
theorem flush_cac (s a l : Int) (h : cacV s a l = true) (w : World) : Calls Try.prog 17 #[.agg #[.int .i64 s, .int .i64 a, .int .i64 l]] w fun e w' => e = .returned (.int .i64 (s * a)) ∧ Ext w w' := flush_any s a l w h
set_option maxHeartbeats 3200000 in
theorem lawReload_bad (c : Cfg) (hv : macV c = false) (w : World) : Calls Try.prog 5 #[cv c] w fun e w' => e = .returned (.bool true) ∧ Ext w w' := by
  have hx := Box.made w (cc c) 27
  have he := (Ext.refl w).alloc (.cells (cc c) 27)
  go_enter Try.func5, Try.ntmps5
  go_wp2_with (first | (go_at_call 6; refine (awake_any _).mono ?_; rintro e w1 ⟨rfl, hb⟩; (try go_split_ands); have he := Ext.trans (by assumption : Ext w _) hb; have hx := Box.ext (by assumption : Box w.heap.size _ 27 _) hb; have hc := hx.cell) | (go_at_call 11; refine (macV_any c _).mono ?_; rintro e w1 ⟨rfl, hb⟩; (try go_split_ands); have he := Ext.trans (by assumption : Ext w _) hb; have hx := Box.ext (by assumption : Box w.heap.size _ 27 _) hb; have hc := hx.cell) | (go_at_call 8; refine (reload_bad c _ hv).mono ?_; rintro e w1 ⟨rfl, hb⟩; (try go_split_ands); have he := Ext.trans (by assumption : Ext w _) hb; have hx := Box.ext (by assumption : Box w.heap.size _ 27 _) hb; have hc := hx.cell))
  go_ret
  go_loud (exact ⟨ret_bool rfl, by assumption⟩)
set_option maxHeartbeats 3200000 in
theorem lawReload_ok (c : Cfg) (hv : macV c = true) (w : World) : Calls Try.prog 5 #[cv c] w fun e w' => e = .returned (.bool true) ∧ Ext w w' := by
  have hx := Box.made w (cc c) 27
  have he := (Ext.refl w).alloc (.cells (cc c) 27)
  obtain ⟨_, _, m3, m4⟩ := mac_le hv
  have hbv := mac_bus hv
  obtain ⟨b1, b2⟩ := maxT_le hbv
  obtain ⟨c1, c2, c3, c4, c5, c6, c7, c8⟩ := cac_le m3
  obtain ⟨d1, d2, d3, d4, d5, d6, d7, d8⟩ := cac_le m4
  have p1 : 2 * 1 ≤ (c.is * c.iw + c.ds * c.dw) * maxT c := Int.mul_le_mul (by omega) (by omega) (by omega) (by omega)
  have p2 : (c.is * c.iw + c.ds * c.dw) * maxT c ≤ 1024 * 4999999 := Int.mul_le_mul (by omega) (by omega) (by omega) (by omega)
  go_enter Try.func5, Try.ntmps5
  go_wp2_with (first | (go_at_call 6; refine (awake_any _).mono ?_; rintro e w1 ⟨rfl, hb⟩; (try go_split_ands); have he := Ext.trans (by assumption : Ext w _) hb; have hx := Box.ext (by assumption : Box w.heap.size _ 27 _) hb; have hc := hx.cell) | (go_at_call 11; refine (macV_any c _).mono ?_; rintro e w1 ⟨rfl, hb⟩; (try go_split_ands); have he := Ext.trans (by assumption : Ext w _) hb; have hx := Box.ext (by assumption : Box w.heap.size _ 27 _) hb; have hc := hx.cell))
  go_region_held3 (fun w' => Box w.heap.size (cc c) 27 w' ∧ Ext w w' ∧ ∀ o, w'.cell? ⟨w.heap.size, o, none⟩ = (cc c)[o]?)
    (first | exact ⟨by assumption, by assumption, by assumption⟩ | exact ⟨Box.drew (by assumption), Ext.drew (by assumption), Box.cell (Box.drew (by assumption))⟩)
    (first | (go_at_call 8; refine (reload_ok c _ hv).mono ?_; rintro e w1 ⟨rfl, hb⟩; (try go_split_ands); have he := Ext.trans (by assumption : Ext w _) hb; have hx := Box.ext (by assumption : Box w.heap.size _ 27 _) hb; have hc := hx.cell) | (go_at_call 17; refine (flush_any _ _ _ _ (by assumption)).mono ?_; rintro e w1 ⟨rfl, hb⟩; (try go_split_ands); have he := Ext.trans (by assumption : Ext w _) hb; have hx := Box.ext (by assumption : Box w.heap.size _ 27 _) hb; have hc := hx.cell) | (go_at_call 18; refine (maxTransfer_any c _ hbv).mono ?_; rintro e w1 ⟨rfl, hb⟩; (try go_split_ands); have he := Ext.trans (by assumption : Ext w _) hb; have hx := Box.ext (by assumption : Box w.heap.size _ 27 _) hb; have hc := hx.cell))
  go_wp2
  go_ret
  go_loud (exact ⟨ret_bool (by go_unwrap; simp), by assumption⟩)
end Go.Proofs.Ytmhhlpnlbfjjlaa
