import Derived.Test.YtmhhlpnlbfjjlaaW9
namespace Go.Proofs.Ytmhhlpnlbfjjlaa
open Go.RowKit
set_option maxHeartbeats 6400000 in
theorem num_cy (c : Cfg) (cy n : Int) (hv : macV c = true) (hj : inR cy = false) (hi : inR n = true) (w : World) : Calls Try.prog 3 #[cv c, .int .i64 cy, .int .i64 n] w fun e w' => e = .returned (.bool true) ∧ Ext w w' := by
  have hx := Box.made w (cc c) 27
  have he := (Ext.refl w).alloc (.cells (cc c) 27)
  have hc := hx.cell
  obtain ⟨b1, b2, b3, b4, b5, b6, b7⟩ := bus_le (mac_bus hv)
  obtain ⟨i1, i2⟩ := in_le hi
  have p1 : 0 ≤ c.co * n := Int.mul_nonneg (by omega) (by omega)
  have p2 : c.co * n ≤ 4 * 1099511627776 := Int.mul_le_mul (by omega) (by omega) (by omega) (by omega)
  go_enter Try.func3, Try.ntmps3
  go_wp2_with (first | (go_at_call 6; refine (awake_any _).mono ?_; rintro e w1 ⟨rfl, hb⟩; replace he := he.trans hb; replace hx := hx.ext hb; replace hc := hx.cell; clear hb) | (go_at_call 7; refine (quanta_bad2 c _ _ _ hv hj).mono ?_; rintro e w1 ⟨rfl, hb⟩; replace he := he.trans hb; replace hx := hx.ext hb; replace hc := hx.cell; clear hb))
  go_region_held3 (fun w' => Box w.heap.size (cc c) 27 w' ∧ Ext w w' ∧ ∀ o, w'.cell? ⟨w.heap.size, o, none⟩ = (cc c)[o]?)
    (first | exact ⟨by assumption, by assumption, by assumption⟩ | exact ⟨Box.drew (by assumption), Ext.drew (by assumption), Box.cell (Box.drew (by assumption))⟩)
    (first | (go_at_call 8; refine (reload_ok' c _ hv).mono ?_; rintro e w1 ⟨rfl, hb⟩; (try go_split_ands); have he := Ext.trans (by assumption : Ext w _) hb; have hx := Box.ext (by assumption : Box w.heap.size _ 27 _) hb; have hc := hx.cell; clear hb) | (go_at_call 9; refine (zone_ok c _ _ hv hi).mono ?_; rintro e w1 ⟨rfl, hb⟩; (try go_split_ands); have he := Ext.trans (by assumption : Ext w _) hb; have hx := Box.ext (by assumption : Box w.heap.size _ 27 _) hb; have hc := hx.cell; clear hb) | (go_at_call 10; refine (useful_ok c _ _ hv hi).mono ?_; rintro e w1 ⟨rfl, hb⟩; (try go_split_ands); have he := Ext.trans (by assumption : Ext w _) hb; have hx := Box.ext (by assumption : Box w.heap.size _ 27 _) hb; have hc := hx.cell; clear hb))
  go_wp2_with (first | (go_at_call 11; refine (macV_any c _).mono ?_; rintro e w1 ⟨rfl, hb⟩; replace he := he.trans hb; replace hx := hx.ext hb; replace hc := hx.cell; clear hb) | (go_at_call 12; refine (reload_ref c _ hv).mono ?_; rintro e w1 ⟨rfl, hb⟩; replace he := he.trans hb; replace hx := hx.ext hb; replace hc := hx.cell; clear hb) | (go_at_call 14; refine (useful_ref c n _ hv hi).mono ?_; rintro e w1 ⟨rfl, hb⟩; replace he := he.trans hb; replace hx := hx.ext hb; replace hc := hx.cell; clear hb) | (go_at_call 13; refine (ranged_any _ _).mono ?_; rintro e w2 ⟨rfl, rfl⟩))
  go_ret
  go_loud (exact ⟨ret_bool (by first | rfl | (simp; done) | (simp [*]; done)), by assumption⟩)
end Go.Proofs.Ytmhhlpnlbfjjlaa
