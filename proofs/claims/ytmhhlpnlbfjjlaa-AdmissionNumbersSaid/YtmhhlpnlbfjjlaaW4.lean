import Derived.Test.YtmhhlpnlbfjjlaaW3
namespace Go.Proofs.Ytmhhlpnlbfjjlaa
open Go.RowKit
def maxI (c : Cfg) : Int := 2 * maxT c + 1 + c.ha + max (max c.mu c.di) c.ta
set_option maxHeartbeats 3200000 in
theorem maxInstr_ok (c : Cfg) (w : World) (hv : macV c = true) : Calls Try.prog 21 #[cv c] w fun e w' => e = .returned (.int .i64 (maxI c)) ∧ Ext w w' := by
  have hx := Box.made w (cc c) 27
  have he := (Ext.refl w).alloc (.cells (cc c) 27)
  obtain ⟨⟨m1, m2, m3, m4, m5, m6, m7, m8⟩, _⟩ := mac_le hv
  have hbv := mac_bus hv
  obtain ⟨b1, b2⟩ := maxT_le hbv
  by_cases h1 : c.mu < c.di
  all_goals by_cases h2 : c.di < c.ta
  all_goals by_cases h3 : c.mu < c.ta
  all_goals (try (exfalso; omega))
  all_goals (
    go_enter Try.func21, Try.ntmps21
    go_wp2_with (go_at_call 11; refine (macV_any c _).mono ?_; rintro e w1 ⟨rfl, hb1⟩; have he1 := (he.trans hb1).drew; have hx1 := (hx.ext hb1).drew; have hc1 := hx1.cell)
    go_region_held3 (fun w' => Box w.heap.size (cc c) 27 w' ∧ Ext w w' ∧ ∀ o, w'.cell? ⟨w.heap.size, o, none⟩ = (cc c)[o]?)
      (first | exact ⟨by assumption, by assumption, by assumption⟩ | exact ⟨hx1, he1, hx1.cell⟩)
      ((go_at_call 18; refine (maxTransfer_any c _ hbv).mono ?_; rintro e w2 ⟨rfl, hb2⟩; go_split_ands; have he2 := Ext.trans (by assumption : Ext w _) hb2; have hx2 := Box.ext (by assumption : Box w.heap.size _ 27 _) hb2; have hc2 := hx2.cell)))
  all_goals (
    go_wp2
    go_ret
    go_loud (exact ⟨ret_int (by unfold maxI; go_unwrap; omega), by assumption⟩))
theorem maxI_le {c : Cfg} (hv : macV c = true) : 1 ≤ maxI c ∧ maxI c ≤ 20000000 := by
  obtain ⟨⟨m1, m2, m3, m4, m5, m6, m7, m8⟩, _⟩ := mac_le hv
  obtain ⟨b1, b2⟩ := maxT_le (mac_bus hv)
  unfold maxI
  omega
def useV (c : Cfg) (n : Int) : Int := c.qu - c.ke - max (maxI c) (c.co * n)
theorem useful_bad (c : Cfg) (n : Int) (w : World) (hv : macV c = false ∨ inR n = false) : Calls Try.prog 10 #[cv c, .int .i64 n] w fun e w' => e = .returned (.int .i64 0) ∧ Ext w w' := by
  have hx := Box.made w (cc c) 27
  have he := (Ext.refl w).alloc (.cells (cc c) 27)
  by_cases hm : macV c = true
  · have hi : inR n = false := by simpa [hm] using hv
    clear hv
    go_enter Try.func10, Try.ntmps10
    go_wp2_with (first | (go_at_call 11; refine (macV_any c _).mono ?_; rintro e w1 ⟨rfl, hb1⟩; have he1 := (he.trans hb1); have hx1 := (hx.ext hb1); have hc1 := hx1.cell) | (go_at_call 20; refine (inRange_any _ _).mono ?_; rintro e w2 ⟨rfl, rfl⟩))
    go_ret
    exact ⟨ret_int rfl, by assumption⟩
  · simp only [Bool.not_eq_true] at hm
    clear hv
    go_enter Try.func10, Try.ntmps10
    go_wp2_with (first | (go_at_call 11; refine (macV_any c _).mono ?_; rintro e w1 ⟨rfl, hb1⟩; have he1 := (he.trans hb1); have hx1 := (hx.ext hb1); have hc1 := hx1.cell) | (go_at_call 20; refine (inRange_any _ _).mono ?_; rintro e w2 ⟨rfl, rfl⟩))
    go_ret
    exact ⟨ret_int rfl, by assumption⟩
set_option maxHeartbeats 3200000 in
theorem useful_ok (c : Cfg) (n : Int) (w : World) (hv : macV c = true) (hi : inR n = true) : Calls Try.prog 10 #[cv c, .int .i64 n] w fun e w' => e = .returned (.int .i64 (useV c n)) ∧ Ext w w' := by
  have hx := Box.made w (cc c) 27
  have he := (Ext.refl w).alloc (.cells (cc c) 27)
  obtain ⟨_, ⟨q1, q2, q3, q4⟩, _⟩ := mac_le hv
  obtain ⟨b1, b2, b3, b4, b5, b6, b7⟩ := bus_le (mac_bus hv)
  obtain ⟨i1, i2⟩ := in_le hi
  obtain ⟨x1, x2⟩ := maxI_le hv
  have p1 : 0 ≤ c.co * n := Int.mul_nonneg (by omega) (by omega)
  have p2 : c.co * n ≤ 4 * 1099511627776 := Int.mul_le_mul (by omega) (by omega) (by omega) (by omega)
  by_cases h1 : maxI c < c.co * n
  all_goals (
    go_enter Try.func10, Try.ntmps10
    go_wp2_with (first | (go_at_call 11; refine (macV_any c _).mono ?_; rintro e w1 ⟨rfl, hb1⟩; have he1 := (he.trans hb1).drew; have hx1 := (hx.ext hb1).drew; have hc1 := hx1.cell) | (go_at_call 20; refine (inRange_any _ _).mono ?_; rintro e w2 ⟨rfl, rfl⟩))
    go_region_held3 (fun w' => Box w.heap.size (cc c) 27 w' ∧ Ext w w' ∧ ∀ o, w'.cell? ⟨w.heap.size, o, none⟩ = (cc c)[o]?)
      (first | exact ⟨by assumption, by assumption, by assumption⟩ | exact ⟨hx1, he1, hx1.cell⟩)
      (first | (go_at_call 21; refine (maxInstr_ok c _ hv).mono ?_; rintro e w2 ⟨rfl, hb2⟩; go_split_ands; have he2 := Ext.trans (by assumption : Ext w _) hb2; have hx2 := Box.ext (by assumption : Box w.heap.size _ 27 _) hb2; have hc2 := hx2.cell) | (go_at_call 9; refine (zone_ok c n _ hv hi).mono ?_; rintro e w2 ⟨rfl, hb2⟩; go_split_ands; have he2 := Ext.trans (by assumption : Ext w _) hb2; have hx2 := Box.ext (by assumption : Box w.heap.size _ 27 _) hb2; have hc2 := hx2.cell)))
  all_goals (
    go_wp2
    go_ret
    go_loud (exact ⟨ret_int (by unfold useV; go_unwrap; omega), by assumption⟩))
end Go.Proofs.Ytmhhlpnlbfjjlaa
