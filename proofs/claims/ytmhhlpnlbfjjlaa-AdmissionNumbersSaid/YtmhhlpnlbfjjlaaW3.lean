import Derived.Test.YtmhhlpnlbfjjlaaW2
namespace Go.Proofs.Ytmhhlpnlbfjjlaa
open Go.RowKit
theorem mac_bus {c : Cfg} (h : macV c = true) : busV c = true := by simp [macV] at h; exact h.1.1.1.1
theorem cac_le {s a l : Int} (h : cacV s a l = true) : 1 ≤ s ∧ s ≤ 64 ∧ 1 ≤ a ∧ a ≤ 8 ∧ 1 ≤ l ∧ l ≤ 16 ∧ 1 ≤ s * a ∧ s * a ≤ 512 := by
  simp [cacV, isPow] at h
  obtain ⟨⟨⟨⟨h1, h2⟩, _⟩, h3, h4⟩, ⟨h5, h6⟩, _⟩ := h
  have h7 : 1 * 1 ≤ s * a := Int.mul_le_mul (by omega) (by omega) (by omega) (by omega)
  have h8 : s * a ≤ 64 * 8 := Int.mul_le_mul (by omega) (by omega) (by omega) (by omega)
  exact ⟨h1, h2, h3, h4, h5, h6, by omega, by omega⟩
theorem pip_le {m d t h : Int} (k : pipV m d t h = true) : 0 ≤ m ∧ m ≤ 1000 ∧ 0 ≤ d ∧ d ≤ 1000 ∧ 0 ≤ t ∧ t ≤ 1000 ∧ 0 ≤ h ∧ h ≤ 1000 := by
  simp [pipV] at k
  omega
theorem mac_le {c : Cfg} (h : macV c = true) : (0 ≤ c.mu ∧ c.mu ≤ 1000 ∧ 0 ≤ c.di ∧ c.di ≤ 1000 ∧ 0 ≤ c.ta ∧ c.ta ≤ 1000 ∧ 0 ≤ c.ha ∧ c.ha ≤ 1000) ∧ (1 ≤ c.qu ∧ c.qu ≤ 16777216 ∧ 0 ≤ c.ke ∧ c.ke ≤ c.qu) ∧
    cacV c.is c.iw c.il = true ∧ cacV c.ds c.dw c.dl = true := by
  simp [macV] at h
  obtain ⟨⟨⟨⟨h1, h2⟩, h3⟩, h4⟩, h5⟩ := h
  exact ⟨pip_le h2, by omega, h3, h4⟩
theorem maxT_le {c : Cfg} (h : busV c = true) : 1 ≤ maxT c ∧ maxT c ≤ 4999999 := by
  obtain ⟨b1, b2, b3, b4, b5, b6, b7⟩ := bus_le h
  unfold maxT
  omega
theorem flush_any (s a l : Int) (w : World) (h : cacV s a l = true) : Calls Try.prog 17 #[.agg #[.int .i64 s, .int .i64 a, .int .i64 l]] w fun e w' => e = .returned (.int .i64 (s * a)) ∧ Ext w w' := by
  have hx := Box.made w #[.int .i64 s, .int .i64 a, .int .i64 l] 25
  have he := (Ext.refl w).alloc (.cells #[.int .i64 s, .int .i64 a, .int .i64 l] 25)
  obtain ⟨b1, b2, b3, b4, b5, b6, b7, b8⟩ := cac_le h
  go_enter Try.func17, Try.ntmps17
  go_wp2_with (go_at_call 24; refine (cacV_any _ _ _ _).mono ?_; rintro e w1 ⟨rfl, hb1⟩; have he1 := he.trans hb1; have hx1 := hx.ext hb1; have hc1 := hx1.cell)
  go_ret
  exact ⟨ret_int (by first | rfl | (go_unwrap; done) | (go_unwrap; rfl)), by assumption⟩
theorem reload_bad (c : Cfg) (w : World) (hv : macV c = false) : Calls Try.prog 8 #[cv c] w fun e w' => e = .returned (.int .i64 0) ∧ Ext w w' := by
  have hx := Box.made w (cc c) 27
  have he := (Ext.refl w).alloc (.cells (cc c) 27)
  go_enter Try.func8, Try.ntmps8
  go_wp2_with (go_at_call 11; refine (macV_any c _).mono ?_; rintro e w1 ⟨rfl, hb1⟩; have he1 := (he.trans hb1); have hx1 := (hx.ext hb1); have hc1 := hx1.cell)
  go_ret
  exact ⟨ret_int (by first | rfl | (go_unwrap; done) | (go_unwrap; rfl)), by assumption⟩
theorem reload_ok (c : Cfg) (w : World) (hv : macV c = true) : Calls Try.prog 8 #[cv c] w fun e w' => e = .returned (.int .i64 ((c.is * c.iw + c.ds * c.dw) * maxT c)) ∧ Ext w w' := by
  have hx := Box.made w (cc c) 27
  have he := (Ext.refl w).alloc (.cells (cc c) 27)
  obtain ⟨_, _, m3, m4⟩ := mac_le hv
  have hbv := mac_bus hv
  obtain ⟨b1, b2⟩ := maxT_le hbv
  obtain ⟨c1, c2, c3, c4, c5, c6, c7, c8⟩ := cac_le m3
  obtain ⟨d1, d2, d3, d4, d5, d6, d7, d8⟩ := cac_le m4
  have p1 : 2 * 1 ≤ (c.is * c.iw + c.ds * c.dw) * maxT c := Int.mul_le_mul (by omega) (by omega) (by omega) (by omega)
  have p2 : (c.is * c.iw + c.ds * c.dw) * maxT c ≤ 1024 * 4999999 := Int.mul_le_mul (by omega) (by omega) (by omega) (by omega)
  go_enter Try.func8, Try.ntmps8
  go_wp2_with (go_at_call 11; refine (macV_any c _).mono ?_; rintro e w1 ⟨rfl, hb1⟩; have he1 := (he.trans hb1).drew; have hx1 := (hx.ext hb1).drew; have hc1 := hx1.cell)
  go_region_held3 (fun w' => Box w.heap.size (cc c) 27 w' ∧ Ext w w' ∧ ∀ o, w'.cell? ⟨w.heap.size, o, none⟩ = (cc c)[o]?)
    (first | exact ⟨by assumption, by assumption, by assumption⟩ | exact ⟨hx1, he1, hx1.cell⟩)
    (first | (go_at_call 17; refine (flush_any _ _ _ _ (by assumption)).mono ?_; rintro e w2 ⟨rfl, hb2⟩; go_split_ands; have he2 := Ext.trans (by assumption : Ext w _) hb2; have hx2 := Box.ext (by assumption : Box w.heap.size _ 27 _) hb2; have hc2 := hx2.cell) | (go_at_call 18; refine (maxTransfer_any c _ hbv).mono ?_; rintro e w2 ⟨rfl, hb2⟩; go_split_ands; have he2 := Ext.trans (by assumption : Ext w _) hb2; have hx2 := Box.ext (by assumption : Box w.heap.size _ 27 _) hb2; have hc2 := hx2.cell))
  go_wp2
  go_ret
  exact ⟨ret_int (by first | rfl | (go_unwrap; done) | (go_unwrap; rfl)), by assumption⟩
theorem zone_bad (c : Cfg) (n : Int) (w : World) (hv : macV c = false ∨ inR n = false) : Calls Try.prog 9 #[cv c, .int .i64 n] w fun e w' => e = .returned (.int .i64 0) ∧ Ext w w' := by
  have hx := Box.made w (cc c) 27
  have he := (Ext.refl w).alloc (.cells (cc c) 27)
  by_cases hm : macV c = true
  · have hi : inR n = false := by simpa [hm] using hv
    clear hv
    go_enter Try.func9, Try.ntmps9
    go_wp2_with (first | (go_at_call 11; refine (macV_any c _).mono ?_; rintro e w1 ⟨rfl, hb1⟩; have he1 := (he.trans hb1); have hx1 := (hx.ext hb1); have hc1 := hx1.cell) | (go_at_call 20; refine (inRange_any _ _).mono ?_; rintro e w2 ⟨rfl, rfl⟩))
    go_ret
    exact ⟨ret_int (by first | rfl | (go_unwrap; done) | (go_unwrap; rfl)), by assumption⟩
  · simp only [Bool.not_eq_true] at hm
    clear hv
    go_enter Try.func9, Try.ntmps9
    go_wp2_with (first | (go_at_call 11; refine (macV_any c _).mono ?_; rintro e w1 ⟨rfl, hb1⟩; have he1 := (he.trans hb1); have hx1 := (hx.ext hb1); have hc1 := hx1.cell) | (go_at_call 20; refine (inRange_any _ _).mono ?_; rintro e w2 ⟨rfl, rfl⟩))
    go_ret
    exact ⟨ret_int (by first | rfl | (go_unwrap; done) | (go_unwrap; rfl)), by assumption⟩
theorem in_le {n : Int} (h : inR n = true) : 0 ≤ n ∧ n ≤ 1099511627776 := by simpa [inR] using h
theorem zone_ok (c : Cfg) (n : Int) (w : World) (hv : macV c = true) (hi : inR n = true) : Calls Try.prog 9 #[cv c, .int .i64 n] w fun e w' => e = .returned (.int .i64 (c.co * n)) ∧ Ext w w' := by
  have hx := Box.made w (cc c) 27
  have he := (Ext.refl w).alloc (.cells (cc c) 27)
  obtain ⟨b1, b2, b3, b4, b5, b6, b7⟩ := bus_le (mac_bus hv)
  obtain ⟨i1, i2⟩ := in_le hi
  have p1 : 0 ≤ c.co * n := Int.mul_nonneg (by omega) (by omega)
  have p2 : c.co * n ≤ 4 * 1099511627776 := Int.mul_le_mul (by omega) (by omega) (by omega) (by omega)
  go_enter Try.func9, Try.ntmps9
  go_wp2_with (first | (go_at_call 11; refine (macV_any c _).mono ?_; rintro e w1 ⟨rfl, hb1⟩; have he1 := (he.trans hb1); have hx1 := (hx.ext hb1); have hc1 := hx1.cell) | (go_at_call 20; refine (inRange_any _ _).mono ?_; rintro e w2 ⟨rfl, rfl⟩))
  go_ret
  exact ⟨ret_int (by first | rfl | (go_unwrap; done) | (go_unwrap; rfl)), by assumption⟩
end Go.Proofs.Ytmhhlpnlbfjjlaa
