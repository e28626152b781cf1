import Derived.Test.YtmhhlpnlbfjjlaaW1
namespace Go.Proofs.Ytmhhlpnlbfjjlaa
open Go.RowKit
def macV (c : Cfg) : Bool := busV c && pipV c.mu c.di c.ta c.ha && cacV c.is c.iw c.il && cacV c.ds c.dw c.dl && decide (1 ≤ c.qu ∧ c.qu ≤ 16777216 ∧ 0 ≤ c.ke ∧ c.ke ≤ c.qu)
abbrev cc (c : Cfg) : Array Value := #[.int .i64 c.co, .int .i64 c.sl, .int .i64 c.tr, .int .i64 c.mu, .int .i64 c.di, .int .i64 c.ta, .int .i64 c.ha, .int .i64 c.is, .int .i64 c.iw, .int .i64 c.il, .int .i64 c.ds, .int .i64 c.dw, .int .i64 c.dl, .int .i64 c.qu, .int .i64 c.ke]
theorem macV_any (c : Cfg) (w : World) : Calls Try.prog 11 #[cv c] w fun e w' => e = .returned (.bool (macV c)) ∧ Ext w w' := by
  have hx := Box.made w (cc c) 27
  have he := (Ext.refl w).alloc (.cells (cc c) 27)
  go_enter Try.func11, Try.ntmps11
  go_wp2_with (first
   | (go_at_call 22; refine (busV_any c _).mono ?_; rintro e w1 ⟨rfl, hb1⟩; have he1 := he.trans hb1; have hx1 := hx.ext hb1; have hc1 := hx1.cell)
   | (go_at_call 23; refine (pipV_any _ _ _ _ _).mono ?_; rintro e w2 ⟨rfl, hb2⟩; have he2 := Ext.trans (by assumption : Ext w _) hb2; have hx2 := Box.ext (by assumption : Box w.heap.size _ 27 _) hb2; have hc2 := hx2.cell)
   | (go_at_call 24; refine (cacV_any _ _ _ _).mono ?_; rintro e w3 ⟨rfl, hb3⟩; have he3 := Ext.trans (by assumption : Ext w _) hb3;  have hx3 := Box.ext (by assumption : Box w.heap.size _ 27 _) hb3; have hc3 := hx3.cell))
  all_goals (go_ret; exact ⟨ret_bool (by simp_all [macV] <;> (intros; omega)), by first | assumption | exact he⟩)
theorem bus_le {c : Cfg} (hv : busV c = true) : 1 ≤ c.co ∧ c.co ≤ 4 ∧ 1 ≤ c.tr ∧ c.tr ≤ c.sl ∧ c.sl ≤ 1000000 ∧ 0 ≤ (c.co - 1) * c.sl ∧ (c.co - 1) * c.sl ≤ 3000000 := by
  unfold busV at hv
  rw [decide_eq_true_eq] at hv
  obtain ⟨h1, h2, h3, h4, h5⟩ := hv
  have h6 : 0 ≤ (c.co - 1) * c.sl := Int.mul_nonneg (by omega) (by omega)
  have h7 : (c.co - 1) * c.sl ≤ 3 * 1000000 := Int.mul_le_mul (by omega) (by omega) (by omega) (by omega)
  exact ⟨h1, h2, h3, h4, h5, h6, by omega⟩
theorem maxWait_any (c : Cfg) (w : World) (hv : busV c = true) : Calls Try.prog 27 #[cv c] w fun e w' => e = .returned (.int .i64 ((c.co - 1) * c.sl + c.tr - 1)) ∧ Ext w w' := by
  have hx := Box.made w (cc c) 27
  have he := (Ext.refl w).alloc (.cells (cc c) 27)
  obtain ⟨b1, b2, b3, b4, b5, b6, b7⟩ := bus_le hv
  go_enter Try.func27, Try.ntmps27
  go_wp2_with (first
   | (go_at_call 22; refine (busV_any c _).mono ?_; rintro e w1 ⟨rfl, hb1⟩; have he1 := he.trans hb1; have hx1 := hx.ext hb1; have hc1 := hx1.cell))
  go_ret
  exact ⟨ret_int rfl, by assumption⟩
def maxT (c : Cfg) : Int := (c.co - 1) * c.sl + c.tr - 1 + c.tr
theorem maxTransfer_any (c : Cfg) (w : World) (hv : busV c = true) : Calls Try.prog 18 #[cv c] w fun e w' => e = .returned (.int .i64 (maxT c)) ∧ Ext w w' := by
  have hx := Box.made w (cc c) 27
  have he := (Ext.refl w).alloc (.cells (cc c) 27)
  obtain ⟨b1, b2, b3, b4, b5, b6, b7⟩ := bus_le hv
  go_enter Try.func18, Try.ntmps18
  go_wp2_with (first
   | (go_at_call 22; refine (busV_any c _).mono ?_; rintro e w1 ⟨rfl, hb1⟩; have he1 := (he.trans hb1).drew; have hx1 := (hx.ext hb1).drew; have hc1 := hx1.cell))
  go_region_held3 (fun w' => Box w.heap.size (cc c) 27 w' ∧ Ext w w' ∧ ∀ o, w'.cell? ⟨w.heap.size, o, none⟩ = (cc c)[o]?)
    (first | exact ⟨by assumption, by assumption, by assumption⟩ | exact ⟨hx1, he1, hx1.cell⟩)
    ((go_at_call 27; refine (maxWait_any c _ hv).mono ?_; rintro e w2 ⟨rfl, hb2⟩; go_split_ands; have he2 := Ext.trans (by assumption : Ext w _) hb2; have hx2 := Box.ext (by assumption : Box w.heap.size _ 27 _) hb2; have hc2 := hx2.cell))
  go_wp2
  go_ret
  exact ⟨ret_int (by unfold maxT; go_unwrap), by assumption⟩
end Go.Proofs.Ytmhhlpnlbfjjlaa
