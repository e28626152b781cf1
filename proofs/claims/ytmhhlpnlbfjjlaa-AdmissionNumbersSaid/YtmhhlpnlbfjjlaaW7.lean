import Derived.Test.YtmhhlpnlbfjjlaaW6
namespace Go.Proofs.Ytmhhlpnlbfjjlaa
open Go.RowKit
abbrev smp : Cfg := ⟨1, 4, 2, 0, 0, 0, 0, 1, 1, 4, 1, 1, 1, 100, 10⟩
theorem smp_mac : macV smp = true := by decide +kernel
theorem smp_rel : relV smp = 6 := by decide +kernel
theorem smp_use : useV smp 0 = 83 := by decide +kernel
theorem sample_any (w : World) : Calls Try.prog 19 #[] w fun e w' => e = .returned (.agg #[.int .i64 1, .int .i64 4, .int .i64 2, .int .i64 0, .int .i64 0, .int .i64 0, .int .i64 0, .int .i64 1, .int .i64 1, .int .i64 4, .int .i64 1, .int .i64 1, .int .i64 1, .int .i64 100, .int .i64 10]) ∧ Ext w w' := by
  go_enter Try.func19, Try.ntmps19
  go_wp2
  go_returns
  exact ⟨rfl, by repeat (first | exact Ext.refl _ | apply Ext.drew | apply Ext.alloc)⟩
theorem ret_qe {k l : IntKind} {a b c d : Int} (h : a = b) (g : c = d) : Ending.returned (.tuple #[.int k a, .int l c]) = .returned (.tuple #[.int k b, .int l d]) := by rw [h, g]
theorem quanta_smp (cy : Int) (h0 : 0 ≤ cy) (h1 : cy ≤ 1000) (w : World) : Calls Try.prog 7 #[.agg #[.int .i64 1, .int .i64 4, .int .i64 2, .int .i64 0, .int .i64 0, .int .i64 0, .int .i64 0, .int .i64 1, .int .i64 1, .int .i64 4, .int .i64 1, .int .i64 1, .int .i64 1, .int .i64 100, .int .i64 10], .int .i64 cy, .int .i64 0] w fun e w' => e = .returned (.tuple #[.int .i64 (if cy ≤ 83 then 1 else (cy - 6 + 76) / 77), .int .i64 0]) ∧ Ext w w' := by
  have hj : inR cy = true := by unfold inR; rw [decide_eq_true_eq]; omega
  by_cases h : cy ≤ 83
  · exact (quanta_one smp cy 0 w smp_mac hj (by decide +kernel) (by decide +kernel) (by rw [smp_use]; exact h)).mono fun _ _ g => ⟨by rw [g.1, if_pos h], g.2⟩
  · exact (quanta_many smp cy 0 w smp_mac hj (by decide +kernel) (by decide +kernel) (by rw [smp_use]; omega)).mono fun _ _ g => ⟨by rw [g.1, if_neg h, smp_use, smp_rel]; exact ret_qe (by omega) rfl, g.2⟩
theorem reload_smp (w : World) : Calls Try.prog 8 #[.agg #[.int .i64 1, .int .i64 4, .int .i64 2, .int .i64 0, .int .i64 0, .int .i64 0, .int .i64 0, .int .i64 1, .int .i64 1, .int .i64 4, .int .i64 1, .int .i64 1, .int .i64 1, .int .i64 100, .int .i64 10]] w fun e w' => e = .returned (.int .i64 6) ∧ Ext w w' :=
  (reload_ok' smp w smp_mac).mono fun _ _ g => ⟨by rw [g.1, smp_rel], g.2⟩
theorem useful_smp (w : World) : Calls Try.prog 10 #[.agg #[.int .i64 1, .int .i64 4, .int .i64 2, .int .i64 0, .int .i64 0, .int .i64 0, .int .i64 0, .int .i64 1, .int .i64 1, .int .i64 4, .int .i64 1, .int .i64 1, .int .i64 1, .int .i64 100, .int .i64 10], .int .i64 0] w fun e w' => e = .returned (.int .i64 83) ∧ Ext w w' :=
  (useful_ok smp 0 w smp_mac (by decide +kernel)).mono fun _ _ g => ⟨by rw [g.1, smp_use], g.2⟩
theorem zone_smp (w : World) : Calls Try.prog 9 #[.agg #[.int .i64 1, .int .i64 4, .int .i64 2, .int .i64 0, .int .i64 0, .int .i64 0, .int .i64 0, .int .i64 1, .int .i64 1, .int .i64 4, .int .i64 1, .int .i64 1, .int .i64 1, .int .i64 100, .int .i64 10], .int .i64 4] w fun e w' => e = .returned (.int .i64 4) ∧ Ext w w' :=
  (zone_ok smp 4 w smp_mac (by decide +kernel)).mono fun _ _ g => ⟨by rw [g.1]; exact ret_int (by decide +kernel), g.2⟩
set_option maxHeartbeats 3200000 in
theorem awake_any (w : World) : Calls Try.prog 6 #[] w fun e w' => e = .returned (.bool true) ∧ Ext w w' := by
  have he := Ext.refl w
  go_enter Try.func6, Try.ntmps6
  go_wp2_with (first
    | (go_at_call 19; refine (sample_any _).mono ?_; rintro e w1 ⟨rfl, hb⟩; replace he := he.trans hb; clear hb)
    | (go_at_call 7; refine (quanta_smp _ (by decide) (by decide) _).mono ?_; rintro e w1 ⟨rfl, hb⟩; replace he := he.trans hb; clear hb)
    | (go_at_call 8; refine (reload_smp _).mono ?_; rintro e w1 ⟨rfl, hb⟩; replace he := he.trans hb; clear hb)
    | (go_at_call 10; refine (useful_smp _).mono ?_; rintro e w1 ⟨rfl, hb⟩; replace he := he.trans hb; clear hb)
    | (go_at_call 9; refine (zone_smp _).mono ?_; rintro e w1 ⟨rfl, hb⟩; replace he := he.trans hb; clear hb))
  go_ret
  go_loud (exact ⟨ret_bool rfl, he⟩)
end Go.Proofs.Ytmhhlpnlbfjjlaa
