import Derived.Test.YtmhhlpnlbfjjlaaB
namespace Go.Proofs.Ytmhhlpnlbfjjlaa
open Go.RowKit
def inR (n : Int) : Bool := decide (0 ≤ n ∧ n ≤ 1099511627776)
def isPow (n l : Int) : Bool := decide (1 ≤ n ∧ n ≤ l) && (bits BinOp.and IntKind.i64 n (wrap64 (n - 1)) == 0)
structure Cfg where
  (co sl tr mu di ta ha is iw il ds dw dl qu ke : Int)
abbrev cv (c : Cfg) : Value := .agg #[.int .i64 c.co, .int .i64 c.sl, .int .i64 c.tr, .int .i64 c.mu, .int .i64 c.di, .int .i64 c.ta, .int .i64 c.ha, .int .i64 c.is, .int .i64 c.iw, .int .i64 c.il, .int .i64 c.ds, .int .i64 c.dw, .int .i64 c.dl, .int .i64 c.qu, .int .i64 c.ke]
def busV (c : Cfg) : Bool := decide (1 ≤ c.co ∧ c.co ≤ 4 ∧ 1 ≤ c.tr ∧ c.tr ≤ c.sl ∧ c.sl ≤ 1000000)
def pipV (m d t h : Int) : Bool := decide ((0 ≤ m ∧ m ≤ 1000) ∧ (0 ≤ d ∧ d ≤ 1000) ∧ (0 ≤ t ∧ t ≤ 1000) ∧ (0 ≤ h ∧ h ≤ 1000))
def cacV (s a l : Int) : Bool := isPow s 64 && decide (1 ≤ a ∧ a ≤ 8) && isPow l 16
theorem ret_bool {a b : Bool} (h : a = b) : Ending.returned (.bool a) = .returned (.bool b) := by rw [h]
theorem ret_int {k : IntKind} {a b : Int} (h : a = b) : Ending.returned (.int k a) = .returned (.int k b) := by rw [h]

theorem inRange_any (n : Int) (w : World) : Calls Try.prog 20 #[.int .i64 n] w fun e w' => e = .returned (.bool (inR n)) ∧ w = w' := by
  go_enter Try.func20, Try.ntmps20
  go_wp2
  all_goals (go_ret; exact ⟨ret_bool (by simp [inR] <;> omega), rfl⟩)
theorem isPower_any (n l : Int) (w : World) : Calls Try.prog 28 #[.int .i64 n, .int .i64 l] w fun e w' => e = .returned (.bool (isPow n l)) ∧ w = w' := by
  go_enter Try.func28, Try.ntmps28
  go_wp2
  all_goals (go_ret; exact ⟨ret_bool (by simp [isPow] <;> omega), rfl⟩)
theorem busV_any (c : Cfg) (w : World) : Calls Try.prog 22 #[cv c] w fun e w' => e = .returned (.bool (busV c)) ∧ Ext w w' := by
  go_enter Try.func22, Try.ntmps22
  go_wp2
  all_goals (go_ret; exact ⟨ret_bool (by unfold busV; rw [eq_comm]; first | (rw [decide_eq_true_eq]; omega) | (rw [decide_eq_false_iff_not]; omega) | (rw [decide_eq_decide]; omega)), by repeat (first | exact Ext.refl _ | apply Ext.drew | apply Ext.alloc)⟩)
theorem pipV_any (m d t h : Int) (w : World) : Calls Try.prog 23 #[.agg #[.int .i64 m, .int .i64 d, .int .i64 t, .int .i64 h]] w fun e w' => e = .returned (.bool (pipV m d t h)) ∧ Ext w w' := by
  have i0 : ∀ w, (Instr.index 42 (.agg #[.int .i64 m, .int .i64 d, .int .i64 t, .int .i64 h]) (.int .i64 0)).run Try.prog w = .ok (.int .i64 m) w := fun _ => by kernel_rfl
  have i1 : ∀ w, (Instr.index 42 (.agg #[.int .i64 m, .int .i64 d, .int .i64 t, .int .i64 h]) (.int .i64 1)).run Try.prog w = .ok (.int .i64 d) w := fun _ => by kernel_rfl
  have i2 : ∀ w, (Instr.index 42 (.agg #[.int .i64 m, .int .i64 d, .int .i64 t, .int .i64 h]) (.int .i64 2)).run Try.prog w = .ok (.int .i64 t) w := fun _ => by kernel_rfl
  have i3 : ∀ w, (Instr.index 42 (.agg #[.int .i64 m, .int .i64 d, .int .i64 t, .int .i64 h]) (.int .i64 3)).run Try.prog w = .ok (.int .i64 h) w := fun _ => by kernel_rfl
  go_enter Try.func23, Try.ntmps23
  go_wp2
  go_rounds 5
  all_goals (go_ret; exact ⟨ret_bool (by unfold pipV; rw [eq_comm]; first | (rw [decide_eq_true_eq]; omega) | (rw [decide_eq_false_iff_not]; omega) | (rw [decide_eq_decide]; omega)), by repeat (first | exact Ext.refl _ | apply Ext.drew | apply Ext.alloc)⟩)
theorem cacV_any (s a l : Int) (w : World) : Calls Try.prog 24 #[.agg #[.int .i64 s, .int .i64 a, .int .i64 l]] w fun e w' => e = .returned (.bool (cacV s a l)) ∧ Ext w w' := by
  go_enter Try.func24, Try.ntmps24
  go_wp2_with (go_at_call 28; refine (isPower_any _ _ _).mono ?_; rintro e w' ⟨rfl, rfl⟩)
  all_goals (go_ret; exact ⟨ret_bool (by simp_all [cacV] <;> omega), by repeat (first | exact Ext.refl _ | apply Ext.drew | apply Ext.alloc)⟩)
end Go.Proofs.Ytmhhlpnlbfjjlaa
