import Derived.Test.YtmhhlpnlbfjjlaaW7
namespace Go.Proofs.Ytmhhlpnlbfjjlaa
open Go.RowKit
theorem ranged_any (n : Int) (w : World) : Calls Try.prog 13 #[.int .i64 n] w fun e w' => e = .returned (.bool (inR n)) ∧ w = w' := by
  go_enter Try.func13, Try.ntmps13
  go_wp2
  all_goals (go_ret; exact ⟨ret_bool (by simp [inR] <;> omega), rfl⟩)
def manyQ (u r cy : Int) : Int := (cy - r + (u - r) - 1) / (u - r)
theorem manyQ_eq (u r cy : Int) : (cy - r + u - r - 1) / (u - r) = manyQ u r cy := by
  unfold manyQ
  rw [show cy - r + u - r - 1 = cy - r + (u - r) - 1 from by omega]
theorem manyQ_pos (u r cy : Int) (h : r < u) (k : u < cy) : 0 < manyQ u r cy := by
  unfold manyQ
  have h1 : 1 * (u - r) ≤ cy - r + (u - r) - 1 := by omega
  have := (Int.le_ediv_iff_mul_le (c := u - r) (by omega)).2 h1
  omega
theorem quantaM (c : Cfg) (cy n : Int) (w : World) (hv : macV c = true) (hj : inR cy = true) (hi : inR n = true) (hl : relV c < useV c n) (hk : useV c n < cy) : Calls Try.prog 7 #[cv c, .int .i64 cy, .int .i64 n] w fun e w' => e = .returned (.tuple #[.int .i64 (manyQ (useV c n) (relV c) cy), .int .i64 0]) ∧ Ext w w' := quanta_many c cy n w hv hj hi hl hk
theorem quantaRM (c : Cfg) (cy n : Int) (w : World) (hv : macV c = true) (hj : inR cy = true) (hi : inR n = true) (hl : relV c < useV c n) (hk : useV c n < cy) : Calls Try.prog 15 #[cv c, .int .i64 cy, .int .i64 n] w fun e w' => e = .returned (.int .i64 (manyQ (useV c n) (relV c) cy)) ∧ Ext w w' := by
  rw [← manyQ_eq]; exact quantaR_many c cy n w hv hj hi hl hk
end Go.Proofs.Ytmhhlpnlbfjjlaa
