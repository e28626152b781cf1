/- The law AdmissionNumbers returns true for every configuration and all numbers. Conditions: none. -/
import Derived.Test.YtmhhlpnlbfjjlaaNa
import Derived.Test.YtmhhlpnlbfjjlaaNb
import Derived.Test.YtmhhlpnlbfjjlaaNc
import Derived.Test.YtmhhlpnlbfjjlaaNd
import Derived.Test.YtmhhlpnlbfjjlaaNe
import Derived.Test.YtmhhlpnlbfjjlaaNf
import Derived.Test.YtmhhlpnlbfjjlaaNg
import Derived.Test.YtmhhlpnlbfjjlaaOp
import Derived.ChangeOld
import Derived.Below
import Derived.Lib.SmallJoins
namespace Go.Proofs.Ytmhhlpnlbfjjlaa
open Go.ChangeShapes Go.WideShapes Go.ChangeAt Go.RowKit
set_option linter.unusedVariables false

theorem walkNum (c : Cfg) (cy n : Int) (W : World) : Calls Try.prog 3 #[cv c, .int .i64 cy, .int .i64 n] W fun e w' => e = .returned (.bool true) ∧ Ext W w' := by
  by_cases hv : macV c = true
  · by_cases hi : inR n = true
    · by_cases hj : inR cy = true
      · by_cases hl : relV c < useV c n
        · by_cases hk : cy ≤ useV c n
          · exact num_one c cy n hv hj hi hl hk W
          · exact num_many c cy n hv hj hi hl (by omega) W
        · exact num_load c cy n hv hj hi (by omega) W
      · exact num_cy c cy n hv (by simpa using hj) hi W
    · by_cases hj : inR cy = true
      · exact num_n2 c cy n hv hj (by simpa using hi) W
      · exact num_n1 c cy n hv (by simpa using hj) (by simpa using hi) W
  · exact num_bad c cy n (by simpa using hv) W
set_option maxRecDepth 100000 in
theorem admissionNumbers_lifted (os : Os) (started : os.Started) (H : Type) (enc : TypeId × Value → H) :
    ReturnsInHanded {} Try.checked os 3 .any (Rows.admissionNumbersSpec.pre6 enc Try.prog Try.f3 Rows.admissionNumbersRow.domain false) (Rows.admissionNumbersSpec.post enc Try.prog Try.f3 false true false false) := by
  refine returnsInHanded_of_change (C := Try.checked) own started (by kernel_rfl) Try.func3
    (ChangeSpec.witness6 (enc := enc) (C := Try.checked) false ⟨#[], #[.agg #[.int .i64 0, .int .i64 0, .int .i64 0, .int .i64 0, .int .i64 0, .int .i64 0, .int .i64 0, .int .i64 0, .int .i64 0, .int .i64 0, .int .i64 0, .int .i64 0, .int .i64 0, .int .i64 0, .int .i64 0], .int .i64 0, .int .i64 0], []⟩ 8 (by kernel_rfl) (by kernel_rfl) (by kernel_rfl) (by kernel_rfl)) ?_
  intro W base args ds gs before hval0 hW hcnd _
  have hval : ∀ (j : Nat) t v, Try.f3.params[j]? = some t → args[j]? = some v → Value.okWide Try.prog W .any base t v := hval0
  have hW' := hW
  obtain ⟨p, q, hA0, hV, rfl, hfz, hnd⟩ := hW
  have hA : DataW.TrodAll enc Try.prog W 0 (fun _ => true) true Try.f3.params.toList args.toList ds p := hA0
  rw [Try.params3] at hA hval
  obtain ⟨v0, vs0, d0, ds0, p0, q0, hargs, rfl, rfl, h0, r0⟩ := trodAll_cons hA
  obtain ⟨v1, vs1, d1, ds1, p1, q1, rfl, rfl, rfl, h1, r1⟩ := trodAll_cons r0
  obtain ⟨v2, vs2, d2, ds2, p2, q2, rfl, rfl, rfl, h2, r2⟩ := trodAll_cons r1
  obtain ⟨rfl, rfl, rfl⟩ := trodAll_nil r2
  obtain rfl : args = #[v0, v1, v2] := by cases args; simp_all
  obtain ⟨rfl, rfl⟩ := trodVars_none hV
  have k0 := h0
  have lt0 : ∀ x ∈ p0, x.block < W.heap.size := by obtain ⟨m, hm⟩ := k0; exact DataW.trod_lt m _ _ _ hm
  have k1 := h1
  have lt1 : ∀ x ∈ p1, x.block < W.heap.size := by obtain ⟨m, hm⟩ := k1; exact DataW.trod_lt m _ _ _ hm
  have k2 := h2
  have lt2 : ∀ x ∈ p2, x.block < W.heap.size := by obtain ⟨m, hm⟩ := k2; exact DataW.trod_lt m _ _ _ hm
  obtain ⟨c, rfl⟩ := open_cfg (hval 0 27 v0 rfl rfl) h0
  obtain ⟨a, rfl, rfl, rfl, wa⟩ := open_int Try.underlying3 (hval 1 3 v1 rfl rfl) h1
  obtain ⟨b, rfl, rfl, rfl, wb⟩ := open_int Try.underlying3 (hval 2 3 v2 rfl rfl) h2
  clear hA0 hval0
  refine (walkNum c a b W).mono fun e W' ⟨he, bel⟩ => ?_
  subst he
  exact ⟨_, rfl, _, _, _, [], _, [], hW', trodAll_mk1 (shut_bool Try.underlying4 _), (trodAll_cons_mk (Below.trod laidOut (by kernel_rfl) (of_decide_eq_true (by kernel_rfl)) k0 bel lt0) (trodAll_cons_mk (Below.trod laidOut (by kernel_rfl) (of_decide_eq_true (by kernel_rfl)) k1 bel lt1) (trodAll_cons_mk (Below.trod laidOut (by kernel_rfl) (of_decide_eq_true (by kernel_rfl)) k2 bel lt2) trodAll_mk0))), rfl, bel.frame _, fun h => by cases h⟩
theorem admissionNumbers_holds : Rows.AdmissionNumbersSaid :=
  OpenClaim.holds_of_wide 3 Try.f3 rfl rfl rfl rfl rfl rfl rfl ⟨rfl, rfl, rfl, rfl, rfl⟩ rfl rfl rfl rfl rfl (by kernel_rfl) Try.func3 (by kernel_rfl)
    (of_decide_eq_true (by kernel_rfl)) (by unfold Func.isWrapper; first | (rw [if_pos (by decide +kernel)]; kernel_rfl) | (rw [if_neg (by decide +kernel)]; exact ⟨rfl, rfl⟩))
    (fun os started H enc _ => admissionNumbers_lifted os started H enc)
#print axioms admissionNumbers_holds
end Go.Proofs.Ytmhhlpnlbfjjlaa
