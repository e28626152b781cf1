import Derived.Test.YtmhhlpnlbfjjlaaW1
import Derived.ChangeOld
import Derived.Below
import Derived.Lib.SmallJoins
namespace Go.Proofs.Ytmhhlpnlbfjjlaa
open Go.ChangeShapes Go.WideShapes Go.ChangeAt Go.RowKit
set_option linter.unusedVariables false
theorem own : ownKnob Try.prog.godebug = none := by kernel_rfl
theorem laidOut : laidOutB Try.prog = true := by kernel_rfl
theorem cells27 : Try.prog.cellsOf 27 = 15 := by kernel_rfl
theorem cells23 : Try.prog.cellsOf 23 = 4 := by kernel_rfl
theorem cells25 : Try.prog.cellsOf 25 = 3 := by kernel_rfl
theorem cells3 : Try.prog.cellsOf 3 = 1 := by kernel_rfl
section
variable {H : Type} {enc : TypeId × Value → H} {w : World} {base : Nat} {spare : Nat → Bool} {held : Bool}
theorem trod_i {fuel : Nat} {c : Value} {x : DataW H × List MemPlace} (h : DataW.trod enc Try.prog w base spare held fuel 3 [c] = some x) : ∃ n, c = .int .i64 n := by
  obtain ⟨n, h1, _⟩ := DataW.trod_int Try.underlying3 h
  exact ⟨n, by simpa using h1⟩
theorem trod_tim {fuel : Nat} {c0 c1 c2 c3 : Value} {x : DataW H × List MemPlace} (h : DataW.trod enc Try.prog w base spare held fuel 23 [c0, c1, c2, c3] = some x) : ∃ a b c d, c0 = .int .i64 a ∧ c1 = .int .i64 b ∧ c2 = .int .i64 c ∧ c3 = .int .i64 d := by
  obtain ⟨xs, n, _, _, _, hl, hf⟩ := DataW.trod_struct Try.underlying23 h
  match xs, hl with
  | [y0, y1, y2, y3], _ =>
    obtain ⟨a, ha⟩ := trod_i (c := c0) (by simpa [cells3] using hf 0 _ rfl)
    obtain ⟨b, hb⟩ := trod_i (c := c1) (by simpa [cells3] using hf 1 _ rfl)
    obtain ⟨c, hc⟩ := trod_i (c := c2) (by simpa [cells3] using hf 2 _ rfl)
    obtain ⟨d, hd⟩ := trod_i (c := c3) (by simpa [cells3] using hf 3 _ rfl)
    exact ⟨a, b, c, d, ha, hb, hc, hd⟩
theorem trod_cac {fuel : Nat} {c0 c1 c2 : Value} {x : DataW H × List MemPlace} (h : DataW.trod enc Try.prog w base spare held fuel 25 [c0, c1, c2] = some x) : ∃ a b c, c0 = .int .i64 a ∧ c1 = .int .i64 b ∧ c2 = .int .i64 c := by
  obtain ⟨xs, n, _, _, _, hl, hf⟩ := DataW.trod_struct Try.underlying25 h
  match xs, hl with
  | [y0, y1, y2], _ =>
    obtain ⟨a, ha⟩ := trod_i (c := c0) (by simpa [cells3] using hf 0 _ rfl)
    obtain ⟨b, hb⟩ := trod_i (c := c1) (by simpa [cells3] using hf 1 _ rfl)
    obtain ⟨c, hc⟩ := trod_i (c := c2) (by simpa [cells3] using hf 2 _ rfl)
    exact ⟨a, b, c, ha, hb, hc⟩
theorem open_cfg {r : Reach} {b0 : Nat} {v : Value} {d : DataW H} {p : List MemPlace} (hv : Value.okWide Try.prog w r b0 27 v) (h : DataW.Trod enc Try.prog w base spare held 27 v d p) : ∃ c : Cfg, v = cv c := by
  obtain ⟨cs, rfl, hsz⟩ := okWide_struct Try.underlying27 hv
  rw [cells27] at hsz
  obtain ⟨l⟩ := cs
  match l, hsz with
  | [c0, c1, c2, c3, c4, c5, c6, c7, c8, c9, c10, c11, c12, c13, c14], _ =>
    obtain ⟨fuel, hf0⟩ := h
    obtain ⟨xs, n, _, _, _, hl, hf⟩ := DataW.trod_struct Try.underlying27 hf0
    match xs, hl with
    | [y0, y1, y2, y3, y4, y5, y6, y7], _ =>
      obtain ⟨a0, rfl⟩ := trod_i (c := c0) (by simpa [cells3, Value.cells] using hf 0 _ rfl)
      obtain ⟨a1, rfl⟩ := trod_i (c := c1) (by simpa [cells3, Value.cells] using hf 1 _ rfl)
      obtain ⟨a2, rfl⟩ := trod_i (c := c2) (by simpa [cells3, Value.cells] using hf 2 _ rfl)
      obtain ⟨a3, a4, a5, a6, rfl, rfl, rfl, rfl⟩ := trod_tim (c0 := c3) (c1 := c4) (c2 := c5) (c3 := c6) (by simpa [cells23, Value.cells] using hf 3 _ rfl)
      obtain ⟨a7, a8, a9, rfl, rfl, rfl⟩ := trod_cac (c0 := c7) (c1 := c8) (c2 := c9) (by simpa [cells25, Value.cells] using hf 4 _ rfl)
      obtain ⟨a10, a11, a12, rfl, rfl, rfl⟩ := trod_cac (c0 := c10) (c1 := c11) (c2 := c12) (by simpa [cells25, Value.cells] using hf 5 _ rfl)
      obtain ⟨a13, rfl⟩ := trod_i (c := c13) (by simpa [cells3, Value.cells] using hf 6 _ rfl)
      obtain ⟨a14, rfl⟩ := trod_i (c := c14) (by simpa [cells3, Value.cells] using hf 7 _ rfl)
      exact ⟨⟨a0, a1, a2, a3, a4, a5, a6, a7, a8, a9, a10, a11, a12, a13, a14⟩, rfl⟩
end
end Go.Proofs.Ytmhhlpnlbfjjlaa
