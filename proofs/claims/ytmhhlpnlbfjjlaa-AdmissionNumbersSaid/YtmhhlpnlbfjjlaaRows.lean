/-
  No cell of these rows narrows 'for every input' (looked for: loops, veiled, ifaces, maps, wideKeys, modest, calm, conditions, laid).
  DERIVED. THE GIVEN ROWS OF THIS SEAT. 3 by the template 'for every input the law returns true; each argument reads behind the call as it read before'; 0 by the template 'total and deterministic' (their statements: YtmhhlpnlbfjjlaaTotals.lean).
  GIVEN WITH THE SEED: the statements are not yours to turn. If you find one false, say at which input.
  Laid BY PROGRAM, IN A SANDBOX (cutbox-rows.mjs): the forced cells as the released guide's own fill.sh prints them over the translation b014ff8c3a68337f… (all of the seat's roots in one cut). By AI agents, Wed Nov 11 2026. No macro, syntax, notation, axiom, sorry.
-/
import Derived.Test.YtmhhlpnlbfjjlaaChecked
import GoSem.Claim
import GoSem.ClaimJoined
import GoSem.ClaimMapViews
import Derived.JoinedTies
import Derived.KernelRfl
namespace Go.Proofs.Ytmhhlpnlbfjjlaa
/- THE CELL 'sum', in the pinned program and in every row, IS THE sha256 OF THE DUMP (.gsa) THAT YtmhhlpnlbfjjlaaProg.lean LOADS. Nothing in Lean hashes anything: it is a label: what it is worth is what the hold of that sum in a sandbox is worth. -/
noncomputable def Try.pinned : Pinned := { name := "ytmhhlpnlbfjjlaa", sum := "b014ff8c3a68337ff4281d75e657dbfce576db1188446efec4b5d642f7a349b4", checked := Try.checked }
namespace Rows
def none {H : Type} : Left H := { results := [], args := [] }

/-- 'ontimelaw48.AdmissionNumbers': WHATEVER THE INPUT: true; the input reads as it did. -/
def admissionNumbersSpec : ChangeSpec := { name := "admissionNumbers", fn := fun _ => fun
  | [d1, d2, d3] => { results := [.lit (.bool true)], args := [d1, d2, d3] }
  | _ => none }
def admissionNumbersRow : OpenClaim := { program := "ytmhhlpnlbfjjlaa", sum := "b014ff8c3a68337ff4281d75e657dbfce576db1188446efec4b5d642f7a349b4", func := "ontime/ontimelaw48.AdmissionNumbers", spec := "admissionNumbers", apart := false }
def AdmissionNumbersSaid : Prop := admissionNumbersRow.holds Try.pinned (OpenSpec.ofChange admissionNumbersSpec)

/-- ITS FALSE NEIGHBOUR: 'it returns false'. Refute it at one input. -/
def admissionNumbersWrong : ChangeSpec := { name := "admissionNumbers", fn := fun _ => fun
  | [d1, d2, d3] => { results := [.lit (.bool false)], args := [d1, d2, d3] }
  | _ => none }
def AdmissionNumbersWrongFalsely : Prop := admissionNumbersRow.holds Try.pinned (OpenSpec.ofChange admissionNumbersWrong)

/-- 'ontimelaw48.AdmissionLeast': WHATEVER THE INPUT: true; the input reads as it did. -/
def admissionLeastSpec : ChangeSpec := { name := "admissionLeast", fn := fun _ => fun
  | [d1, d2, d3] => { results := [.lit (.bool true)], args := [d1, d2, d3] }
  | _ => none }
def admissionLeastRow : OpenClaim := { program := "ytmhhlpnlbfjjlaa", sum := "b014ff8c3a68337ff4281d75e657dbfce576db1188446efec4b5d642f7a349b4", func := "ontime/ontimelaw48.AdmissionLeast", spec := "admissionLeast", unfollowed := true, recurses := true, apart := false }
def AdmissionLeastSaid : Prop := admissionLeastRow.holds Try.pinned (OpenSpec.ofChange admissionLeastSpec)

/-- ITS FALSE NEIGHBOUR: 'it returns false'. Refute it at one input. -/
def admissionLeastWrong : ChangeSpec := { name := "admissionLeast", fn := fun _ => fun
  | [d1, d2, d3] => { results := [.lit (.bool false)], args := [d1, d2, d3] }
  | _ => none }
def AdmissionLeastWrongFalsely : Prop := admissionLeastRow.holds Try.pinned (OpenSpec.ofChange admissionLeastWrong)

/-- 'ontimelaw48.AdmissionReload': WHATEVER THE INPUT: true; the input reads as it did. -/
def admissionReloadSpec : ChangeSpec := { name := "admissionReload", fn := fun _ => fun
  | [d] => { results := [.lit (.bool true)], args := [d] }
  | _ => none }
def admissionReloadRow : OpenClaim := { program := "ytmhhlpnlbfjjlaa", sum := "b014ff8c3a68337ff4281d75e657dbfce576db1188446efec4b5d642f7a349b4", func := "ontime/ontimelaw48.AdmissionReload", spec := "admissionReload", apart := false }
def AdmissionReloadSaid : Prop := admissionReloadRow.holds Try.pinned (OpenSpec.ofChange admissionReloadSpec)

/-- ITS FALSE NEIGHBOUR: 'it returns false'. Refute it at one input. -/
def admissionReloadWrong : ChangeSpec := { name := "admissionReload", fn := fun _ => fun
  | [d] => { results := [.lit (.bool false)], args := [d] }
  | _ => none }
def AdmissionReloadWrongFalsely : Prop := admissionReloadRow.holds Try.pinned (OpenSpec.ofChange admissionReloadWrong)

/- THE SECOND FORM. 'bulk': how many values and letters a reading holds, each counted each time it is reached (what is shared counts as often as it is met; a slice's spare places count too). A statement '..UptoSaid' is the law's where the arguments, and the package variables that the reading takes, are together of bulk at most 1048576: NARROWER than '..Said'. Prove '..Said' where nothing that the law and all that it calls make is longer than what came in: it says more and counts as full. Else prove '..UptoSaid'. A law counts once. -/
mutual
def uptoBulk {H : Type} : DataW H → Nat
  | .lit (.string bytes) => bytes.length + 1
  | .lit _ => 1
  | .nil => 1
  | .ptr d => uptoBulk d + 1
  | .slice elems spare => uptoBulkAll elems + uptoBulkAll spare + 1
  | .agg parts => uptoBulkAll parts + 1
  | .iface _ d => uptoBulk d + 1
  | .map entries => uptoBulkEntries entries + 1
  | .held _ => 1
def uptoBulkAll {H : Type} : List (DataW H) → Nat
  | [] => 0
  | d :: r => uptoBulk d + uptoBulkAll r
def uptoBulkEntries {H : Type} : List (Lit × DataW H) → Nat
  | [] => 0
  | x :: r => uptoBulkEntry x + uptoBulkEntries r
def uptoBulkEntry {H : Type} : Lit × DataW H → Nat
  | (.string bytes, d) => bytes.length + uptoBulk d + 1
  | (_, d) => uptoBulk d + 1
 end
def uptoSmall : (H : Type) → List (DataW H) → Bool := fun _ ds => decide (uptoBulkAll ds ≤ 1048576)
def OpenSpec.upto (s : _root_.Go.ChangeSpec) : _root_.Go.OpenSpec := { _root_.Go.OpenSpec.ofChange s with cond := some uptoSmall }

/-- 'ontimelaw48.AdmissionNumbers', WHERE WHAT IT READS IS OF BULK AT MOST 1048576: true; the input reads as it did. -/
def admissionNumbersUptoRow : OpenClaim := { program := "ytmhhlpnlbfjjlaa", sum := "b014ff8c3a68337ff4281d75e657dbfce576db1188446efec4b5d642f7a349b4", func := "ontime/ontimelaw48.AdmissionNumbers", spec := "admissionNumbers", apart := false, narrowed := true }
def AdmissionNumbersUptoSaid : Prop := admissionNumbersUptoRow.holds Try.pinned (OpenSpec.upto admissionNumbersSpec)

/-- 'ontimelaw48.AdmissionLeast', WHERE WHAT IT READS IS OF BULK AT MOST 1048576: true; the input reads as it did. -/
def admissionLeastUptoRow : OpenClaim := { program := "ytmhhlpnlbfjjlaa", sum := "b014ff8c3a68337ff4281d75e657dbfce576db1188446efec4b5d642f7a349b4", func := "ontime/ontimelaw48.AdmissionLeast", spec := "admissionLeast", unfollowed := true, recurses := true, apart := false, narrowed := true }
def AdmissionLeastUptoSaid : Prop := admissionLeastUptoRow.holds Try.pinned (OpenSpec.upto admissionLeastSpec)

/-- 'ontimelaw48.AdmissionReload', WHERE WHAT IT READS IS OF BULK AT MOST 1048576: true; the input reads as it did. -/
def admissionReloadUptoRow : OpenClaim := { program := "ytmhhlpnlbfjjlaa", sum := "b014ff8c3a68337ff4281d75e657dbfce576db1188446efec4b5d642f7a349b4", func := "ontime/ontimelaw48.AdmissionReload", spec := "admissionReload", apart := false, narrowed := true }
def AdmissionReloadUptoSaid : Prop := admissionReloadUptoRow.holds Try.pinned (OpenSpec.upto admissionReloadSpec)

end Rows
end Go.Proofs.Ytmhhlpnlbfjjlaa
