/- Small laws on worlds that only grow; conditions: none. -/
import Derived.Test.YtmhhlpnlbfjjlaaRows
import Derived.WalkKit
import Derived.ProofKit
import Derived.OpenShut
import Derived.WalkSpells
import Derived.WalkLawsBesides
import Derived.Handy
import Derived.Deep.QuietTactic
import Derived.BigQuiet
import Derived.Deep.RegionHeld3
namespace Go.Proofs.Ytmhhlpnlbfjjlaa
open Go.RowKit
/-- b is a with new blocks. -/
def Ext (a b : World) : Prop := Below a.heap.size a b
theorem Ext.refl (a : World) : Ext a a := Below.refl _ _
theorem Ext.trans {a b c : World} (h : Ext a b) (k : Ext b c) : Ext a c := Below.trans h (Below.mono k h.size)
theorem Ext.alloc {a b : World} (h : Ext a b) (o : Obj) : Ext a (b.alloc o) := Below.alloc h h.size o
theorem Ext.drew {a b : World} (h : Ext a b) : Ext a b.drew := Below.drew h
theorem Ext.setCell {a b : World} (h : Ext a b) {p : Addr} (hp : a.heap.size ≤ p.block) (u : Value) : Ext a (b.setCell p u) := Below.setCell h hp u
theorem Ext.size {a b : World} (h : Ext a b) : a.heap.size ≤ b.heap.size := Below.size h
theorem Ext.block {a b : World} (h : Ext a b) {k : Nat} (hk : k < a.heap.size) : b.heap[k]? = a.heap[k]? := Below.block h k hk
/-- Block k holds the cells cs of the type T. -/
def Box (k : Nat) (cs : Array Value) (T : TypeId) (w : World) : Prop := w.heap[k]? = some (.cells cs T (0, 0))
theorem Box.lt {k cs T w} (h : Box k cs T w) : k < w.heap.size := by
  unfold Box at h
  by_cases hk : k < w.heap.size
  · exact hk
  · rw [Array.getElem?_eq_none (by omega)] at h; cases h
theorem Box.cell {k cs T w} (h : Box k cs T w) (o : Nat) : w.cell? ⟨k, o, none⟩ = cs[o]? := by
  unfold Box at h
  simp [World.cell?, h]
theorem Box.free {k cs T w} (h : Box k cs T w) (o : Nat) : w.frozen? ⟨k, o, none⟩ = false := by
  unfold Box at h
  simp [World.frozen?, h]
theorem Box.ext {k cs T w w'} (h : Box k cs T w) (e : Ext w w') : Box k cs T w' := (e.block h.lt).trans h
theorem Box.made (w : World) (cs T) : Box w.heap.size cs T (w.alloc (.cells cs T)) := by
  show (w.heap.push _)[w.heap.size]? = _
  simp
theorem Box.alloc {k cs T w} (h : Box k cs T w) (o : Obj) : Box k cs T (w.alloc o) := h.ext ((Ext.refl w).alloc o)
theorem Box.drew {k cs T w} (h : Box k cs T w) : Box k cs T w.drew := h
end Go.Proofs.Ytmhhlpnlbfjjlaa
