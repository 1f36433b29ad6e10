
/- More of frames. -/
import Derived.Test.YtdoenmokahbeaaaGreatDoorMem
namespace Go.Proofs.YtdoenmokahbeaaaGreatDoor
open Go.RowKit

theorem Keeps.cell {S : Nat → Prop} {a b : World} (k : Keeps S a b) {p : Addr} {v : Value} (h : a.cell? p = some v) (hn : ¬ S p.block) : b.cell? p = some v := by
  have hlt : p.block < a.heap.size := World.block_lt_of_cell? a p h
  rw [World.cell?_of_block (k.block p.block hlt hn)]
  exact h
theorem Keeps.frozen {S : Nat → Prop} {a b : World} (k : Keeps S a b) {p : Addr} (hlt : p.block < a.heap.size) (hn : ¬ S p.block) : b.frozen? p = a.frozen? p :=
  World.frozen?_of_block (k.block p.block hlt hn)
theorem Keeps.lt {S : Nat → Prop} {a b : World} (k : Keeps S a b) {i : Nat} (h : i < a.heap.size) : i < b.heap.size := Nat.lt_of_lt_of_le h k.size

theorem Keeps.box {S : Nat → Prop} {w w1 : World} {cs : Array Value} {t : TypeId} (k : Keeps S (w.alloc (.cells cs t)) w1) {j : Nat} {v : Value} (h : cs[j]? = some v) (hn : ¬ S w.heap.size) : w1.cell? ⟨w.heap.size, j, none⟩ = some v := by
  refine k.cell ?_ hn
  exact cell_at (heap_alloc_new' w _) j h
theorem Keeps.trans_alloc {S : Nat → Prop} {w w1 : World} {o : Obj} (k : Keeps S (w.alloc o) w1) : Keeps S w w1 := (Keeps.refl S w).alloc o |>.trans k

end Go.Proofs.YtdoenmokahbeaaaGreatDoor
