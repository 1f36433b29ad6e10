/- More of frames. -/
import Derived.Test.YtbfclkjbgicncaaMem
namespace Go.Proofs.Ytbfclkjbgicncaa
open Go.RowKit

theorem Keeps.cell {S : Nat → Prop} {a b : World} (k : Keeps S a b) {p : Addr} {v : Value} (h : a.cell? p = some v) (hn : ¬ S p.block) : b.cell? p = some v := by
  have hlt : p.block < a.heap.size := World.block_lt_of_cell? a p h
  rw [World.cell?_of_block (k.block p.block hlt hn)]
  exact h
theorem Keeps.frozen {S : Nat → Prop} {a b : World} (k : Keeps S a b) {p : Addr} (hlt : p.block < a.heap.size) (hn : ¬ S p.block) : b.frozen? p = a.frozen? p :=
  World.frozen?_of_block (k.block p.block hlt hn)
theorem Keeps.lt {S : Nat → Prop} {a b : World} (k : Keeps S a b) {i : Nat} (h : i < a.heap.size) : i < b.heap.size := Nat.lt_of_lt_of_le h k.size

end Go.Proofs.Ytbfclkjbgicncaa
