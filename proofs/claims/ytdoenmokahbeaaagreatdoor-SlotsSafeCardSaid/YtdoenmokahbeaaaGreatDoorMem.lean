
/- Frames of worlds, and a strings.Builder in a block of whatever type: what a walk carries from call to call. -/
import Derived.Below
import Derived.Lib.FrozenHead2
import Derived.Lib.OthersKept
import Derived.WalkKit
import Derived.Deep.QuietTactic
import Derived.Lib.Strings
namespace Go.Proofs.YtdoenmokahbeaaaGreatDoor
open Go.RowKit

/-- Blocks outside S stand as they stood. -/
structure Keeps (S : Nat → Prop) (w w' : World) : Prop where
  os : w'.os = w.os
  tape : w'.tape = w.tape
  output : w'.output = w.output
  size : w.heap.size ≤ w'.heap.size
  block : ∀ k, k < w.heap.size → ¬ S k → w'.heap[k]? = w.heap[k]?

theorem Keeps.refl (S : Nat → Prop) (w : World) : Keeps S w w := ⟨rfl, rfl, rfl, Nat.le_refl _, fun _ _ _ => rfl⟩
theorem Keeps.trans' {S S' : Nat → Prop} {a b c : World} (h : Keeps S a b) (k : Keeps S' b c) (hs : ∀ i, i < a.heap.size → S' i → S i) : Keeps S a c :=
  ⟨k.os.trans h.os, k.tape.trans h.tape, k.output.trans h.output, Nat.le_trans h.size k.size, fun i hi hn => (k.block i (Nat.lt_of_lt_of_le hi h.size) (fun x => hn (hs i hi x))).trans (h.block i hi hn)⟩
theorem Keeps.trans {S : Nat → Prop} {a b c : World} (h : Keeps S a b) (k : Keeps S b c) : Keeps S a c := h.trans' k (fun _ _ x => x)
theorem Keeps.mono {S S' : Nat → Prop} {a b : World} (h : Keeps S a b) (hs : ∀ i, i < a.heap.size → S i → S' i) : Keeps S' a b :=
  ⟨h.os, h.tape, h.output, h.size, fun i hi hn => h.block i hi (fun x => hn (hs i hi x))⟩
theorem Keeps.drew {S : Nat → Prop} {a w : World} (h : Keeps S a w) : Keeps S a w.drew := ⟨h.os, h.tape, h.output, h.size, h.block⟩
theorem Keeps.drewN {S : Nat → Prop} {a w : World} (h : Keeps S a w) (n : Nat) : Keeps S a (w.drewN n) := ⟨h.os, h.tape, h.output, h.size, h.block⟩
theorem Keeps.alloc {S : Nat → Prop} {a w : World} (h : Keeps S a w) (o : Obj) : Keeps S a (w.alloc o) :=
  ⟨h.os, h.tape, h.output, by have := h.size; simp; omega, fun i hi hn => by
    rw [Below.heap_alloc _ _ _ (by have := h.size; omega)]; exact h.block i hi hn⟩
theorem Keeps.setCell {S : Nat → Prop} {a w : World} (h : Keeps S a w) (p : Addr) (u : Value) (hp : p.block < a.heap.size → S p.block) : Keeps S a (w.setCell p u) :=
  ⟨h.os, h.tape, h.output, by have := h.size; simp [World.setCell]; omega, fun i hi hn => by
    have hne : i ≠ p.block := by intro e; subst e; exact hn (hp hi)
    rw [Below.heap_setCell _ _ _ _ hne]; exact h.block i hi hn⟩
theorem Keeps.grown {S : Nat → Prop} {a w w' : World} {row : Option Nat} (h : Keeps S a w) (hg : w.grownBy w' row) (hr : ∀ k, row = some k → k < a.heap.size → S k) : Keeps S a w' :=
  ⟨hg.os.trans h.os, hg.tape.trans h.tape, hg.output.trans h.output, Nat.le_trans h.size hg.size, fun i hi hn => by
    rw [hg.block i (by have := h.size; omega) (fun e => hn (hr i e.symm hi))]; exact h.block i hi hn⟩
theorem Keeps.freeze {S : Nat → Prop} {a w : World} (h : Keeps S a w) (p : Addr) (n : Nat) (hp : p.block < a.heap.size → S p.block) : Keeps S a (w.freeze p n) := by
  unfold World.freeze
  split
  · exact h
  · exact ⟨h.os, h.tape, h.output, by have := h.size; simpa using this, fun i hi hn => by
      simp only [Array.getElem?_modify]
      have hne : p.block ≠ i := by intro e; subst e; exact hn (hp hi)
      rw [if_neg hne]; exact h.block i hi hn⟩
theorem Keeps.of_below {B : Nat} {a b : World} (h : Below B a b) : Keeps (fun k => B ≤ k) a b :=
  ⟨h.os, h.tape, h.output, h.size, fun k _ hk => h.block k (by omega)⟩
theorem Keeps.below {S : Nat → Prop} {a b : World} (h : Keeps S a b) {B : Nat} (hB : B ≤ a.heap.size) (hs : ∀ i, i < B → ¬ S i) : Below B a b :=
  ⟨h.os, h.tape, h.output, h.size, fun k hk => h.block k (by omega) (hs k hk)⟩
theorem Keeps.heap {S : Nat → Prop} {a b : World} (h : Keeps S a b) {k : Nat} {o : Obj} (ho : a.heap[k]? = some o) (hn : ¬ S k) : b.heap[k]? = some o := by
  rw [h.block k (Array.getElem?_eq_some_iff.1 ho).1 hn]; exact ho

/-- Nothing that was there has turned. -/
abbrev Adds (w w' : World) : Prop := Keeps (fun _ => False) w w'
theorem Adds.below {w w' : World} (h : Adds w w') : Below w.heap.size w w' := Keeps.below h (Nat.le_refl _) (fun _ _ x => x)
theorem Adds.of_below {w w' : World} (h : Below w.heap.size w w') : Adds w w' := (Keeps.of_below h).mono (fun _ hi hx => by omega)
theorem Adds.any {w w' : World} (h : Adds w w') (S : Nat → Prop) : Keeps S w w' := h.mono (fun _ _ x => x.elim)

theorem lt_of_heap {w : World} {k : Nat} {o : Obj} (h : w.heap[k]? = some o) : k < w.heap.size := (Array.getElem?_eq_some_iff.1 h).1
theorem heap_alloc_old' {w : World} {k : Nat} {o : Obj} (h : w.heap[k]? = some o) (x : Obj) : (w.alloc x).heap[k]? = some o := by
  rw [Below.heap_alloc _ _ _ (lt_of_heap h)]; exact h
theorem heap_alloc_new' (w : World) (x : Obj) : (w.alloc x).heap[w.heap.size]? = some x := by
  show (w.heap.push x)[w.heap.size]? = some x
  simp
theorem heap_set_same {w : World} {b : Nat} {cs : Array Value} {T : TypeId} {fr : Nat × Nat} (h : w.heap[b]? = some (.cells cs T fr)) (j : Nat) (v : Value) :
    (w.setCell ⟨b, j, none⟩ v).heap[b]? = some (.cells (cs.setIfInBounds j v) T fr) := by
  simp [World.setCell, Array.getElem?_modify, h]
theorem heap_set_other {w : World} {b k : Nat} {o : Obj} (h : w.heap[k]? = some o) (hne : k ≠ b) (j : Nat) (v : Value) :
    (w.setCell ⟨b, j, none⟩ v).heap[k]? = some o := by
  rw [Below.heap_setCell _ _ _ _ hne]; exact h
theorem cell_at {w : World} {b : Nat} {cs : Array Value} {T : TypeId} {fr : Nat × Nat} (hb : w.heap[b]? = some (.cells cs T fr)) (j : Nat) {v : Value} (hv : cs[j]? = some v) : w.cell? ⟨b, j, none⟩ = some v := by
  simp [World.cell?, hb, hv]
theorem free_at {w : World} {b : Nat} {cs : Array Value} {T : TypeId} (hb : w.heap[b]? = some (.cells cs T (0, 0))) (j : Nat) : w.frozen? ⟨b, j, none⟩ = false := by
  simp [World.frozen?, hb]

/-- A builder in block b, of type T, that holds these bytes; its buffer is nil, or lies in a block from B on. -/
def BuAt (T B b : Nat) (bs : List UInt8) (w : World) : Prop :=
  ∃ p v, (p = Value.pointer none ∨ p = Value.pointer (some ⟨b, 0, none⟩)) ∧ w.heap[b]? = some (.cells #[p, v] T (0, 0)) ∧
    w.ownsRowF B 5 1 v bs.length (Lib.byteCells bs) ∧ v.ownBlock ≠ some b

/-- What a builder's call may turn. -/
abbrev Bu (B b : Nat) : Nat → Prop := fun k => k = b ∨ B ≤ k

theorem BuAt.lt {T B b : Nat} {bs : List UInt8} {w : World} (h : BuAt T B b bs w) : b < w.heap.size := by
  obtain ⟨_, _, _, h, _⟩ := h; exact lt_of_heap h
theorem BuAt.new (T B : Nat) (w : World) : BuAt T B w.heap.size [] (w.alloc (.cells #[.pointer none, .slice none 0 0] T)) :=
  ⟨_, _, .inl rfl, heap_alloc_new' w _, World.ownsRowF_nil _ _ _ _, by simp [Value.ownBlock]⟩
theorem BuAt.keeps {T B b : Nat} {bs : List UInt8} {w w' : World} {S : Nat → Prop} (h : BuAt T B b bs w) (k : Keeps S w w') (h1 : ¬ S b) (h2 : ∀ i, B ≤ i → i < w.heap.size → ¬ S i) : BuAt T B b bs w' := by
  obtain ⟨p, v, hp, hb, hown, hne⟩ := h
  refine ⟨p, v, hp, k.heap hb h1, ⟨hown.1, ?_⟩, hne⟩
  rcases hown.2 with hn | ⟨g, cap, cur, fz, rfl, hbg, hg, rest⟩
  · exact .inl hn
  · exact .inr ⟨g, cap, cur, fz, rfl, hbg, k.heap hg (h2 g hbg (lt_of_heap hg)), rest⟩
theorem BuAt.adds {T B b : Nat} {bs : List UInt8} {w w' : World} (h : BuAt T B b bs w) (k : Adds w w') : BuAt T B b bs w' := h.keeps k id (fun _ _ _ x => x)
theorem BuAt.alloc {T B b : Nat} {bs : List UInt8} {w : World} (h : BuAt T B b bs w) (o : Obj) : BuAt T B b bs (w.alloc o) := h.adds ((Keeps.refl _ w).alloc o)
theorem BuAt.drew {T B b : Nat} {bs : List UInt8} {w : World} (h : BuAt T B b bs w) : BuAt T B b bs w.drew := h


theorem ret_int {k : IntKind} {a b : Int} (h : a = b) : Ending.returned (.int k a) = .returned (.int k b) := by rw [h]
theorem ret_bool {a b : Bool} (h : a = b) : Ending.returned (.bool a) = .returned (.bool b) := by rw [h]
theorem ret_str {a b : ByteArray} (h : a = b) : Ending.returned (.string a) = .returned (.string b) := by rw [h]

theorem str_cut (l : List UInt8) (a b : Nat) : ((⟨l.toArray⟩ : ByteArray).extract a b) = ⟨((l.take b).drop a).toArray⟩ := by
  apply ByteArray.ext
  apply Array.ext'
  rw [Lib.extract_data, List.drop_take]

theorem str_get (l : List UInt8) (i : Nat) (h : i < (⟨l.toArray⟩ : ByteArray).size) : (⟨l.toArray⟩ : ByteArray)[i] = l[i]'h := by
  rw [ByteArray.getElem_eq_getElem_data]; simp

theorem str_app (a b : List UInt8) : (⟨a.toArray⟩ : ByteArray) ++ ⟨b.toArray⟩ = ⟨(a ++ b).toArray⟩ := by
  rw [ByteArray.mk_append_mk]
theorem str_app1 (x : UInt8) (b : List UInt8) : (⟨#[x]⟩ : ByteArray) ++ ⟨b.toArray⟩ = ⟨(x :: b).toArray⟩ := str_app [x] b
theorem str_app0 (b : List UInt8) : (⟨#[]⟩ : ByteArray) ++ ⟨b.toArray⟩ = ⟨b.toArray⟩ := str_app [] b
theorem ofNat_mod (n : Nat) : UInt8.ofNat (n % 256) = UInt8.ofNat n := by
  apply UInt8.toNat_inj.1
  rw [UInt8.toNat_ofNat', UInt8.toNat_ofNat']; omega

end Go.Proofs.YtdoenmokahbeaaaGreatDoor
