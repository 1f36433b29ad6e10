/- What the cells of a law's parameters hold, type by type: printed by rowgen.py of this seat's proofs. -/
import Derived.Test.YtnkkbeafcfjkmaaGreatDoorRows
import Derived.WalkKit
import Derived.ProofKit
import Derived.OpenShut
import Derived.ShutString
import Derived.ChangeOld
import Derived.Below
import Derived.Deep.Slices
import Derived.Carry
namespace Go.Proofs.YtnkkbeafcfjkmaaGreatDoor
open Go.ChangeShapes Go.WideShapes Go.ChangeAt Go.RowKit Go.Deep
set_option linter.unusedVariables false

def IsInt (k : IntKind) (cs : List Value) : Prop := ∃ n, cs = [.int k n] ∧ (Lit.int k n).wf = true
def IsBool (cs : List Value) : Prop := ∃ b, cs = [.bool b]
def IsStr (cs : List Value) : Prop := ∃ s : ByteArray, cs = [.string s] ∧ s.size ≤ maxLen
def IsSl (size : Nat) (El : World → List Value → Prop) (w : World) (cs : List Value) : Prop :=
  cs = [.slice none 0 0] ∨ ∃ (a : Addr) (len cap : Nat), cs = [.slice (some a) len cap] ∧ len ≤ cap ∧ cap ≤ maxLen ∧
    ∀ i, i < len → ∃ es, es.length = size ∧ (∀ j, j < size → w.cell? ((a.add (i * size)).add j) = es[j]?) ∧ El w es

section
variable {H : Type} {enc : TypeId × Value → H} {P : Program} {w : World} {base : Nat} {spare : Nat → Bool} {held : Bool} {fuel : Nat} {t : TypeId} {cs : List Value} {x : DataW H × List MemPlace}
theorem tr_int {k : IntKind} (ht : P.underlying t = some (.int k)) (h : DataW.trod enc P w base spare held fuel t cs = some x) : IsInt k cs := by
  obtain ⟨n, h1, _, h2⟩ := DataW.trod_int ht h
  exact ⟨n, h1, h2⟩
theorem tr_bool (ht : P.underlying t = some .bool) (h : DataW.trod enc P w base spare held fuel t cs = some x) : IsBool cs := by
  obtain ⟨b, h1, _⟩ := DataW.trod_bool ht h
  exact ⟨b, h1⟩
theorem tr_str (ht : P.underlying t = some .string) (h : DataW.trod enc P w base spare held fuel t cs = some x) : IsStr cs := by
  obtain ⟨s, h1, _, h2⟩ := DataW.trod_string ht h
  exact ⟨s, h1, h2⟩
theorem tr_slice {e : TypeId} {size : Nat} {El : World → List Value → Prop} (ht : P.underlying t = some (.slice e)) (hc : P.cellsOf e = size)
    (hel : ∀ (m : Nat) (es : List Value) (y : DataW H × List MemPlace), DataW.trod enc P w base spare held m e es = some y → El w es)
    (h : DataW.trod enc P w base spare held fuel t cs = some x) : IsSl size El w cs := by
  subst hc
  rcases open_slice ht h with ⟨h0, _⟩ | ⟨a, len, cap, m, n, D, Pl, hcs, hb, hl, hm, hmm, hx, hi⟩
  · exact .inl h0
  · refine .inr ⟨a, len, cap, hcs, hl, hm, fun i him => ?_⟩
    obtain ⟨es, h1, h2⟩ := hi i (by rw [hmm]; split <;> omega)
    obtain ⟨_, h3, h4⟩ := World.cells?_some h1
    exact ⟨es, h3, h4, hel _ _ _ h2⟩
theorem cells_plain {v : Value} {r : Reach} (hu : ∀ fs, P.underlying t ≠ some (.struct fs)) (hn : ∀ n e, P.underlying t ≠ some (.array n e)) (hv : Value.okWide P w r base t v) : v.cells = #[v] := by
  unfold Value.okWide at hv
  split at hv
  · rename_i fs h; exact absurd h (hu fs)
  · rename_i n e h; exact absurd h (hn n e)
  · unfold Cell.okWide at hv
    cases v <;> first | rfl | (split at hv <;> simp_all [Cell.ok])
end

def IsFate (w : World) (cs : List Value) : Prop := ∃ (c0 c1 : List Value), cs = c0 ++ c1 ∧ IsInt .i64 c0 ∧ IsInt .i64 c1

set_option maxRecDepth 100000 in
theorem tr_Fate {H : Type} {enc : TypeId × Value → H} {w : World} {base : Nat} {spare : Nat → Bool} {held : Bool} {fuel : Nat} {t : TypeId} {cs : List Value} {x : DataW H × List MemPlace} (ht : Tryz.prog.underlying t = Tryz.prog.underlying 80) (hc : Tryz.prog.cellsOf t = 2) (h : DataW.trod enc Tryz.prog w base spare held fuel t cs = some x) : IsFate w cs := by
  obtain ⟨xs, m, _, _, hlen, hxs, hf⟩ := DataW.trod_struct (ht.trans Tryz.underlying80) h
  rw [hc] at hlen
  match cs, hlen with
  | [a0, a1], _ =>
    have e0 : DataW.trod enc Tryz.prog w base spare held m 3 [a0] = some (xs[0]'(by rw [hxs]; decide)) := by
      have this : DataW.trod enc Tryz.prog w base spare held m 3 (([a0, a1].drop 0).take (Tryz.prog.cellsOf 3)) = xs[0]? := hf 0 _ rfl
      rw [show Tryz.prog.cellsOf 3 = 1 from by kernel_rfl, List.getElem?_eq_getElem (by rw [hxs]; decide)] at this
      exact this
    have e1 : DataW.trod enc Tryz.prog w base spare held m 3 [a1] = some (xs[1]'(by rw [hxs]; decide)) := by
      have this : DataW.trod enc Tryz.prog w base spare held m 3 (([a0, a1].drop 1).take (Tryz.prog.cellsOf 3)) = xs[1]? := hf 1 _ rfl
      rw [show Tryz.prog.cellsOf 3 = 1 from by kernel_rfl, List.getElem?_eq_getElem (by rw [hxs]; decide)] at this
      exact this
    exact ⟨[a0], [a1], rfl, tr_int Tryz.underlying3 e0, tr_int Tryz.underlying3 e1⟩

def IsOp (w : World) (cs : List Value) : Prop := ∃ (c0 c1 c2 c3 c4 c5 c6 : List Value), cs = c0 ++ c1 ++ c2 ++ c3 ++ c4 ++ c5 ++ c6 ∧ IsInt .i64 c0 ∧ IsInt .i64 c1 ∧ IsStr c2 ∧ IsInt .u64 c3 ∧ IsBool c4 ∧ IsBool c5 ∧ IsSl 2 (fun w c => IsFate w c) w c6

set_option maxRecDepth 100000 in
theorem tr_Op {H : Type} {enc : TypeId × Value → H} {w : World} {base : Nat} {spare : Nat → Bool} {held : Bool} {fuel : Nat} {t : TypeId} {cs : List Value} {x : DataW H × List MemPlace} (ht : Tryz.prog.underlying t = Tryz.prog.underlying 34) (hc : Tryz.prog.cellsOf t = 7) (h : DataW.trod enc Tryz.prog w base spare held fuel t cs = some x) : IsOp w cs := by
  obtain ⟨xs, m, _, _, hlen, hxs, hf⟩ := DataW.trod_struct (ht.trans Tryz.underlying34) h
  rw [hc] at hlen
  match cs, hlen with
  | [a0, a1, a2, a3, a4, a5, a6], _ =>
    have e0 : DataW.trod enc Tryz.prog w base spare held m 3 [a0] = some (xs[0]'(by rw [hxs]; decide)) := by
      have this : DataW.trod enc Tryz.prog w base spare held m 3 (([a0, a1, a2, a3, a4, a5, a6].drop 0).take (Tryz.prog.cellsOf 3)) = xs[0]? := hf 0 _ rfl
      rw [show Tryz.prog.cellsOf 3 = 1 from by kernel_rfl, List.getElem?_eq_getElem (by rw [hxs]; decide)] at this
      exact this
    have e1 : DataW.trod enc Tryz.prog w base spare held m 3 [a1] = some (xs[1]'(by rw [hxs]; decide)) := by
      have this : DataW.trod enc Tryz.prog w base spare held m 3 (([a0, a1, a2, a3, a4, a5, a6].drop 1).take (Tryz.prog.cellsOf 3)) = xs[1]? := hf 1 _ rfl
      rw [show Tryz.prog.cellsOf 3 = 1 from by kernel_rfl, List.getElem?_eq_getElem (by rw [hxs]; decide)] at this
      exact this
    have e2 : DataW.trod enc Tryz.prog w base spare held m 9 [a2] = some (xs[2]'(by rw [hxs]; decide)) := by
      have this : DataW.trod enc Tryz.prog w base spare held m 9 (([a0, a1, a2, a3, a4, a5, a6].drop 2).take (Tryz.prog.cellsOf 9)) = xs[2]? := hf 2 _ rfl
      rw [show Tryz.prog.cellsOf 9 = 1 from by kernel_rfl, List.getElem?_eq_getElem (by rw [hxs]; decide)] at this
      exact this
    have e3 : DataW.trod enc Tryz.prog w base spare held m 32 [a3] = some (xs[3]'(by rw [hxs]; decide)) := by
      have this : DataW.trod enc Tryz.prog w base spare held m 32 (([a0, a1, a2, a3, a4, a5, a6].drop 3).take (Tryz.prog.cellsOf 32)) = xs[3]? := hf 3 _ rfl
      rw [show Tryz.prog.cellsOf 32 = 1 from by kernel_rfl, List.getElem?_eq_getElem (by rw [hxs]; decide)] at this
      exact this
    have e4 : DataW.trod enc Tryz.prog w base spare held m 4 [a4] = some (xs[4]'(by rw [hxs]; decide)) := by
      have this : DataW.trod enc Tryz.prog w base spare held m 4 (([a0, a1, a2, a3, a4, a5, a6].drop 4).take (Tryz.prog.cellsOf 4)) = xs[4]? := hf 4 _ rfl
      rw [show Tryz.prog.cellsOf 4 = 1 from by kernel_rfl, List.getElem?_eq_getElem (by rw [hxs]; decide)] at this
      exact this
    have e5 : DataW.trod enc Tryz.prog w base spare held m 4 [a5] = some (xs[5]'(by rw [hxs]; decide)) := by
      have this : DataW.trod enc Tryz.prog w base spare held m 4 (([a0, a1, a2, a3, a4, a5, a6].drop 5).take (Tryz.prog.cellsOf 4)) = xs[5]? := hf 5 _ rfl
      rw [show Tryz.prog.cellsOf 4 = 1 from by kernel_rfl, List.getElem?_eq_getElem (by rw [hxs]; decide)] at this
      exact this
    have e6 : DataW.trod enc Tryz.prog w base spare held m 33 [a6] = some (xs[6]'(by rw [hxs]; decide)) := by
      have this : DataW.trod enc Tryz.prog w base spare held m 33 (([a0, a1, a2, a3, a4, a5, a6].drop 6).take (Tryz.prog.cellsOf 33)) = xs[6]? := hf 6 _ rfl
      rw [show Tryz.prog.cellsOf 33 = 1 from by kernel_rfl, List.getElem?_eq_getElem (by rw [hxs]; decide)] at this
      exact this
    exact ⟨[a0], [a1], [a2], [a3], [a4], [a5], [a6], rfl, tr_int Tryz.underlying3 e0, tr_int Tryz.underlying3 e1, tr_str Tryz.underlying9 e2, tr_int Tryz.underlying32 e3, tr_bool Tryz.underlying4 e4, tr_bool Tryz.underlying4 e5, tr_slice Tryz.underlying33 (by kernel_rfl) (fun _ _ _ h => tr_Fate (t := 81) (by kernel_rfl) (by kernel_rfl) h) e6⟩

end Go.Proofs.YtnkkbeafcfjkmaaGreatDoor
