/- What the cells of a law's parameters hold, type by type: printed by rowgen.py of this seat's proofs. -/
import Derived.Test.YtoeinhlmkpgjhaaGreatDoorRows
import Derived.WalkKit
import Derived.ProofKit
import Derived.OpenShut
import Derived.ShutString
import Derived.ChangeOld
import Derived.Below
import Derived.Deep.Slices
import Derived.Carry
namespace Go.Proofs.YtoeinhlmkpgjhaaGreatDoor
open Go.ChangeShapes Go.WideShapes Go.ChangeAt Go.RowKit Go.Deep
set_option linter.unusedVariables false

def IsInt (k : IntKind) (cs : List Value) : Prop := ∃ n, cs = [.int k n] ∧ (Lit.int k n).wf = true
def IsBool (cs : List Value) : Prop := ∃ b, cs = [.bool b]
def IsStr (cs : List Value) : Prop := ∃ s : ByteArray, cs = [.string s] ∧ s.size ≤ maxLen
def IsSl (size : Nat) (El : World → List Value → Prop) (w : World) (cs : List Value) : Prop :=
  cs = [.slice none 0 0] ∨ ∃ (a : Addr) (len cap : Nat), cs = [.slice (some a) len cap] ∧ len ≤ cap ∧ cap ≤ maxLen ∧
    ∀ i, i < len → ∃ es, es.length = size ∧ (∀ j, j < size → w.cell? ((a.add (i * size)).add j) = es[j]?) ∧ El w es

section
variable {H : Type} {enc : TypeId × Value → H} {P : Program} {w : World} {base : Nat} {spare : Nat → Bool} {held : Bool} {fuel : Nat} {t : TypeId} {cs : List Value} {x : DataW H × List MemPlace}
theorem tr_int {k : IntKind} (ht : P.underlying t = some (.int k)) (h : DataW.trod enc P w base spare held fuel t cs = some x) : IsInt k cs := by
  obtain ⟨n, h1, _, h2⟩ := DataW.trod_int ht h
  exact ⟨n, h1, h2⟩
theorem tr_bool (ht : P.underlying t = some .bool) (h : DataW.trod enc P w base spare held fuel t cs = some x) : IsBool cs := by
  obtain ⟨b, h1, _⟩ := DataW.trod_bool ht h
  exact ⟨b, h1⟩
theorem tr_str (ht : P.underlying t = some .string) (h : DataW.trod enc P w base spare held fuel t cs = some x) : IsStr cs := by
  obtain ⟨s, h1, _, h2⟩ := DataW.trod_string ht h
  exact ⟨s, h1, h2⟩
theorem tr_slice {e : TypeId} {size : Nat} {El : World → List Value → Prop} (ht : P.underlying t = some (.slice e)) (hc : P.cellsOf e = size)
    (hel : ∀ (m : Nat) (es : List Value) (y : DataW H × List MemPlace), DataW.trod enc P w base spare held m e es = some y → El w es)
    (h : DataW.trod enc P w base spare held fuel t cs = some x) : IsSl size El w cs := by
  subst hc
  rcases open_slice ht h with ⟨h0, _⟩ | ⟨a, len, cap, m, n, D, Pl, hcs, hb, hl, hm, hmm, hx, hi⟩
  · exact .inl h0
  · refine .inr ⟨a, len, cap, hcs, hl, hm, fun i him => ?_⟩
    obtain ⟨es, h1, h2⟩ := hi i (by rw [hmm]; split <;> omega)
    obtain ⟨_, h3, h4⟩ := World.cells?_some h1
    exact ⟨es, h3, h4, hel _ _ _ h2⟩
theorem cells_plain {v : Value} {r : Reach} (hu : ∀ fs, P.underlying t ≠ some (.struct fs)) (hn : ∀ n e, P.underlying t ≠ some (.array n e)) (hv : Value.okWide P w r base t v) : v.cells = #[v] := by
  unfold Value.okWide at hv
  split at hv
  · rename_i fs h; exact absurd h (hu fs)
  · rename_i n e h; exact absurd h (hn n e)
  · unfold Cell.okWide at hv
    cases v <;> first | rfl | (split at hv <;> simp_all [Cell.ok])
end

def IsTask (w : World) (cs : List Value) : Prop := ∃ (c0 c1 c2 c3 c4 : List Value), cs = c0 ++ c1 ++ c2 ++ c3 ++ c4 ∧ IsInt .i64 c0 ∧ IsInt .i64 c1 ∧ IsInt .i64 c2 ∧ IsInt .i64 c3 ∧ IsInt .i64 c4

set_option maxRecDepth 100000 in
theorem tr_Task {H : Type} {enc : TypeId × Value → H} {w : World} {base : Nat} {spare : Nat → Bool} {held : Bool} {fuel : Nat} {t : TypeId} {cs : List Value} {x : DataW H × List MemPlace} (ht : Tryz.prog.underlying t = Tryz.prog.underlying 28) (hc : Tryz.prog.cellsOf t = 5) (h : DataW.trod enc Tryz.prog w base spare held fuel t cs = some x) : IsTask w cs := by
  obtain ⟨xs, m, _, _, hlen, hxs, hf⟩ := DataW.trod_struct (ht.trans Tryz.underlying28) h
  rw [hc] at hlen
  match cs, hlen with
  | [a0, a1, a2, a3, a4], _ =>
    have e0 : DataW.trod enc Tryz.prog w base spare held m 3 [a0] = some (xs[0]'(by rw [hxs]; decide)) := by
      have this : DataW.trod enc Tryz.prog w base spare held m 3 (([a0, a1, a2, a3, a4].drop 0).take (Tryz.prog.cellsOf 3)) = xs[0]? := hf 0 _ rfl
      rw [show Tryz.prog.cellsOf 3 = 1 from by kernel_rfl, List.getElem?_eq_getElem (by rw [hxs]; decide)] at this
      exact this
    have e1 : DataW.trod enc Tryz.prog w base spare held m 2 [a1] = some (xs[1]'(by rw [hxs]; decide)) := by
      have this : DataW.trod enc Tryz.prog w base spare held m 2 (([a0, a1, a2, a3, a4].drop 1).take (Tryz.prog.cellsOf 2)) = xs[1]? := hf 1 _ rfl
      rw [show Tryz.prog.cellsOf 2 = 1 from by kernel_rfl, List.getElem?_eq_getElem (by rw [hxs]; decide)] at this
      exact this
    have e2 : DataW.trod enc Tryz.prog w base spare held m 2 [a2] = some (xs[2]'(by rw [hxs]; decide)) := by
      have this : DataW.trod enc Tryz.prog w base spare held m 2 (([a0, a1, a2, a3, a4].drop 2).take (Tryz.prog.cellsOf 2)) = xs[2]? := hf 2 _ rfl
      rw [show Tryz.prog.cellsOf 2 = 1 from by kernel_rfl, List.getElem?_eq_getElem (by rw [hxs]; decide)] at this
      exact this
    have e3 : DataW.trod enc Tryz.prog w base spare held m 2 [a3] = some (xs[3]'(by rw [hxs]; decide)) := by
      have this : DataW.trod enc Tryz.prog w base spare held m 2 (([a0, a1, a2, a3, a4].drop 3).take (Tryz.prog.cellsOf 2)) = xs[3]? := hf 3 _ rfl
      rw [show Tryz.prog.cellsOf 2 = 1 from by kernel_rfl, List.getElem?_eq_getElem (by rw [hxs]; decide)] at this
      exact this
    have e4 : DataW.trod enc Tryz.prog w base spare held m 3 [a4] = some (xs[4]'(by rw [hxs]; decide)) := by
      have this : DataW.trod enc Tryz.prog w base spare held m 3 (([a0, a1, a2, a3, a4].drop 4).take (Tryz.prog.cellsOf 3)) = xs[4]? := hf 4 _ rfl
      rw [show Tryz.prog.cellsOf 3 = 1 from by kernel_rfl, List.getElem?_eq_getElem (by rw [hxs]; decide)] at this
      exact this
    exact ⟨[a0], [a1], [a2], [a3], [a4], rfl, tr_int Tryz.underlying3 e0, tr_int Tryz.underlying2 e1, tr_int Tryz.underlying2 e2, tr_int Tryz.underlying2 e3, tr_int Tryz.underlying3 e4⟩

def IsOp (w : World) (cs : List Value) : Prop := ∃ (c0 c1 c2 c3 c4 c5 : List Value), cs = c0 ++ c1 ++ c2 ++ c3 ++ c4 ++ c5 ∧ IsInt .i64 c0 ∧ IsTask w c1 ∧ IsBool c2 ∧ IsInt .i64 c3 ∧ IsInt .i64 c4 ∧ IsInt .i64 c5

set_option maxRecDepth 100000 in
theorem tr_Op {H : Type} {enc : TypeId × Value → H} {w : World} {base : Nat} {spare : Nat → Bool} {held : Bool} {fuel : Nat} {t : TypeId} {cs : List Value} {x : DataW H × List MemPlace} (ht : Tryz.prog.underlying t = Tryz.prog.underlying 35) (hc : Tryz.prog.cellsOf t = 10) (h : DataW.trod enc Tryz.prog w base spare held fuel t cs = some x) : IsOp w cs := by
  obtain ⟨xs, m, _, _, hlen, hxs, hf⟩ := DataW.trod_struct (ht.trans Tryz.underlying35) h
  rw [hc] at hlen
  match cs, hlen with
  | [a0, a1, a2, a3, a4, a5, a6, a7, a8, a9], _ =>
    have e0 : DataW.trod enc Tryz.prog w base spare held m 3 [a0] = some (xs[0]'(by rw [hxs]; decide)) := by
      have this : DataW.trod enc Tryz.prog w base spare held m 3 (([a0, a1, a2, a3, a4, a5, a6, a7, a8, a9].drop 0).take (Tryz.prog.cellsOf 3)) = xs[0]? := hf 0 _ rfl
      rw [show Tryz.prog.cellsOf 3 = 1 from by kernel_rfl, List.getElem?_eq_getElem (by rw [hxs]; decide)] at this
      exact this
    have e1 : DataW.trod enc Tryz.prog w base spare held m 29 [a1, a2, a3, a4, a5] = some (xs[1]'(by rw [hxs]; decide)) := by
      have this : DataW.trod enc Tryz.prog w base spare held m 29 (([a0, a1, a2, a3, a4, a5, a6, a7, a8, a9].drop 1).take (Tryz.prog.cellsOf 29)) = xs[1]? := hf 1 _ rfl
      rw [show Tryz.prog.cellsOf 29 = 5 from by kernel_rfl, List.getElem?_eq_getElem (by rw [hxs]; decide)] at this
      exact this
    have e2 : DataW.trod enc Tryz.prog w base spare held m 4 [a6] = some (xs[2]'(by rw [hxs]; decide)) := by
      have this : DataW.trod enc Tryz.prog w base spare held m 4 (([a0, a1, a2, a3, a4, a5, a6, a7, a8, a9].drop 6).take (Tryz.prog.cellsOf 4)) = xs[2]? := hf 2 _ rfl
      rw [show Tryz.prog.cellsOf 4 = 1 from by kernel_rfl, List.getElem?_eq_getElem (by rw [hxs]; decide)] at this
      exact this
    have e3 : DataW.trod enc Tryz.prog w base spare held m 3 [a7] = some (xs[3]'(by rw [hxs]; decide)) := by
      have this : DataW.trod enc Tryz.prog w base spare held m 3 (([a0, a1, a2, a3, a4, a5, a6, a7, a8, a9].drop 7).take (Tryz.prog.cellsOf 3)) = xs[3]? := hf 3 _ rfl
      rw [show Tryz.prog.cellsOf 3 = 1 from by kernel_rfl, List.getElem?_eq_getElem (by rw [hxs]; decide)] at this
      exact this
    have e4 : DataW.trod enc Tryz.prog w base spare held m 2 [a8] = some (xs[4]'(by rw [hxs]; decide)) := by
      have this : DataW.trod enc Tryz.prog w base spare held m 2 (([a0, a1, a2, a3, a4, a5, a6, a7, a8, a9].drop 8).take (Tryz.prog.cellsOf 2)) = xs[4]? := hf 4 _ rfl
      rw [show Tryz.prog.cellsOf 2 = 1 from by kernel_rfl, List.getElem?_eq_getElem (by rw [hxs]; decide)] at this
      exact this
    have e5 : DataW.trod enc Tryz.prog w base spare held m 3 [a9] = some (xs[5]'(by rw [hxs]; decide)) := by
      have this : DataW.trod enc Tryz.prog w base spare held m 3 (([a0, a1, a2, a3, a4, a5, a6, a7, a8, a9].drop 9).take (Tryz.prog.cellsOf 3)) = xs[5]? := hf 5 _ rfl
      rw [show Tryz.prog.cellsOf 3 = 1 from by kernel_rfl, List.getElem?_eq_getElem (by rw [hxs]; decide)] at this
      exact this
    exact ⟨[a0], [a1, a2, a3, a4, a5], [a6], [a7], [a8], [a9], rfl, tr_int Tryz.underlying3 e0, tr_Task (t := 29) (by kernel_rfl) (by kernel_rfl) e1, tr_bool Tryz.underlying4 e2, tr_int Tryz.underlying3 e3, tr_int Tryz.underlying2 e4, tr_int Tryz.underlying3 e5⟩

def IsFate (w : World) (cs : List Value) : Prop := ∃ (c0 c1 : List Value), cs = c0 ++ c1 ∧ IsInt .i64 c0 ∧ IsInt .i64 c1

set_option maxRecDepth 100000 in
theorem tr_Fate {H : Type} {enc : TypeId × Value → H} {w : World} {base : Nat} {spare : Nat → Bool} {held : Bool} {fuel : Nat} {t : TypeId} {cs : List Value} {x : DataW H × List MemPlace} (ht : Tryz.prog.underlying t = Tryz.prog.underlying 71) (hc : Tryz.prog.cellsOf t = 2) (h : DataW.trod enc Tryz.prog w base spare held fuel t cs = some x) : IsFate w cs := by
  obtain ⟨xs, m, _, _, hlen, hxs, hf⟩ := DataW.trod_struct (ht.trans Tryz.underlying71) h
  rw [hc] at hlen
  match cs, hlen with
  | [a0, a1], _ =>
    have e0 : DataW.trod enc Tryz.prog w base spare held m 3 [a0] = some (xs[0]'(by rw [hxs]; decide)) := by
      have this : DataW.trod enc Tryz.prog w base spare held m 3 (([a0, a1].drop 0).take (Tryz.prog.cellsOf 3)) = xs[0]? := hf 0 _ rfl
      rw [show Tryz.prog.cellsOf 3 = 1 from by kernel_rfl, List.getElem?_eq_getElem (by rw [hxs]; decide)] at this
      exact this
    have e1 : DataW.trod enc Tryz.prog w base spare held m 3 [a1] = some (xs[1]'(by rw [hxs]; decide)) := by
      have this : DataW.trod enc Tryz.prog w base spare held m 3 (([a0, a1].drop 1).take (Tryz.prog.cellsOf 3)) = xs[1]? := hf 1 _ rfl
      rw [show Tryz.prog.cellsOf 3 = 1 from by kernel_rfl, List.getElem?_eq_getElem (by rw [hxs]; decide)] at this
      exact this
    exact ⟨[a0], [a1], rfl, tr_int Tryz.underlying3 e0, tr_int Tryz.underlying3 e1⟩

def IsCmd (w : World) (cs : List Value) : Prop := ∃ (c0 c1 c2 c3 c4 c5 : List Value), cs = c0 ++ c1 ++ c2 ++ c3 ++ c4 ++ c5 ∧ IsInt .i64 c0 ∧ IsOp w c1 ∧ IsInt .i64 c2 ∧ IsInt .i64 c3 ∧ IsInt .i64 c4 ∧ IsSl 2 (fun w c => IsFate w c) w c5

set_option maxRecDepth 100000 in
theorem tr_Cmd {H : Type} {enc : TypeId × Value → H} {w : World} {base : Nat} {spare : Nat → Bool} {held : Bool} {fuel : Nat} {t : TypeId} {cs : List Value} {x : DataW H × List MemPlace} (ht : Tryz.prog.underlying t = Tryz.prog.underlying 38) (hc : Tryz.prog.cellsOf t = 15) (h : DataW.trod enc Tryz.prog w base spare held fuel t cs = some x) : IsCmd w cs := by
  obtain ⟨xs, m, _, _, hlen, hxs, hf⟩ := DataW.trod_struct (ht.trans Tryz.underlying38) h
  rw [hc] at hlen
  match cs, hlen with
  | [a0, a1, a2, a3, a4, a5, a6, a7, a8, a9, a10, a11, a12, a13, a14], _ =>
    have e0 : DataW.trod enc Tryz.prog w base spare held m 3 [a0] = some (xs[0]'(by rw [hxs]; decide)) := by
      have this : DataW.trod enc Tryz.prog w base spare held m 3 (([a0, a1, a2, a3, a4, a5, a6, a7, a8, a9, a10, a11, a12, a13, a14].drop 0).take (Tryz.prog.cellsOf 3)) = xs[0]? := hf 0 _ rfl
      rw [show Tryz.prog.cellsOf 3 = 1 from by kernel_rfl, List.getElem?_eq_getElem (by rw [hxs]; decide)] at this
      exact this
    have e1 : DataW.trod enc Tryz.prog w base spare held m 36 [a1, a2, a3, a4, a5, a6, a7, a8, a9, a10] = some (xs[1]'(by rw [hxs]; decide)) := by
      have this : DataW.trod enc Tryz.prog w base spare held m 36 (([a0, a1, a2, a3, a4, a5, a6, a7, a8, a9, a10, a11, a12, a13, a14].drop 1).take (Tryz.prog.cellsOf 36)) = xs[1]? := hf 1 _ rfl
      rw [show Tryz.prog.cellsOf 36 = 10 from by kernel_rfl, List.getElem?_eq_getElem (by rw [hxs]; decide)] at this
      exact this
    have e2 : DataW.trod enc Tryz.prog w base spare held m 3 [a11] = some (xs[2]'(by rw [hxs]; decide)) := by
      have this : DataW.trod enc Tryz.prog w base spare held m 3 (([a0, a1, a2, a3, a4, a5, a6, a7, a8, a9, a10, a11, a12, a13, a14].drop 11).take (Tryz.prog.cellsOf 3)) = xs[2]? := hf 2 _ rfl
      rw [show Tryz.prog.cellsOf 3 = 1 from by kernel_rfl, List.getElem?_eq_getElem (by rw [hxs]; decide)] at this
      exact this
    have e3 : DataW.trod enc Tryz.prog w base spare held m 2 [a12] = some (xs[3]'(by rw [hxs]; decide)) := by
      have this : DataW.trod enc Tryz.prog w base spare held m 2 (([a0, a1, a2, a3, a4, a5, a6, a7, a8, a9, a10, a11, a12, a13, a14].drop 12).take (Tryz.prog.cellsOf 2)) = xs[3]? := hf 3 _ rfl
      rw [show Tryz.prog.cellsOf 2 = 1 from by kernel_rfl, List.getElem?_eq_getElem (by rw [hxs]; decide)] at this
      exact this
    have e4 : DataW.trod enc Tryz.prog w base spare held m 3 [a13] = some (xs[4]'(by rw [hxs]; decide)) := by
      have this : DataW.trod enc Tryz.prog w base spare held m 3 (([a0, a1, a2, a3, a4, a5, a6, a7, a8, a9, a10, a11, a12, a13, a14].drop 13).take (Tryz.prog.cellsOf 3)) = xs[4]? := hf 4 _ rfl
      rw [show Tryz.prog.cellsOf 3 = 1 from by kernel_rfl, List.getElem?_eq_getElem (by rw [hxs]; decide)] at this
      exact this
    have e5 : DataW.trod enc Tryz.prog w base spare held m 37 [a14] = some (xs[5]'(by rw [hxs]; decide)) := by
      have this : DataW.trod enc Tryz.prog w base spare held m 37 (([a0, a1, a2, a3, a4, a5, a6, a7, a8, a9, a10, a11, a12, a13, a14].drop 14).take (Tryz.prog.cellsOf 37)) = xs[5]? := hf 5 _ rfl
      rw [show Tryz.prog.cellsOf 37 = 1 from by kernel_rfl, List.getElem?_eq_getElem (by rw [hxs]; decide)] at this
      exact this
    exact ⟨[a0], [a1, a2, a3, a4, a5, a6, a7, a8, a9, a10], [a11], [a12], [a13], [a14], rfl, tr_int Tryz.underlying3 e0, tr_Op (t := 36) (by kernel_rfl) (by kernel_rfl) e1, tr_int Tryz.underlying3 e2, tr_int Tryz.underlying2 e3, tr_int Tryz.underlying3 e4, tr_slice Tryz.underlying37 (by kernel_rfl) (fun _ _ _ h => tr_Fate (t := 72) (by kernel_rfl) (by kernel_rfl) h) e5⟩

end Go.Proofs.YtoeinhlmkpgjhaaGreatDoor
