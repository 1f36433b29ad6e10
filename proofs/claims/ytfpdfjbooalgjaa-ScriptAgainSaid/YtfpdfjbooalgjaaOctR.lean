
/- octet.Reader: what each of its methods takes. -/
import Derived.Test.YtfpdfjbooalgjaaOctW
import Derived.Deep.QuietTactic
namespace Go.Proofs.Ytfpdfjbooalgjaa
open Go.RowKit
set_option linter.unusedVariables false
attribute [local go_sem] str_get str_cut

/-- A reader in block b: these bytes are left; none: it is bad. -/
def RdAt (b : Nat) (st : Option (List UInt8)) (w : World) : Prop :=
  match st with
  | some l => w.heap[b]? = some (.cells #[.string ⟨l.toArray⟩, .bool false] 94 (0, 0))
  | none => ∃ s, w.heap[b]? = some (.cells #[.string s, .bool true] 94 (0, 0))

theorem RdAt.keeps {b : Nat} {st : Option (List UInt8)} {w w' : World} {S : Nat → Prop} (h : RdAt b st w) (k : Keeps S w w') (hn : ¬ S b) : RdAt b st w' := by
  cases st with
  | some l => exact k.heap h hn
  | none => obtain ⟨s, h⟩ := h; exact ⟨s, k.heap h hn⟩
theorem RdAt.cell1 {b : Nat} {st : Option (List UInt8)} {w : World} (h : RdAt b st w) : w.cell? ⟨b, 1, none⟩ = some (.bool (!st.isSome)) := by
  cases st with
  | some l => exact cell_at h 1 rfl
  | none => obtain ⟨s, h⟩ := h; exact cell_at h 1 rfl
theorem RdAt.free {b : Nat} {st : Option (List UInt8)} {w : World} (h : RdAt b st w) (j : Nat) : w.frozen? ⟨b, j, none⟩ = false := by
  cases st with
  | some l => exact free_at h j
  | none => obtain ⟨s, h⟩ := h; exact free_at h j
theorem RdAt.lt {b : Nat} {st : Option (List UInt8)} {w : World} (h : RdAt b st w) : b < w.heap.size := by
  cases st with
  | some l => exact lt_of_heap h
  | none => obtain ⟨s, h⟩ := h; exact lt_of_heap h
theorem RdAt.bad {b : Nat} {st : Option (List UInt8)} {w : World} (h : RdAt b st w) : RdAt b none (w.setCell ⟨b, 1, none⟩ (.bool true)) := by
  cases st with
  | some l => exact ⟨_, by rw [heap_set_same h]; rfl⟩
  | none => obtain ⟨s, h⟩ := h; exact ⟨s, by rw [heap_set_same h]; rfl⟩

theorem oRead_any (s : ByteArray) (w : World) :
    Calls Try.prog 32 #[.string s] w fun e w' => e = .returned (.pointer (some ⟨w.heap.size, 0, none⟩)) ∧ RdAt w.heap.size (some s.data.toList) w' ∧ Adds w w' := by
  go_enter Try.func32, Try.ntmps32
  go_wp2
  go_ret
  exact ⟨rfl, heap_alloc_new' w _, (Keeps.refl _ w).alloc _⟩

theorem rGood_any (b : Nat) (st : Option (List UInt8)) (w : World) (h : RdAt b st w) :
    Calls Try.prog 55 #[.pointer (some ⟨b, 0, none⟩)] w fun e w' => e = .returned (.bool st.isSome) ∧ w = w' := by
  have c1 := h.cell1
  go_enter Try.func55, Try.ntmps55
  go_wp2
  go_ret
  exact ⟨ret_bool (by simp), rfl⟩

theorem RdAt.drewN {b : Nat} {st : Option (List UInt8)} {w : World} (h : RdAt b st w) (n : Nat) : RdAt b st (w.drewN n) := by
  cases st with
  | some l => exact h
  | none => exact h

theorem rGood_q (b : Nat) (st : Option (List UInt8)) (w : World) (n : Nat) (c : Bool) (hc : st.isSome = c) (h : RdAt b st w) :
    Calls Try.prog 55 #[.pointer (some ⟨b, 0, none⟩)] (w.drewN n) fun e w' => e = .returned (.bool c) ∧ ∃ m, w' = w.drewN m :=
  (rGood_any b st _ (h.drewN n)).mono fun _ _ ⟨x, y⟩ => ⟨hc ▸ x, n, y.symm⟩

theorem rGood_nil (w : World) : Calls Try.prog 55 #[.pointer none] w fun e w' => e = .returned (.bool false) ∧ w = w' := by
  go_enter Try.func55, Try.ntmps55
  go_wp2
  go_ret
  exact ⟨rfl, rfl⟩

theorem rFails_any (b : Nat) (st : Option (List UInt8)) (w : World) (h : RdAt b st w) :
    Calls Try.prog 64 #[.pointer (some ⟨b, 0, none⟩)] w fun e w' => e = .returned (.tuple #[]) ∧ RdAt b none w' ∧ Keeps (fun k => k = b) w w' := by
  have c1 := h.cell1
  have f1 := h.free 1
  go_enter Try.func64, Try.ntmps64
  go_wp2
  go_end0
  exact ⟨rfl, h.bad, (Keeps.refl _ w).setCell _ _ (fun _ => rfl)⟩

theorem rFails_nil (w : World) : Calls Try.prog 64 #[.pointer none] w fun e w' => e = .returned (.tuple #[]) ∧ w = w' := by
  go_enter Try.func64, Try.ntmps64
  go_wp2
  go_end0
  exact ⟨rfl, rfl⟩

theorem rTakes_any (b : Nat) (l : List UInt8) (n : Nat) (x : Int) (hx : x = n) (hl : l.length ≤ 140737488355328) (hn : n ≤ l.length) (w : World) (h : RdAt b (some l) w) :
    Calls Try.prog 68 #[.pointer (some ⟨b, 0, none⟩), .int .i64 x] w fun e w' => e = .returned (.string ⟨(l.take n).toArray⟩) ∧ RdAt b (some (l.drop n)) w' ∧ Keeps (fun k => k = b) w w' := by
  subst hx
  have c0 : w.cell? ⟨b, 0, none⟩ = some (.string ⟨l.toArray⟩) := cell_at h 0 rfl
  have f0 := h.free 0
  go_enter Try.func68, Try.ntmps68
  go_wp2
  go_ret
  refine ⟨ret_str (by first | rfl | (rw [str_cut]; rfl)), ?_, (Keeps.refl _ w).setCell _ _ (fun _ => rfl)⟩
  show (World.setCell _ _ _).heap[b]? = _
  rw [heap_set_same h]; first | rfl | (rw [str_cut, List.take_length]; rfl)

/-- The first test of Num. -/
def numBad (st : Option (List UInt8)) : Prop :=
  match st with
  | none => True
  | some [] => True
  | some (k :: t) => 8 < k.toNat ∨ t.length < k.toNat

set_option maxRecDepth 100000 in
set_option maxHeartbeats 1000000 in
theorem rNum_bad (b : Nat) (st : Option (List UInt8)) (hst : numBad st) (hlen : ∀ l, st = some l → l.length ≤ 1000000000) (x : Int) (w : World) (h : RdAt b st w) :
    Calls Try.prog 54 #[.pointer (some ⟨b, 0, none⟩), .int .u64 x] w fun e w' => e = .returned (.int .u64 0) ∧ RdAt b none w' ∧ Keeps (fun k => k = b) w w' := by
  rcases st with _ | (_ | ⟨k, t⟩)
  · go_enter Try.func54, Try.ntmps54
    go_wp2_with fail
    go_step3
    go_wp2_with fail
    go_quiet ((go_at_call 55; exact rGood_q b _ w _ false rfl h))
    go_wp2_with (go_at_call 64; refine (rFails_any b _ _ (h.drewN nq)).mono ?_)
    rintro e w1 ⟨rfl, h1, k1⟩
    go_wp2
    rw [Exit.noGoto_ret]
    go_ret
    exact ⟨rfl, h1, ((Keeps.refl _ w).drewN nq).trans k1⟩
  · have c0 : w.cell? ⟨b, 0, none⟩ = some (.string ⟨#[]⟩) := cell_at h 0 rfl
    go_enter Try.func54, Try.ntmps54
    go_wp2_with fail
    go_step3
    go_wp2_with fail
    go_quiet ((go_at_call 55; exact rGood_q b _ w _ true rfl h))
    go_wp2_with (go_at_call 64; refine (rFails_any b _ _ (h.drewN nq)).mono ?_)
    rintro e w1 ⟨rfl, h1, k1⟩
    go_wp2
    rw [Exit.noGoto_ret]
    go_ret
    exact ⟨rfl, h1, ((Keeps.refl _ w).drewN nq).trans k1⟩
  · have hlen := hlen _ rfl
    by_cases hk : 8 < k.toNat
    · have c0 : w.cell? ⟨b, 0, none⟩ = some (.string ⟨(k :: t).toArray⟩) := cell_at h 0 rfl
      have hk' : (8 : Int) < k.toNat := by omega
      go_enter Try.func54, Try.ntmps54
      go_wp2_with fail
      go_step3
      go_wp2_with fail
      go_quiet ((go_at_call 55; exact rGood_q b _ w _ true rfl h))
      go_wp2_with (go_at_call 64; refine (rFails_any b _ _ (h.drewN nq)).mono ?_)
      rintro e w1 ⟨rfl, h1, k1⟩
      go_wp2
      rw [Exit.noGoto_ret]
      go_ret
      exact ⟨rfl, h1, ((Keeps.refl _ w).drewN nq).trans k1⟩
    · have hk2 : t.length < k.toNat := hst.resolve_left hk
      have c0 : w.cell? ⟨b, 0, none⟩ = some (.string ⟨(k :: t).toArray⟩) := cell_at h 0 rfl
      have hk' : ¬ (8 : Int) < k.toNat := by omega
      have hk3 : (t.length : Int) + 1 ≤ k.toNat := by omega
      have hw : IntKind.i64.wrap (k.toNat : Int) = k.toNat := IntWalk.i64_in _ (by omega)
      go_enter Try.func54, Try.ntmps54
      go_wp2_with fail
      go_step3
      go_wp2_with fail
      go_quiet ((go_at_call 55; exact rGood_q b _ w _ true rfl h))
      go_wp2_with (go_at_call 64; refine (rFails_any b _ _ (h.drewN nq)).mono ?_)
      rintro e w1 ⟨rfl, h1, k1⟩
      go_wp2
      rw [Exit.noGoto_ret]
      go_ret
      exact ⟨rfl, h1, ((Keeps.refl _ w).drewN nq).trans k1⟩

end Go.Proofs.Ytfpdfjbooalgjaa
