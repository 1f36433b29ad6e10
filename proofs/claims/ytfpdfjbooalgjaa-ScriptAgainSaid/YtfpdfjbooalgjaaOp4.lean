
/- Check of ops. -/
import Derived.Test.YtfpdfjbooalgjaaOp3
import Derived.Laws.StructEq
import Derived.Deep.RegionHeld3
import Derived.Deep.RegionWith
namespace Go.Proofs.Ytfpdfjbooalgjaa
open Go.RowKit
set_option linter.unusedVariables false
set_option linter.unusedSimpArgs false

/-- What the kind asks. -/
def GOp.right (o : GOp) : Prop :=
  if o.kind = 1 then o.task.ok ∧ (o.sv = true → o.task.d = o.task.t)
  else if o.kind = 2 then 0 ≤ o.id ∧ o.id ≤ 1023
  else if o.kind = 3 then 0 ≤ o.id ∧ o.id ≤ 1023 ∧ 1 ≤ o.c ∧ o.c ≤ 2147483648
  else if o.kind = 4 then 0 ≤ o.m ∧ o.m < 4
  else False
instance (o : GOp) : Decidable o.right := by unfold GOp.right; infer_instance
/-- It may be. -/
def GOp.ok (o : GOp) : Prop := o = o.bare ∧ o.right
instance (o : GOp) : Decidable o.ok := by unfold GOp.ok; infer_instance
def GOp.same (o p : GOp) : Bool := decide (o = p)

theorem eqOp (k k' a a' b b' c c' d d' e e' i i' cc cc' m m' : Int) (sv sv' : Bool) (w : World) :
    (binOp .eql 29 (.agg #[.int .i64 k, .int .i64 a, .int .i64 b, .int .i64 c, .int .i64 d, .int .i64 e, .bool sv, .int .i64 i, .int .i64 cc, .int .i64 m]) (.agg #[.int .i64 k', .int .i64 a', .int .i64 b', .int .i64 c', .int .i64 d', .int .i64 e', .bool sv', .int .i64 i', .int .i64 cc', .int .i64 m'])).run Try.prog w = .ok (.bool (GOp.same ⟨k, ⟨a, b, c, d, e⟩, sv, i, cc, m⟩ ⟨k', ⟨a', b', c', d', e'⟩, sv', i', cc', m'⟩)) w := by
  have hs : GOp.same ⟨k, ⟨a, b, c, d, e⟩, sv, i, cc, m⟩ ⟨k', ⟨a', b', c', d', e'⟩, sv', i', cc', m'⟩ = decide (k = k' ∧ (a = a' ∧ b = b' ∧ c = c' ∧ d = d' ∧ e = e') ∧ sv = sv' ∧ i = i' ∧ cc = cc' ∧ m = m') := by
    simp only [GOp.same, GOp.mk.injEq, GTask.mk.injEq]
  rw [hs]
  clear hs
  simp [go_sem]
  repeat' split
  all_goals simp_all

theorem Keeps.op {S : Nat → Prop} {w w1 : World} {B : Nat} {k a b c d e : Int} {sv : Bool} {i cc m : Int} (kk : Keeps S w w1)
    (h : w.cell? ⟨B, 0, none⟩ = some (.int .i64 k) ∧ w.cell? ⟨B, 1, none⟩ = some (.int .i64 a) ∧ w.cell? ⟨B, 2, none⟩ = some (.int .i64 b) ∧ w.cell? ⟨B, 3, none⟩ = some (.int .i64 c) ∧ w.cell? ⟨B, 4, none⟩ = some (.int .i64 d) ∧ w.cell? ⟨B, 5, none⟩ = some (.int .i64 e) ∧ w.cell? ⟨B, 6, none⟩ = some (.bool sv) ∧ w.cell? ⟨B, 7, none⟩ = some (.int .i64 i) ∧ w.cell? ⟨B, 8, none⟩ = some (.int .i64 cc) ∧ w.cell? ⟨B, 9, none⟩ = some (.int .i64 m)) (hn : ¬ S B) :
    w1.cell? ⟨B, 0, none⟩ = some (.int .i64 k) ∧ w1.cell? ⟨B, 1, none⟩ = some (.int .i64 a) ∧ w1.cell? ⟨B, 2, none⟩ = some (.int .i64 b) ∧ w1.cell? ⟨B, 3, none⟩ = some (.int .i64 c) ∧ w1.cell? ⟨B, 4, none⟩ = some (.int .i64 d) ∧ w1.cell? ⟨B, 5, none⟩ = some (.int .i64 e) ∧ w1.cell? ⟨B, 6, none⟩ = some (.bool sv) ∧ w1.cell? ⟨B, 7, none⟩ = some (.int .i64 i) ∧ w1.cell? ⟨B, 8, none⟩ = some (.int .i64 cc) ∧ w1.cell? ⟨B, 9, none⟩ = some (.int .i64 m) :=
  ⟨kk.cell h.1 hn, kk.cell h.2.1 hn, kk.cell h.2.2.1 hn, kk.cell h.2.2.2.1 hn, kk.cell h.2.2.2.2.1 hn, kk.cell h.2.2.2.2.2.1 hn, kk.cell h.2.2.2.2.2.2.1 hn, kk.cell h.2.2.2.2.2.2.2.1 hn, kk.cell h.2.2.2.2.2.2.2.2.1 hn, kk.cell h.2.2.2.2.2.2.2.2.2 hn⟩

theorem pOCheck_1 (a b c d e : Int) (sv : Bool) (i cc m : Int) (w : World) : Calls Try.prog 23 #[GOp.val ⟨1, ⟨a, b, c, d, e⟩, sv, i, cc, m⟩] w fun r w' => r = .returned (.bool (decide (GOp.ok ⟨1, ⟨a, b, c, d, e⟩, sv, i, cc, m⟩))) ∧ Adds w w' := by
  have K := Keeps.refl (fun _ => False) w
  have hv : ofV ⟨1, ⟨a, b, c, d, e⟩, sv, i, cc, m⟩ = .iface 101 (.agg #[.int .i64 a, .int .i64 b, .int .i64 c, .int .i64 d, .int .i64 e, .bool sv]) := rfl
  have hb : GOp.bare ⟨1, ⟨a, b, c, d, e⟩, sv, i, cc, m⟩ = ⟨1, ⟨a, b, c, d, e⟩, sv, 0, 0, 0⟩ := rfl
  have ht : GOp.right ⟨1, ⟨a, b, c, d, e⟩, sv, i, cc, m⟩ = (GTask.ok ⟨a, b, c, d, e⟩ ∧ (sv = true → c = d)) := rfl
  have qE := eqOp 1 1 a a b b c c d d e e i 0 cc 0 m 0 sv sv
  by_cases hq : (⟨1, ⟨a, b, c, d, e⟩, sv, i, cc, m⟩ : GOp) = ⟨1, ⟨a, b, c, d, e⟩, sv, 0, 0, 0⟩
  · have e1 : GOp.same ⟨1, ⟨a, b, c, d, e⟩, sv, i, cc, m⟩ ⟨1, ⟨a, b, c, d, e⟩, sv, 0, 0, 0⟩ = true := decide_eq_true hq
    have hr : decide (GOp.ok ⟨1, ⟨a, b, c, d, e⟩, sv, i, cc, m⟩) = decide (GTask.ok ⟨a, b, c, d, e⟩ ∧ (sv = true → c = d)) :=
      decide_eq_decide.2 ⟨fun h => ht ▸ h.2, fun h => ⟨hq.trans hb.symm, ht ▸ h⟩⟩
    rw [hr]
    skip
    rw [e1] at qE
    generalize hy : decide (GTask.ok ⟨a, b, c, d, e⟩ ∧ (sv = true → c = d)) = y
    clear hr e1 hq hb ht
    have hbare := Lib.hid (fun w => pBare_1 a b c d e sv i cc m w)
    have hof := Lib.hid (fun w => pOf_c ⟨1, ⟨a, b, c, d, e⟩, sv, i, cc, m⟩ w)
    skip
    go_enter Try.func23, Try.ntmps23
    go_wp2
    have c0 := opBlock (w := w.alloc (.cells #[.int .i64 1, .int .i64 a, .int .i64 b, .int .i64 c, .int .i64 d, .int .i64 e, .bool sv, .int .i64 i, .int .i64 cc, .int .i64 m] 29)) (b := w.heap.size) 1 a b c d e sv i cc m (heap_alloc_new' w _)
    first | (go_region_held3 (fun w' => w'.cell? ⟨w.heap.size, 0, none⟩ = some (.int .i64 1) ∧ w'.cell? ⟨w.heap.size, 1, none⟩ = some (.int .i64 a) ∧ w'.cell? ⟨w.heap.size, 2, none⟩ = some (.int .i64 b) ∧ w'.cell? ⟨w.heap.size, 3, none⟩ = some (.int .i64 c) ∧ w'.cell? ⟨w.heap.size, 4, none⟩ = some (.int .i64 d) ∧ w'.cell? ⟨w.heap.size, 5, none⟩ = some (.int .i64 e) ∧ w'.cell? ⟨w.heap.size, 6, none⟩ = some (.bool sv) ∧ w'.cell? ⟨w.heap.size, 7, none⟩ = some (.int .i64 i) ∧ w'.cell? ⟨w.heap.size, 8, none⟩ = some (.int .i64 cc) ∧ w'.cell? ⟨w.heap.size, 9, none⟩ = some (.int .i64 m)) ((first | (go_keep; done) | exact Keeps.op (by assumption) (by assumption) id)) (first | (go_at_call 36; refine (hbare.out _).mono ?_; rintro r w1 ⟨rfl, k1⟩) | (go_at_call 37; refine (hof.out _).mono ?_; rw [hv]; rintro r w2 ⟨rfl, k2⟩) | (go_at_call 95; refine (admitRight_c a b c d e sv _).mono ?_; rw [hy]; rintro r w3 ⟨rfl, k3⟩))) | fail
    clear c0
    go_wp2
    go_ret
    exact ⟨rfl, ((((K.alloc _).drew).trans k1).trans k2).trans k3⟩
  · have e1 : GOp.same ⟨1, ⟨a, b, c, d, e⟩, sv, i, cc, m⟩ ⟨1, ⟨a, b, c, d, e⟩, sv, 0, 0, 0⟩ = false := decide_eq_false hq
    have hr : decide (GOp.ok ⟨1, ⟨a, b, c, d, e⟩, sv, i, cc, m⟩) = false :=
      decide_eq_false (fun h => hq (h.1.trans hb))
    rw [hr]
    skip
    rw [e1] at qE
    clear hr e1 hq hb ht hv
    have hbare := Lib.hid (fun w => pBare_1 a b c d e sv i cc m w)
    skip
    go_enter Try.func23, Try.ntmps23
    go_wp2
    have c0 := opBlock (w := w.alloc (.cells #[.int .i64 1, .int .i64 a, .int .i64 b, .int .i64 c, .int .i64 d, .int .i64 e, .bool sv, .int .i64 i, .int .i64 cc, .int .i64 m] 29)) (b := w.heap.size) 1 a b c d e sv i cc m (heap_alloc_new' w _)
    go_region_with (first | (go_at_call 36; refine (hbare.out _).mono ?_; rintro r w1 ⟨rfl, k1⟩; obtain ⟨f0, f1, f2, f3, f4, f5, f6, f7, f8, f9⟩ := Keeps.op k1 c0 id))
    all_goals clear c0
    all_goals (go_wp2; go_ret; exact ⟨rfl, ((K.alloc _).drew).trans k1⟩)

theorem pOCheck_2 (a b c d e : Int) (sv : Bool) (i cc m : Int) (w : World) : Calls Try.prog 23 #[GOp.val ⟨2, ⟨a, b, c, d, e⟩, sv, i, cc, m⟩] w fun r w' => r = .returned (.bool (decide (GOp.ok ⟨2, ⟨a, b, c, d, e⟩, sv, i, cc, m⟩))) ∧ Adds w w' := by
  have K := Keeps.refl (fun _ => False) w
  have hv : ofV ⟨2, ⟨a, b, c, d, e⟩, sv, i, cc, m⟩ = .iface 103 (.agg #[.int .i64 i]) := rfl
  have hb : GOp.bare ⟨2, ⟨a, b, c, d, e⟩, sv, i, cc, m⟩ = ⟨2, ⟨0, 0, 0, 0, 0⟩, false, i, 0, 0⟩ := rfl
  have ht : GOp.right ⟨2, ⟨a, b, c, d, e⟩, sv, i, cc, m⟩ = (0 ≤ i ∧ i ≤ 1023) := rfl
  have qE := eqOp 2 2 a 0 b 0 c 0 d 0 e 0 i i cc 0 m 0 sv false
  by_cases hq : (⟨2, ⟨a, b, c, d, e⟩, sv, i, cc, m⟩ : GOp) = ⟨2, ⟨0, 0, 0, 0, 0⟩, false, i, 0, 0⟩
  · have e1 : GOp.same ⟨2, ⟨a, b, c, d, e⟩, sv, i, cc, m⟩ ⟨2, ⟨0, 0, 0, 0, 0⟩, false, i, 0, 0⟩ = true := decide_eq_true hq
    have hr : decide (GOp.ok ⟨2, ⟨a, b, c, d, e⟩, sv, i, cc, m⟩) = decide (0 ≤ i ∧ i ≤ 1023) :=
      decide_eq_decide.2 ⟨fun h => ht ▸ h.2, fun h => ⟨hq.trans hb.symm, ht ▸ h⟩⟩
    rw [hr]
    skip
    rw [e1] at qE
    generalize hy : decide (0 ≤ i ∧ i ≤ 1023) = y
    clear hr e1 hq hb ht
    have hbare := Lib.hid (fun w => pBare_2 a b c d e sv i cc m w)
    have hof := Lib.hid (fun w => pOf_c ⟨2, ⟨a, b, c, d, e⟩, sv, i, cc, m⟩ w)
    skip
    go_enter Try.func23, Try.ntmps23
    go_wp2
    have c0 := opBlock (w := w.alloc (.cells #[.int .i64 2, .int .i64 a, .int .i64 b, .int .i64 c, .int .i64 d, .int .i64 e, .bool sv, .int .i64 i, .int .i64 cc, .int .i64 m] 29)) (b := w.heap.size) 2 a b c d e sv i cc m (heap_alloc_new' w _)
    first | (go_region_held3 (fun w' => w'.cell? ⟨w.heap.size, 0, none⟩ = some (.int .i64 2) ∧ w'.cell? ⟨w.heap.size, 1, none⟩ = some (.int .i64 a) ∧ w'.cell? ⟨w.heap.size, 2, none⟩ = some (.int .i64 b) ∧ w'.cell? ⟨w.heap.size, 3, none⟩ = some (.int .i64 c) ∧ w'.cell? ⟨w.heap.size, 4, none⟩ = some (.int .i64 d) ∧ w'.cell? ⟨w.heap.size, 5, none⟩ = some (.int .i64 e) ∧ w'.cell? ⟨w.heap.size, 6, none⟩ = some (.bool sv) ∧ w'.cell? ⟨w.heap.size, 7, none⟩ = some (.int .i64 i) ∧ w'.cell? ⟨w.heap.size, 8, none⟩ = some (.int .i64 cc) ∧ w'.cell? ⟨w.heap.size, 9, none⟩ = some (.int .i64 m)) ((first | (go_keep; done) | exact Keeps.op (by assumption) (by assumption) id)) (first | (go_at_call 36; refine (hbare.out _).mono ?_; rintro r w1 ⟨rfl, k1⟩) | (go_at_call 37; refine (hof.out _).mono ?_; rw [hv]; rintro r w2 ⟨rfl, k2⟩) | (go_at_call 100; refine (removeRight_c i _).mono ?_; rw [hy]; rintro r w3 ⟨rfl, k3⟩))) | fail
    clear c0
    go_wp2
    go_ret
    exact ⟨rfl, ((((K.alloc _).drew).trans k1).trans k2).trans k3⟩
  · have e1 : GOp.same ⟨2, ⟨a, b, c, d, e⟩, sv, i, cc, m⟩ ⟨2, ⟨0, 0, 0, 0, 0⟩, false, i, 0, 0⟩ = false := decide_eq_false hq
    have hr : decide (GOp.ok ⟨2, ⟨a, b, c, d, e⟩, sv, i, cc, m⟩) = false :=
      decide_eq_false (fun h => hq (h.1.trans hb))
    rw [hr]
    skip
    rw [e1] at qE
    clear hr e1 hq hb ht hv
    have hbare := Lib.hid (fun w => pBare_2 a b c d e sv i cc m w)
    skip
    go_enter Try.func23, Try.ntmps23
    go_wp2
    have c0 := opBlock (w := w.alloc (.cells #[.int .i64 2, .int .i64 a, .int .i64 b, .int .i64 c, .int .i64 d, .int .i64 e, .bool sv, .int .i64 i, .int .i64 cc, .int .i64 m] 29)) (b := w.heap.size) 2 a b c d e sv i cc m (heap_alloc_new' w _)
    go_region_with (first | (go_at_call 36; refine (hbare.out _).mono ?_; rintro r w1 ⟨rfl, k1⟩; obtain ⟨f0, f1, f2, f3, f4, f5, f6, f7, f8, f9⟩ := Keeps.op k1 c0 id))
    all_goals clear c0
    all_goals (go_wp2; go_ret; exact ⟨rfl, ((K.alloc _).drew).trans k1⟩)

theorem pOCheck_3 (a b c d e : Int) (sv : Bool) (i cc m : Int) (w : World) : Calls Try.prog 23 #[GOp.val ⟨3, ⟨a, b, c, d, e⟩, sv, i, cc, m⟩] w fun r w' => r = .returned (.bool (decide (GOp.ok ⟨3, ⟨a, b, c, d, e⟩, sv, i, cc, m⟩))) ∧ Adds w w' := by
  have K := Keeps.refl (fun _ => False) w
  have hv : ofV ⟨3, ⟨a, b, c, d, e⟩, sv, i, cc, m⟩ = .iface 105 (.agg #[.int .i64 i, .int .i64 cc]) := rfl
  have hb : GOp.bare ⟨3, ⟨a, b, c, d, e⟩, sv, i, cc, m⟩ = ⟨3, ⟨0, 0, 0, 0, 0⟩, false, i, cc, 0⟩ := rfl
  have ht : GOp.right ⟨3, ⟨a, b, c, d, e⟩, sv, i, cc, m⟩ = (0 ≤ i ∧ i ≤ 1023 ∧ 1 ≤ cc ∧ cc ≤ 2147483648) := rfl
  have qE := eqOp 3 3 a 0 b 0 c 0 d 0 e 0 i i cc cc m 0 sv false
  by_cases hq : (⟨3, ⟨a, b, c, d, e⟩, sv, i, cc, m⟩ : GOp) = ⟨3, ⟨0, 0, 0, 0, 0⟩, false, i, cc, 0⟩
  · have e1 : GOp.same ⟨3, ⟨a, b, c, d, e⟩, sv, i, cc, m⟩ ⟨3, ⟨0, 0, 0, 0, 0⟩, false, i, cc, 0⟩ = true := decide_eq_true hq
    have hr : decide (GOp.ok ⟨3, ⟨a, b, c, d, e⟩, sv, i, cc, m⟩) = decide (0 ≤ i ∧ i ≤ 1023 ∧ 1 ≤ cc ∧ cc ≤ 2147483648) :=
      decide_eq_decide.2 ⟨fun h => ht ▸ h.2, fun h => ⟨hq.trans hb.symm, ht ▸ h⟩⟩
    rw [hr]
    skip
    rw [e1] at qE
    generalize hy : decide (0 ≤ i ∧ i ≤ 1023 ∧ 1 ≤ cc ∧ cc ≤ 2147483648) = y
    clear hr e1 hq hb ht
    have hbare := Lib.hid (fun w => pBare_3 a b c d e sv i cc m w)
    have hof := Lib.hid (fun w => pOf_c ⟨3, ⟨a, b, c, d, e⟩, sv, i, cc, m⟩ w)
    skip
    go_enter Try.func23, Try.ntmps23
    go_wp2
    have c0 := opBlock (w := w.alloc (.cells #[.int .i64 3, .int .i64 a, .int .i64 b, .int .i64 c, .int .i64 d, .int .i64 e, .bool sv, .int .i64 i, .int .i64 cc, .int .i64 m] 29)) (b := w.heap.size) 3 a b c d e sv i cc m (heap_alloc_new' w _)
    first | (go_region_held3 (fun w' => w'.cell? ⟨w.heap.size, 0, none⟩ = some (.int .i64 3) ∧ w'.cell? ⟨w.heap.size, 1, none⟩ = some (.int .i64 a) ∧ w'.cell? ⟨w.heap.size, 2, none⟩ = some (.int .i64 b) ∧ w'.cell? ⟨w.heap.size, 3, none⟩ = some (.int .i64 c) ∧ w'.cell? ⟨w.heap.size, 4, none⟩ = some (.int .i64 d) ∧ w'.cell? ⟨w.heap.size, 5, none⟩ = some (.int .i64 e) ∧ w'.cell? ⟨w.heap.size, 6, none⟩ = some (.bool sv) ∧ w'.cell? ⟨w.heap.size, 7, none⟩ = some (.int .i64 i) ∧ w'.cell? ⟨w.heap.size, 8, none⟩ = some (.int .i64 cc) ∧ w'.cell? ⟨w.heap.size, 9, none⟩ = some (.int .i64 m)) ((first | (go_keep; done) | exact Keeps.op (by assumption) (by assumption) id)) (first | (go_at_call 36; refine (hbare.out _).mono ?_; rintro r w1 ⟨rfl, k1⟩) | (go_at_call 37; refine (hof.out _).mono ?_; rw [hv]; rintro r w2 ⟨rfl, k2⟩) | (go_at_call 103; refine (resizeRight_c i cc _).mono ?_; rw [hy]; rintro r w3 ⟨rfl, k3⟩))) | fail
    clear c0
    go_wp2
    go_ret
    exact ⟨rfl, ((((K.alloc _).drew).trans k1).trans k2).trans k3⟩
  · have e1 : GOp.same ⟨3, ⟨a, b, c, d, e⟩, sv, i, cc, m⟩ ⟨3, ⟨0, 0, 0, 0, 0⟩, false, i, cc, 0⟩ = false := decide_eq_false hq
    have hr : decide (GOp.ok ⟨3, ⟨a, b, c, d, e⟩, sv, i, cc, m⟩) = false :=
      decide_eq_false (fun h => hq (h.1.trans hb))
    rw [hr]
    skip
    rw [e1] at qE
    clear hr e1 hq hb ht hv
    have hbare := Lib.hid (fun w => pBare_3 a b c d e sv i cc m w)
    skip
    go_enter Try.func23, Try.ntmps23
    go_wp2
    have c0 := opBlock (w := w.alloc (.cells #[.int .i64 3, .int .i64 a, .int .i64 b, .int .i64 c, .int .i64 d, .int .i64 e, .bool sv, .int .i64 i, .int .i64 cc, .int .i64 m] 29)) (b := w.heap.size) 3 a b c d e sv i cc m (heap_alloc_new' w _)
    go_region_with (first | (go_at_call 36; refine (hbare.out _).mono ?_; rintro r w1 ⟨rfl, k1⟩; obtain ⟨f0, f1, f2, f3, f4, f5, f6, f7, f8, f9⟩ := Keeps.op k1 c0 id))
    all_goals clear c0
    all_goals (go_wp2; go_ret; exact ⟨rfl, ((K.alloc _).drew).trans k1⟩)

theorem pOCheck_4 (a b c d e : Int) (sv : Bool) (i cc m : Int) (w : World) : Calls Try.prog 23 #[GOp.val ⟨4, ⟨a, b, c, d, e⟩, sv, i, cc, m⟩] w fun r w' => r = .returned (.bool (decide (GOp.ok ⟨4, ⟨a, b, c, d, e⟩, sv, i, cc, m⟩))) ∧ Adds w w' := by
  have K := Keeps.refl (fun _ => False) w
  have hv : ofV ⟨4, ⟨a, b, c, d, e⟩, sv, i, cc, m⟩ = .iface 107 (.agg #[.int .i64 m]) := rfl
  have hb : GOp.bare ⟨4, ⟨a, b, c, d, e⟩, sv, i, cc, m⟩ = ⟨4, ⟨0, 0, 0, 0, 0⟩, false, 0, 0, m⟩ := rfl
  have ht : GOp.right ⟨4, ⟨a, b, c, d, e⟩, sv, i, cc, m⟩ = (0 ≤ m ∧ m < 4) := rfl
  have qE := eqOp 4 4 a 0 b 0 c 0 d 0 e 0 i 0 cc 0 m m sv false
  by_cases hq : (⟨4, ⟨a, b, c, d, e⟩, sv, i, cc, m⟩ : GOp) = ⟨4, ⟨0, 0, 0, 0, 0⟩, false, 0, 0, m⟩
  · have e1 : GOp.same ⟨4, ⟨a, b, c, d, e⟩, sv, i, cc, m⟩ ⟨4, ⟨0, 0, 0, 0, 0⟩, false, 0, 0, m⟩ = true := decide_eq_true hq
    have hr : decide (GOp.ok ⟨4, ⟨a, b, c, d, e⟩, sv, i, cc, m⟩) = decide (0 ≤ m ∧ m < 4) :=
      decide_eq_decide.2 ⟨fun h => ht ▸ h.2, fun h => ⟨hq.trans hb.symm, ht ▸ h⟩⟩
    rw [hr]
    skip
    rw [e1] at qE
    generalize hy : decide (0 ≤ m ∧ m < 4) = y
    clear hr e1 hq hb ht
    have hbare := Lib.hid (fun w => pBare_4 a b c d e sv i cc m w)
    have hof := Lib.hid (fun w => pOf_c ⟨4, ⟨a, b, c, d, e⟩, sv, i, cc, m⟩ w)
    skip
    go_enter Try.func23, Try.ntmps23
    go_wp2
    have c0 := opBlock (w := w.alloc (.cells #[.int .i64 4, .int .i64 a, .int .i64 b, .int .i64 c, .int .i64 d, .int .i64 e, .bool sv, .int .i64 i, .int .i64 cc, .int .i64 m] 29)) (b := w.heap.size) 4 a b c d e sv i cc m (heap_alloc_new' w _)
    first | (go_region_held3 (fun w' => w'.cell? ⟨w.heap.size, 0, none⟩ = some (.int .i64 4) ∧ w'.cell? ⟨w.heap.size, 1, none⟩ = some (.int .i64 a) ∧ w'.cell? ⟨w.heap.size, 2, none⟩ = some (.int .i64 b) ∧ w'.cell? ⟨w.heap.size, 3, none⟩ = some (.int .i64 c) ∧ w'.cell? ⟨w.heap.size, 4, none⟩ = some (.int .i64 d) ∧ w'.cell? ⟨w.heap.size, 5, none⟩ = some (.int .i64 e) ∧ w'.cell? ⟨w.heap.size, 6, none⟩ = some (.bool sv) ∧ w'.cell? ⟨w.heap.size, 7, none⟩ = some (.int .i64 i) ∧ w'.cell? ⟨w.heap.size, 8, none⟩ = some (.int .i64 cc) ∧ w'.cell? ⟨w.heap.size, 9, none⟩ = some (.int .i64 m)) ((first | (go_keep; done) | exact Keeps.op (by assumption) (by assumption) id)) (first | (go_at_call 36; refine (hbare.out _).mono ?_; rintro r w1 ⟨rfl, k1⟩) | (go_at_call 37; refine (hof.out _).mono ?_; rw [hv]; rintro r w2 ⟨rfl, k2⟩) | (go_at_call 106; refine (modeRight_c m _).mono ?_; rw [hy]; rintro r w3 ⟨rfl, k3⟩))) | fail
    clear c0
    go_wp2
    go_ret
    exact ⟨rfl, ((((K.alloc _).drew).trans k1).trans k2).trans k3⟩
  · have e1 : GOp.same ⟨4, ⟨a, b, c, d, e⟩, sv, i, cc, m⟩ ⟨4, ⟨0, 0, 0, 0, 0⟩, false, 0, 0, m⟩ = false := decide_eq_false hq
    have hr : decide (GOp.ok ⟨4, ⟨a, b, c, d, e⟩, sv, i, cc, m⟩) = false :=
      decide_eq_false (fun h => hq (h.1.trans hb))
    rw [hr]
    skip
    rw [e1] at qE
    clear hr e1 hq hb ht hv
    have hbare := Lib.hid (fun w => pBare_4 a b c d e sv i cc m w)
    skip
    go_enter Try.func23, Try.ntmps23
    go_wp2
    have c0 := opBlock (w := w.alloc (.cells #[.int .i64 4, .int .i64 a, .int .i64 b, .int .i64 c, .int .i64 d, .int .i64 e, .bool sv, .int .i64 i, .int .i64 cc, .int .i64 m] 29)) (b := w.heap.size) 4 a b c d e sv i cc m (heap_alloc_new' w _)
    go_region_with (first | (go_at_call 36; refine (hbare.out _).mono ?_; rintro r w1 ⟨rfl, k1⟩; obtain ⟨f0, f1, f2, f3, f4, f5, f6, f7, f8, f9⟩ := Keeps.op k1 c0 id))
    all_goals clear c0
    all_goals (go_wp2; go_ret; exact ⟨rfl, ((K.alloc _).drew).trans k1⟩)

theorem pOCheck_k (k : Int) (h1 : k ≠ 1) (h2 : k ≠ 2) (h3 : k ≠ 3) (h4 : k ≠ 4) (a b c d e : Int) (sv : Bool) (i cc m : Int) (w : World) : Calls Try.prog 23 #[GOp.val ⟨k, ⟨a, b, c, d, e⟩, sv, i, cc, m⟩] w fun r w' => r = .returned (.bool (decide (GOp.ok ⟨k, ⟨a, b, c, d, e⟩, sv, i, cc, m⟩))) ∧ Adds w w' := by
  have K := Keeps.refl (fun _ => False) w
  have hv : ofV ⟨k, ⟨a, b, c, d, e⟩, sv, i, cc, m⟩ = .iface 109 (.agg #[.int .i64 k]) := by simp only [ofV, if_neg h1, if_neg h2, if_neg h3, if_neg h4]
  have hb : GOp.bare ⟨k, ⟨a, b, c, d, e⟩, sv, i, cc, m⟩ = ⟨k, ⟨0, 0, 0, 0, 0⟩, false, 0, 0, 0⟩ := by simp only [GOp.bare, if_neg h1, if_neg h2, if_neg h3, if_neg h4]
  have ht : GOp.right ⟨k, ⟨a, b, c, d, e⟩, sv, i, cc, m⟩ = (False) := by simp only [GOp.right, if_neg h1, if_neg h2, if_neg h3, if_neg h4]
  have qE := eqOp k k a 0 b 0 c 0 d 0 e 0 i 0 cc 0 m 0 sv false
  by_cases hq : (⟨k, ⟨a, b, c, d, e⟩, sv, i, cc, m⟩ : GOp) = ⟨k, ⟨0, 0, 0, 0, 0⟩, false, 0, 0, 0⟩
  · have e1 : GOp.same ⟨k, ⟨a, b, c, d, e⟩, sv, i, cc, m⟩ ⟨k, ⟨0, 0, 0, 0, 0⟩, false, 0, 0, 0⟩ = true := decide_eq_true hq
    have hr : decide (GOp.ok ⟨k, ⟨a, b, c, d, e⟩, sv, i, cc, m⟩) = decide (False) :=
      decide_eq_decide.2 ⟨fun h => ht ▸ h.2, fun h => ⟨hq.trans hb.symm, ht ▸ h⟩⟩
    rw [hr]
    skip
    rw [e1] at qE
    generalize hy : decide (False) = y
    clear hr e1 hq hb ht
    have hbare := Lib.hid (fun w => pBare_k k h1 h2 h3 h4 a b c d e sv i cc m w)
    have hof := Lib.hid (fun w => pOf_c ⟨k, ⟨a, b, c, d, e⟩, sv, i, cc, m⟩ w)
    clear h1 h2 h3 h4
    go_enter Try.func23, Try.ntmps23
    go_wp2
    have c0 := opBlock (w := w.alloc (.cells #[.int .i64 k, .int .i64 a, .int .i64 b, .int .i64 c, .int .i64 d, .int .i64 e, .bool sv, .int .i64 i, .int .i64 cc, .int .i64 m] 29)) (b := w.heap.size) k a b c d e sv i cc m (heap_alloc_new' w _)
    first | (go_region_held3 (fun w' => w'.cell? ⟨w.heap.size, 0, none⟩ = some (.int .i64 k) ∧ w'.cell? ⟨w.heap.size, 1, none⟩ = some (.int .i64 a) ∧ w'.cell? ⟨w.heap.size, 2, none⟩ = some (.int .i64 b) ∧ w'.cell? ⟨w.heap.size, 3, none⟩ = some (.int .i64 c) ∧ w'.cell? ⟨w.heap.size, 4, none⟩ = some (.int .i64 d) ∧ w'.cell? ⟨w.heap.size, 5, none⟩ = some (.int .i64 e) ∧ w'.cell? ⟨w.heap.size, 6, none⟩ = some (.bool sv) ∧ w'.cell? ⟨w.heap.size, 7, none⟩ = some (.int .i64 i) ∧ w'.cell? ⟨w.heap.size, 8, none⟩ = some (.int .i64 cc) ∧ w'.cell? ⟨w.heap.size, 9, none⟩ = some (.int .i64 m)) ((first | (go_keep; done) | exact Keeps.op (by assumption) (by assumption) id)) (first | (go_at_call 36; refine (hbare.out _).mono ?_; rintro r w1 ⟨rfl, k1⟩) | (go_at_call 37; refine (hof.out _).mono ?_; rw [hv]; rintro r w2 ⟨rfl, k2⟩) | (go_at_call 109; refine (otherRight_c k _).mono ?_; rintro r w3 ⟨rfl, k3⟩))) | fail
    clear c0
    go_wp2
    go_ret
    exact ⟨by rw [← hy]; rfl, ((((K.alloc _).drew).trans k1).trans k2).trans k3⟩
  · have e1 : GOp.same ⟨k, ⟨a, b, c, d, e⟩, sv, i, cc, m⟩ ⟨k, ⟨0, 0, 0, 0, 0⟩, false, 0, 0, 0⟩ = false := decide_eq_false hq
    have hr : decide (GOp.ok ⟨k, ⟨a, b, c, d, e⟩, sv, i, cc, m⟩) = false :=
      decide_eq_false (fun h => hq (h.1.trans hb))
    rw [hr]
    skip
    rw [e1] at qE
    clear hr e1 hq hb ht hv
    have hbare := Lib.hid (fun w => pBare_k k h1 h2 h3 h4 a b c d e sv i cc m w)
    clear h1 h2 h3 h4
    go_enter Try.func23, Try.ntmps23
    go_wp2
    have c0 := opBlock (w := w.alloc (.cells #[.int .i64 k, .int .i64 a, .int .i64 b, .int .i64 c, .int .i64 d, .int .i64 e, .bool sv, .int .i64 i, .int .i64 cc, .int .i64 m] 29)) (b := w.heap.size) k a b c d e sv i cc m (heap_alloc_new' w _)
    go_region_with (first | (go_at_call 36; refine (hbare.out _).mono ?_; rintro r w1 ⟨rfl, k1⟩; obtain ⟨f0, f1, f2, f3, f4, f5, f6, f7, f8, f9⟩ := Keeps.op k1 c0 id))
    all_goals clear c0
    all_goals (go_wp2; go_ret; exact ⟨rfl, ((K.alloc _).drew).trans k1⟩)

theorem pOCheck_c (o : GOp) (w : World) : Calls Try.prog 23 #[o.val] w fun r w' => r = .returned (.bool (decide o.ok)) ∧ Adds w w' := by
  obtain ⟨k, ⟨a, b, c, d, e⟩, sv, i, cc, m⟩ := o
  by_cases h1 : k = 1
  · subst h1; exact pOCheck_1 a b c d e sv i cc m w
  by_cases h2 : k = 2
  · subst h2; exact pOCheck_2 a b c d e sv i cc m w
  by_cases h3 : k = 3
  · subst h3; exact pOCheck_3 a b c d e sv i cc m w
  by_cases h4 : k = 4
  · subst h4; exact pOCheck_4 a b c d e sv i cc m w
  exact pOCheck_k k h1 h2 h3 h4 a b c d e sv i cc m w

end Go.Proofs.Ytfpdfjbooalgjaa
