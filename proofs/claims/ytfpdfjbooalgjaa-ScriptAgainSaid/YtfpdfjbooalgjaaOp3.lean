
/- Bare of ops. -/
import Derived.Test.YtfpdfjbooalgjaaOp2
namespace Go.Proofs.Ytfpdfjbooalgjaa
open Go.RowKit
set_option linter.unusedVariables false

abbrev GOp.cells (o : GOp) : Array Value := #[.int .i64 o.kind, .int .i64 o.task.id, .int .i64 o.task.c, .int .i64 o.task.d, .int .i64 o.task.t, .int .i64 o.task.m, .bool o.sv, .int .i64 o.id, .int .i64 o.c, .int .i64 o.m]

theorem opBlock {w : World} {b : Nat} {T : TypeId} {fr : Nat × Nat} (k a b' c d e : Int) (sv : Bool) (i cc m : Int) (hb : w.heap[b]? = some (.cells #[.int .i64 k, .int .i64 a, .int .i64 b', .int .i64 c, .int .i64 d, .int .i64 e, .bool sv, .int .i64 i, .int .i64 cc, .int .i64 m] T fr)) :
    w.cell? ⟨b, 0, none⟩ = some (.int .i64 k) ∧ w.cell? ⟨b, 1, none⟩ = some (.int .i64 a) ∧ w.cell? ⟨b, 2, none⟩ = some (.int .i64 b') ∧ w.cell? ⟨b, 3, none⟩ = some (.int .i64 c) ∧ w.cell? ⟨b, 4, none⟩ = some (.int .i64 d) ∧ w.cell? ⟨b, 5, none⟩ = some (.int .i64 e) ∧ w.cell? ⟨b, 6, none⟩ = some (.bool sv) ∧ w.cell? ⟨b, 7, none⟩ = some (.int .i64 i) ∧ w.cell? ⟨b, 8, none⟩ = some (.int .i64 cc) ∧ w.cell? ⟨b, 9, none⟩ = some (.int .i64 m) :=
  ⟨cell_at hb 0 rfl, cell_at hb 1 rfl, cell_at hb 2 rfl, cell_at hb 3 rfl, cell_at hb 4 rfl, cell_at hb 5 rfl, cell_at hb 6 rfl, cell_at hb 7 rfl, cell_at hb 8 rfl, cell_at hb 9 rfl⟩

theorem pBare_1  (a b c d e : Int) (sv : Bool) (i cc m : Int) (w : World) : Calls Try.prog 36 #[GOp.val ⟨1, ⟨a, b, c, d, e⟩, sv, i, cc, m⟩] w fun r w' => r = .returned (GOp.val ⟨1, ⟨a, b, c, d, e⟩, sv, 0, 0, 0⟩) ∧ Adds w w' := by
  have K := Keeps.refl (fun _ => False) w
  have hv : ofV ⟨1, ⟨a, b, c, d, e⟩, sv, i, cc, m⟩ = .iface 101 (.agg #[.int .i64 a, .int .i64 b, .int .i64 c, .int .i64 d, .int .i64 e, .bool sv]) := rfl
  skip
  go_enter Try.func36, Try.ntmps36
  go_wp2_with (first | (go_at_call 37; refine (pOf_c ⟨1, ⟨a, b, c, d, e⟩, sv, i, cc, m⟩ _).mono ?_; rw [hv]; clear hv; rintro r w1 ⟨rfl, k1⟩) | (go_at_call 93; refine (admitOp_c a b c d e sv _).mono ?_; rintro r w2 ⟨rfl, k2⟩; have hb := k2.heap (k1.heap (k := w.heap.size + 1) (by simpa using heap_alloc_new' (w.alloc _) _) id) id; obtain ⟨c0, c1, c2, c3, c4, c5, c6, c7, c8, c9⟩ := opBlock 0 0 0 0 0 0 false 0 0 0 hb; have fz : ∀ j, w2.frozen? ⟨w.heap.size + 1, j, none⟩ = false := fun j => free_at hb j; clear hb))
  try simp only [Exit.inBlock, Exit.then]
  refine bodyPost_ret (v := GOp.val ⟨1, ⟨a, b, c, d, e⟩, sv, 0, 0, 0⟩) (by simp [results, Try.results36, go_sem, c0, c1, c2, c3, c4, c5, c6, c7, c8, c9, GOp.val]) rfl ?_
  have K2 : Adds w w2 := (((K.alloc _).alloc _).trans k1).trans k2
  refine ⟨rfl, ?_⟩
  iterate 10 refine Keeps.setCell ?_ _ _ (fun h => absurd h (Nat.not_lt.2 (Nat.le_succ _)))
  exact K2

theorem pBare_2  (a b c d e : Int) (sv : Bool) (i cc m : Int) (w : World) : Calls Try.prog 36 #[GOp.val ⟨2, ⟨a, b, c, d, e⟩, sv, i, cc, m⟩] w fun r w' => r = .returned (GOp.val ⟨2, ⟨0, 0, 0, 0, 0⟩, false, i, 0, 0⟩) ∧ Adds w w' := by
  have K := Keeps.refl (fun _ => False) w
  have hv : ofV ⟨2, ⟨a, b, c, d, e⟩, sv, i, cc, m⟩ = .iface 103 (.agg #[.int .i64 i]) := rfl
  skip
  go_enter Try.func36, Try.ntmps36
  go_wp2_with (first | (go_at_call 37; refine (pOf_c ⟨2, ⟨a, b, c, d, e⟩, sv, i, cc, m⟩ _).mono ?_; rw [hv]; clear hv; rintro r w1 ⟨rfl, k1⟩) | (go_at_call 98; refine (removeOp_c i _).mono ?_; rintro r w2 ⟨rfl, k2⟩; have hb := k2.heap (k1.heap (k := w.heap.size + 1) (by simpa using heap_alloc_new' (w.alloc _) _) id) id; obtain ⟨c0, c1, c2, c3, c4, c5, c6, c7, c8, c9⟩ := opBlock 0 0 0 0 0 0 false 0 0 0 hb; have fz : ∀ j, w2.frozen? ⟨w.heap.size + 1, j, none⟩ = false := fun j => free_at hb j; clear hb))
  try simp only [Exit.inBlock, Exit.then]
  refine bodyPost_ret (v := GOp.val ⟨2, ⟨0, 0, 0, 0, 0⟩, false, i, 0, 0⟩) (by simp [results, Try.results36, go_sem, c0, c1, c2, c3, c4, c5, c6, c7, c8, c9, GOp.val]) rfl ?_
  have K2 : Adds w w2 := (((K.alloc _).alloc _).trans k1).trans k2
  refine ⟨rfl, ?_⟩
  iterate 10 refine Keeps.setCell ?_ _ _ (fun h => absurd h (Nat.not_lt.2 (Nat.le_succ _)))
  exact K2

theorem pBare_3  (a b c d e : Int) (sv : Bool) (i cc m : Int) (w : World) : Calls Try.prog 36 #[GOp.val ⟨3, ⟨a, b, c, d, e⟩, sv, i, cc, m⟩] w fun r w' => r = .returned (GOp.val ⟨3, ⟨0, 0, 0, 0, 0⟩, false, i, cc, 0⟩) ∧ Adds w w' := by
  have K := Keeps.refl (fun _ => False) w
  have hv : ofV ⟨3, ⟨a, b, c, d, e⟩, sv, i, cc, m⟩ = .iface 105 (.agg #[.int .i64 i, .int .i64 cc]) := rfl
  skip
  go_enter Try.func36, Try.ntmps36
  go_wp2_with (first | (go_at_call 37; refine (pOf_c ⟨3, ⟨a, b, c, d, e⟩, sv, i, cc, m⟩ _).mono ?_; rw [hv]; clear hv; rintro r w1 ⟨rfl, k1⟩) | (go_at_call 101; refine (resizeOp_c i cc _).mono ?_; rintro r w2 ⟨rfl, k2⟩; have hb := k2.heap (k1.heap (k := w.heap.size + 1) (by simpa using heap_alloc_new' (w.alloc _) _) id) id; obtain ⟨c0, c1, c2, c3, c4, c5, c6, c7, c8, c9⟩ := opBlock 0 0 0 0 0 0 false 0 0 0 hb; have fz : ∀ j, w2.frozen? ⟨w.heap.size + 1, j, none⟩ = false := fun j => free_at hb j; clear hb))
  try simp only [Exit.inBlock, Exit.then]
  refine bodyPost_ret (v := GOp.val ⟨3, ⟨0, 0, 0, 0, 0⟩, false, i, cc, 0⟩) (by simp [results, Try.results36, go_sem, c0, c1, c2, c3, c4, c5, c6, c7, c8, c9, GOp.val]) rfl ?_
  have K2 : Adds w w2 := (((K.alloc _).alloc _).trans k1).trans k2
  refine ⟨rfl, ?_⟩
  iterate 10 refine Keeps.setCell ?_ _ _ (fun h => absurd h (Nat.not_lt.2 (Nat.le_succ _)))
  exact K2

theorem pBare_4  (a b c d e : Int) (sv : Bool) (i cc m : Int) (w : World) : Calls Try.prog 36 #[GOp.val ⟨4, ⟨a, b, c, d, e⟩, sv, i, cc, m⟩] w fun r w' => r = .returned (GOp.val ⟨4, ⟨0, 0, 0, 0, 0⟩, false, 0, 0, m⟩) ∧ Adds w w' := by
  have K := Keeps.refl (fun _ => False) w
  have hv : ofV ⟨4, ⟨a, b, c, d, e⟩, sv, i, cc, m⟩ = .iface 107 (.agg #[.int .i64 m]) := rfl
  skip
  go_enter Try.func36, Try.ntmps36
  go_wp2_with (first | (go_at_call 37; refine (pOf_c ⟨4, ⟨a, b, c, d, e⟩, sv, i, cc, m⟩ _).mono ?_; rw [hv]; clear hv; rintro r w1 ⟨rfl, k1⟩) | (go_at_call 104; refine (modeOp_c m _).mono ?_; rintro r w2 ⟨rfl, k2⟩; have hb := k2.heap (k1.heap (k := w.heap.size + 1) (by simpa using heap_alloc_new' (w.alloc _) _) id) id; obtain ⟨c0, c1, c2, c3, c4, c5, c6, c7, c8, c9⟩ := opBlock 0 0 0 0 0 0 false 0 0 0 hb; have fz : ∀ j, w2.frozen? ⟨w.heap.size + 1, j, none⟩ = false := fun j => free_at hb j; clear hb))
  try simp only [Exit.inBlock, Exit.then]
  refine bodyPost_ret (v := GOp.val ⟨4, ⟨0, 0, 0, 0, 0⟩, false, 0, 0, m⟩) (by simp [results, Try.results36, go_sem, c0, c1, c2, c3, c4, c5, c6, c7, c8, c9, GOp.val]) rfl ?_
  have K2 : Adds w w2 := (((K.alloc _).alloc _).trans k1).trans k2
  refine ⟨rfl, ?_⟩
  iterate 10 refine Keeps.setCell ?_ _ _ (fun h => absurd h (Nat.not_lt.2 (Nat.le_succ _)))
  exact K2

theorem pBare_k (k : Int) (h1 : k ≠ 1) (h2 : k ≠ 2) (h3 : k ≠ 3) (h4 : k ≠ 4) (a b c d e : Int) (sv : Bool) (i cc m : Int) (w : World) : Calls Try.prog 36 #[GOp.val ⟨k, ⟨a, b, c, d, e⟩, sv, i, cc, m⟩] w fun r w' => r = .returned (GOp.val ⟨k, ⟨0, 0, 0, 0, 0⟩, false, 0, 0, 0⟩) ∧ Adds w w' := by
  have K := Keeps.refl (fun _ => False) w
  have hv : ofV ⟨k, ⟨a, b, c, d, e⟩, sv, i, cc, m⟩ = .iface 109 (.agg #[.int .i64 k]) := by simp only [ofV, if_neg h1, if_neg h2, if_neg h3, if_neg h4]
  clear h1 h2 h3 h4
  go_enter Try.func36, Try.ntmps36
  go_wp2_with (first | (go_at_call 37; refine (pOf_c ⟨k, ⟨a, b, c, d, e⟩, sv, i, cc, m⟩ _).mono ?_; rw [hv]; clear hv; rintro r w1 ⟨rfl, k1⟩) | (go_at_call 107; refine (otherOp_c k _).mono ?_; rintro r w2 ⟨rfl, k2⟩; have hb := k2.heap (k1.heap (k := w.heap.size + 1) (by simpa using heap_alloc_new' (w.alloc _) _) id) id; obtain ⟨c0, c1, c2, c3, c4, c5, c6, c7, c8, c9⟩ := opBlock 0 0 0 0 0 0 false 0 0 0 hb; have fz : ∀ j, w2.frozen? ⟨w.heap.size + 1, j, none⟩ = false := fun j => free_at hb j; clear hb))
  try simp only [Exit.inBlock, Exit.then]
  refine bodyPost_ret (v := GOp.val ⟨k, ⟨0, 0, 0, 0, 0⟩, false, 0, 0, 0⟩) (by simp [results, Try.results36, go_sem, c0, c1, c2, c3, c4, c5, c6, c7, c8, c9, GOp.val]) rfl ?_
  have K2 : Adds w w2 := (((K.alloc _).alloc _).trans k1).trans k2
  refine ⟨rfl, ?_⟩
  iterate 10 refine Keeps.setCell ?_ _ _ (fun h => absurd h (Nat.not_lt.2 (Nat.le_succ _)))
  exact K2

theorem pBare_c (o : GOp) (w : World) : Calls Try.prog 36 #[o.val] w fun r w' => r = .returned o.bare.val ∧ Adds w w' := by
  obtain ⟨k, ⟨a, b, c, d, e⟩, sv, i, cc, m⟩ := o
  simp only [GOp.bare]
  by_cases h1 : k = 1
  · rw [if_pos h1]; subst h1; exact pBare_1 a b c d e sv i cc m w
  by_cases h2 : k = 2
  · rw [if_neg h1, if_pos h2]; subst h2; exact pBare_2 a b c d e sv i cc m w
  by_cases h3 : k = 3
  · rw [if_neg h1, if_neg h2, if_pos h3]; subst h3; exact pBare_3 a b c d e sv i cc m w
  by_cases h4 : k = 4
  · rw [if_neg h1, if_neg h2, if_neg h3, if_pos h4]; subst h4; exact pBare_4 a b c d e sv i cc m w
  rw [if_neg h1, if_neg h2, if_neg h3, if_neg h4]
  exact pBare_k k h1 h2 h3 h4 a b c d e sv i cc m w

end Go.Proofs.Ytfpdfjbooalgjaa
