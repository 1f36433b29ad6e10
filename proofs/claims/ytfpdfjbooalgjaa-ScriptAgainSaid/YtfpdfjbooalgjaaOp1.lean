
/- Ops (chapter 13): an op as ten numbers; of(o), and what each kind's methods hand back. -/
import Derived.Test.YtfpdfjbooalgjaaBu
import Derived.Test.YtfpdfjbooalgjaaMem2
import Derived.Test.YtfpdfjbooalgjaaPure3
import Derived.Lib.Hide
import Derived.Handy
namespace Go.Proofs.Ytfpdfjbooalgjaa
open Go.RowKit
set_option linter.unusedVariables false

structure GTask where
  (id c d t m : Int)
deriving DecidableEq
structure GOp where
  kind : Int
  task : GTask
  sv : Bool
  (id c m : Int)
deriving DecidableEq

abbrev i64B (x : Int) : Prop := -9223372036854775808 ≤ x ∧ x ≤ 9223372036854775807
def GTask.wf (t : GTask) : Prop := i64B t.id ∧ i64B t.c ∧ i64B t.d ∧ i64B t.t ∧ i64B t.m
def GOp.wf (o : GOp) : Prop := i64B o.kind ∧ o.task.wf ∧ i64B o.id ∧ i64B o.c ∧ i64B o.m
def GTask.zero : GTask := ⟨0, 0, 0, 0, 0⟩
def GOp.zero : GOp := ⟨0, ⟨0, 0, 0, 0, 0⟩, false, 0, 0, 0⟩
abbrev GTask.val (t : GTask) : Value := .agg #[.int .i64 t.id, .int .i64 t.c, .int .i64 t.d, .int .i64 t.t, .int .i64 t.m]
abbrev GOp.val (o : GOp) : Value := .agg #[.int .i64 o.kind, .int .i64 o.task.id, .int .i64 o.task.c, .int .i64 o.task.d, .int .i64 o.task.t, .int .i64 o.task.m, .bool o.sv, .int .i64 o.id, .int .i64 o.c, .int .i64 o.m]

/-- Without what the kind does not say. -/
def GOp.bare (o : GOp) : GOp :=
  if o.kind = 1 then ⟨1, o.task, o.sv, 0, 0, 0⟩
  else if o.kind = 2 then ⟨2, ⟨0, 0, 0, 0, 0⟩, false, o.id, 0, 0⟩
  else if o.kind = 3 then ⟨3, ⟨0, 0, 0, 0, 0⟩, false, o.id, o.c, 0⟩
  else if o.kind = 4 then ⟨4, ⟨0, 0, 0, 0, 0⟩, false, 0, 0, o.m⟩
  else ⟨o.kind, ⟨0, 0, 0, 0, 0⟩, false, 0, 0, 0⟩

/-- What of(o) hands back. -/
def ofV (o : GOp) : Value :=
  if o.kind = 1 then .iface 101 (.agg #[.int .i64 o.task.id, .int .i64 o.task.c, .int .i64 o.task.d, .int .i64 o.task.t, .int .i64 o.task.m, .bool o.sv])
  else if o.kind = 2 then .iface 103 (.agg #[.int .i64 o.id])
  else if o.kind = 3 then .iface 105 (.agg #[.int .i64 o.id, .int .i64 o.c])
  else if o.kind = 4 then .iface 107 (.agg #[.int .i64 o.m])
  else .iface 109 (.agg #[.int .i64 o.kind])

theorem pOf_c (o : GOp) (w : World) : Calls Try.prog 37 #[o.val] w fun e w' => e = .returned (ofV o) ∧ Adds w w' := by
  obtain ⟨k, ⟨a, b, c, d, e⟩, sv, id, cc, m⟩ := o
  have K := Keeps.refl (fun _ => False) w
  by_cases h1 : k = 1
  · simp only [ofV, if_pos h1]
    subst h1
    go_enter Try.func37, Try.ntmps37
    go_wp2
    go_ret
    exact ⟨rfl, K.alloc _⟩
  have b1 : (k == 1) = false := by simpa using h1
  by_cases h2 : k = 2
  · subst h2
    simp only [ofV]
    go_enter Try.func37, Try.ntmps37
    go_wp2
    go_ret
    exact ⟨rfl, K.alloc _⟩
  have b2 : (k == 2) = false := by simpa using h2
  by_cases h3 : k = 3
  · subst h3
    simp only [ofV]
    go_enter Try.func37, Try.ntmps37
    go_wp2
    go_ret
    exact ⟨rfl, K.alloc _⟩
  have b3 : (k == 3) = false := by simpa using h3
  by_cases h4 : k = 4
  · subst h4
    simp only [ofV]
    go_enter Try.func37, Try.ntmps37
    go_wp2
    go_ret
    exact ⟨rfl, K.alloc _⟩
  have b4 : (k == 4) = false := by simpa using h4
  simp only [ofV, if_neg h1, if_neg h2, if_neg h3, if_neg h4]
  clear h1 h2 h3 h4
  go_enter Try.func37, Try.ntmps37
  go_wp2
  go_ret
  exact ⟨rfl, K.alloc _⟩

theorem admitOp_c (a b c d e : Int) (sv : Bool) (w : World) : Calls Try.prog 93 #[.agg #[.int .i64 a, .int .i64 b, .int .i64 c, .int .i64 d, .int .i64 e, .bool sv]] w fun r w' => r = .returned (GOp.val ⟨1, ⟨a, b, c, d, e⟩, sv, 0, 0, 0⟩) ∧ Adds w w' := by
  have K := Keeps.refl (fun _ => False) w
  go_enter Try.func93, Try.ntmps93
  go_wp2
  go_returns
  exact ⟨rfl, by (repeat (first | assumption | exact Keeps.refl _ _ | exact Keeps.trans_alloc (by assumption) | (refine Keeps.alloc ?_ _) | (refine Keeps.drew ?_) | (refine Keeps.drewN ?_ _) | (refine Keeps.setCell ?_ _ _ (fun h => by simp at h; try omega)) | (refine Keeps.setCell ?_ _ _ (fun h => absurd h (by simp; try omega)))))⟩
theorem removeOp_c (id : Int) (w : World) : Calls Try.prog 98 #[.agg #[.int .i64 id]] w fun r w' => r = .returned (GOp.val ⟨2, ⟨0, 0, 0, 0, 0⟩, false, id, 0, 0⟩) ∧ Adds w w' := by
  have K := Keeps.refl (fun _ => False) w
  go_enter Try.func98, Try.ntmps98
  go_wp2
  go_returns
  exact ⟨rfl, by (repeat (first | assumption | exact Keeps.refl _ _ | exact Keeps.trans_alloc (by assumption) | (refine Keeps.alloc ?_ _) | (refine Keeps.drew ?_) | (refine Keeps.drewN ?_ _) | (refine Keeps.setCell ?_ _ _ (fun h => by simp at h; try omega)) | (refine Keeps.setCell ?_ _ _ (fun h => absurd h (by simp; try omega)))))⟩
theorem resizeOp_c (id c : Int) (w : World) : Calls Try.prog 101 #[.agg #[.int .i64 id, .int .i64 c]] w fun r w' => r = .returned (GOp.val ⟨3, ⟨0, 0, 0, 0, 0⟩, false, id, c, 0⟩) ∧ Adds w w' := by
  have K := Keeps.refl (fun _ => False) w
  go_enter Try.func101, Try.ntmps101
  go_wp2
  go_returns
  exact ⟨rfl, by (repeat (first | assumption | exact Keeps.refl _ _ | exact Keeps.trans_alloc (by assumption) | (refine Keeps.alloc ?_ _) | (refine Keeps.drew ?_) | (refine Keeps.drewN ?_ _) | (refine Keeps.setCell ?_ _ _ (fun h => by simp at h; try omega)) | (refine Keeps.setCell ?_ _ _ (fun h => absurd h (by simp; try omega)))))⟩
theorem modeOp_c (m : Int) (w : World) : Calls Try.prog 104 #[.agg #[.int .i64 m]] w fun r w' => r = .returned (GOp.val ⟨4, ⟨0, 0, 0, 0, 0⟩, false, 0, 0, m⟩) ∧ Adds w w' := by
  have K := Keeps.refl (fun _ => False) w
  go_enter Try.func104, Try.ntmps104
  go_wp2
  go_returns
  exact ⟨rfl, by (repeat (first | assumption | exact Keeps.refl _ _ | exact Keeps.trans_alloc (by assumption) | (refine Keeps.alloc ?_ _) | (refine Keeps.drew ?_) | (refine Keeps.drewN ?_ _) | (refine Keeps.setCell ?_ _ _ (fun h => by simp at h; try omega)) | (refine Keeps.setCell ?_ _ _ (fun h => absurd h (by simp; try omega)))))⟩
theorem otherOp_c (k : Int) (w : World) : Calls Try.prog 107 #[.agg #[.int .i64 k]] w fun r w' => r = .returned (GOp.val ⟨k, ⟨0, 0, 0, 0, 0⟩, false, 0, 0, 0⟩) ∧ Adds w w' := by
  have K := Keeps.refl (fun _ => False) w
  go_enter Try.func107, Try.ntmps107
  go_wp2
  go_returns
  exact ⟨rfl, by (repeat (first | assumption | exact Keeps.refl _ _ | exact Keeps.trans_alloc (by assumption) | (refine Keeps.alloc ?_ _) | (refine Keeps.drew ?_) | (refine Keeps.drewN ?_ _) | (refine Keeps.setCell ?_ _ _ (fun h => by simp at h; try omega)) | (refine Keeps.setCell ?_ _ _ (fun h => absurd h (by simp; try omega)))))⟩

end Go.Proofs.Ytfpdfjbooalgjaa
