
/- A table that is made once: sync.Once, its lock free. -/
import Derived.Test.YtdoenmokahbeaaaGreatDoorFr1
import Derived.Tactics
import Derived.Tactics2
import Derived.Defers
import Derived.Laws.Pointers
import Derived.Laws.LoneSync
import Derived.RegionTactic
import Derived.RegionCalls
namespace Go.Proofs.YtdoenmokahbeaaaGreatDoor
open Go.RowKit
set_option linter.unusedVariables false
set_option linter.unusedSimpArgs false

theorem raceDisable_c (w : World) : (callFunc 125 #[]).run Tryz.prog w = .ok (.value (.tuple #[])) w := run_call_mark0 Tryz.func125 (by kernel_rfl) (by kernel_rfl) (by kernel_rfl) .disable (by kernel_rfl) w
theorem raceEnable_c (w : World) : (callFunc 127 #[]).run Tryz.prog w = .ok (.value (.tuple #[])) w := run_call_mark0 Tryz.func127 (by kernel_rfl) (by kernel_rfl) (by kernel_rfl) .enable (by kernel_rfl) w
theorem raceAcquire_c (a : Addr) (w : World) : (callFunc 128 #[.pointer (some a)]).run Tryz.prog w = .ok (.value (.tuple #[])) w := run_call_marked Tryz.func128 (by kernel_rfl) (by kernel_rfl) (by kernel_rfl) .acquire (by kernel_rfl) a w
theorem raceRelMerge_c (a : Addr) (w : World) : (callFunc 130 #[.pointer (some a)]).run Tryz.prog w = .ok (.value (.tuple #[])) w := run_call_marked Tryz.func130 (by kernel_rfl) (by kernel_rfl) (by kernel_rfl) .releaseMerge (by kernel_rfl) a w

set_option maxRecDepth 100000 in
theorem store_deferred (a : Addr) (x : Value) (u : FrameMode) (w : World) (hc : w.cell? a = some x) (hz : w.frozen? a = false) :
    CallsD Tryz.prog 115 #[.pointer (some a), .bool true] u w fun e u' w' => u' = u ∧ (e = .returned (.tuple #[]) ∧ w' = w.drew.setCell a (.int .u32 1)) := by
  have hc' : w.drew.cell? a = some x := by go_simp
  have hz' : w.drew.frozen? a = false := by go_simp
  have hst := run_call_store (P := Tryz.prog) Tryz.func122 (by kernel_rfl) (by kernel_rfl) (by kernel_rfl) (by kernel_rfl) (k := .u32) (y := 1) hc' hz'
  go_enter_d Tryz.func115, Tryz.ntmps115
  go_wp2
  go_region_calls
  all_goals (go_end0; exact ⟨rfl, rfl⟩)
set_option maxRecDepth 100000 in
theorem unlock_deferred (a : Addr) (u : FrameMode) (w : World) (hc : w.cell? a = some (.int .i32 1)) (hz : w.frozen? a = false) :
    CallsD Tryz.prog 114 #[.pointer (some a)] u w fun e u' w' => u' = u ∧ (e = .returned (.tuple #[]) ∧ w' = w.setCell a (.int .i32 0)) := by
  have hd := raceDisable_c
  have he := raceEnable_c
  have hr := raceRelMerge_c
  have hadd := run_call_add (P := Tryz.prog) Tryz.func131 (by kernel_rfl) (by kernel_rfl) (by kernel_rfl) .i32 (by kernel_rfl) (y := -1) (s := 0) hc hz (by simp [go_sem]; rfl)
  have hcv := run_convert_to_unsafe (P := Tryz.prog) (src := 199) (dst := 179) Tryz.underlying199 Tryz.underlying179 (by kernel_rfl) hc
  go_enter_d Tryz.func114, Tryz.ntmps114
  go_wp2
  go_end0
  go_wp2
  go_end0
  exact ⟨rfl, rfl⟩
set_option maxRecDepth 100000 in
theorem lock_free (a : Addr) (w : World) (hc : w.cell? a = some (.int .i32 0)) (hz : w.frozen? a = false) :
    Calls Tryz.prog 113 #[.pointer (some a)] w fun e w' => e = .returned (.tuple #[]) ∧ w' = w.setCell a (.int .i32 1) := by
  have hd := raceDisable_c
  have he := raceEnable_c
  have ha := raceAcquire_c
  have hcas := run_call_cas_hit (P := Tryz.prog) Tryz.func126 (by kernel_rfl) (by kernel_rfl) (by kernel_rfl) .i32 (by kernel_rfl) (y := 1) hc hz
  have hc' : (w.setCell a (.int .i32 1)).cell? a = some (.int .i32 1) := World.cell?_setCell_same w a _ hc
  have hcv := run_convert_to_unsafe (P := Tryz.prog) (src := 199) (dst := 179) Tryz.underlying199 Tryz.underlying179 (by kernel_rfl) hc'
  go_enter Tryz.func113, Tryz.ntmps113
  go_wp2
  first | go_end0 | (simp only [Exit.inBlock, Exit.then]; refine bodyPost_ret (results_none rfl _ _ _) rfl ?_) | refine bodyPost_ret (results_none rfl _ _ _) rfl ?_
  go_wp2
  go_end0
  exact ⟨rfl, rfl⟩

set_option maxRecDepth 100000 in
set_option maxHeartbeats 1600000 in
theorem onceSlow_c {b : Nat} {c2 : Value} {w : World} (hb : TabC b (.int .u32 0) (.int .i32 0) c2 (tabF 0) w) :
    Calls Tryz.prog 107 #[.pointer (some ⟨b, 0, none⟩), .func (.func 96) #[.pointer (some ⟨b, 0, none⟩)] #[]] w fun e w' => e = .returned (.tuple #[]) ∧ TabC b (.int .u32 1) (.int .i32 0) c2 (tabF 256) w' ∧ Keeps (fun k => k = b) w w' := by
  have hnot : ∀ (x : Bool) (w : World), (Op.unary .not (.bool x)).run Tryz.prog w = .ok (.bool (!x)) w := fun _ _ => rfl
  obtain ⟨h1, k1⟩ := hb.set1 (.int .i32 1)
  generalize hW : w.setCell ⟨b, 1, none⟩ (.int .i32 1) = w1 at h1 k1
  have hl := run_call_load (P := Tryz.prog) Tryz.func112 (by kernel_rfl) (by kernel_rfl) (by kernel_rfl) .u32 (by kernel_rfl) (w := w1) (a := ⟨b, 0, none⟩) (x := 0) h1.g0
  go_enter_defers Tryz.func107, Tryz.ntmps107
  go_wp2_with (go_at_call 113; refine (lock_free ⟨b, 0 + 1, none⟩ _ hb.g1 (hb.free _)).mono ?_; rintro e w' ⟨rfl, rfl⟩)
  go_wp2_with (first | (go_at_call 96; refine (cFill_c h1).mono ?_; rintro e w2 ⟨rfl, h2, k2⟩) | (go_at_call 106; go_in))
  go_wp2
  refine leaves_cons (f := 115) (args := #[.pointer (some ⟨b, 0, none⟩), .bool true]) (by simp) (by simp [go_sem]) ?_
  refine (store_deferred ⟨b, 0, none⟩ (.int .u32 0) .returning _ h2.g0 (h2.free _)).mono ?_
  rintro e u' w'' ⟨rfl, rfl, rfl⟩
  have kd : Keeps (fun k => k = b) w2 w2.drew := (Keeps.refl _ w2).drew
  have h2d : TabC b (.int .u32 0) (.int .i32 1) c2 (tabF 256) w2.drew := h2.keeps ((Keeps.refl (fun _ => False) w2).drew) id
  obtain ⟨h3, k3⟩ := h2d.set0 (.int .u32 1)
  refine leaves_cons (f := 114) (args := #[.pointer (some ⟨b, 1, none⟩)]) (by simp [settle]) (by simp [go_sem]) ?_
  refine (unlock_deferred ⟨b, 1, none⟩ _ _ h3.g1 (h3.free _)).mono ?_
  rintro e u' w'' ⟨rfl, rfl, rfl⟩
  obtain ⟨h4, k4⟩ := h3.set1 (.int .i32 0)
  have kk : Keeps (fun k => k = b) w _ := (((k1.trans k2).trans kd).trans k3).trans k4
  simp [Leaves, settle, results, Tryz.results107]
  exact ⟨h4, kk⟩

theorem onceDo_c {b : Nat} {c2 : Value} {w : World} (hb : TabC b (.int .u32 0) (.int .i32 0) c2 (tabF 0) w) :
    Calls Tryz.prog 95 #[.pointer (some ⟨b, 0, none⟩), .func (.func 96) #[.pointer (some ⟨b, 0, none⟩)] #[]] w fun e w' => e = .returned (.tuple #[]) ∧ TabC b (.int .u32 1) (.int .i32 0) c2 (tabF 256) w' ∧ Keeps (fun k => k = b) w w' := by
  have hnot : ∀ (x : Bool) (w : World), (Op.unary .not (.bool x)).run Tryz.prog w = .ok (.bool (!x)) w := fun _ _ => rfl
  have hl := run_call_load (P := Tryz.prog) Tryz.func112 (by kernel_rfl) (by kernel_rfl) (by kernel_rfl) .u32 (by kernel_rfl) (w := w) (a := ⟨b, 0, none⟩) (x := 0) hb.g0
  go_enter Tryz.func95, Tryz.ntmps95
  go_wp2_with (first | (go_at_call 107; refine (onceSlow_c hb).mono ?_; rintro e w2 ⟨rfl, h2, k2⟩) | (go_at_call 106; go_in))
  go_wp2
  go_end0
  exact ⟨rfl, h2, k2⟩

end Go.Proofs.YtdoenmokahbeaaaGreatDoor
