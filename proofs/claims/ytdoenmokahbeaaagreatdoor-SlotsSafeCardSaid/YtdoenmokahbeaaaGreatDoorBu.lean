
/- strings.Builder's methods at a builder in a block of type T. -/
import Derived.Test.YtdoenmokahbeaaaGreatDoorProg
import Derived.Test.YtdoenmokahbeaaaGreatDoorMem
import Derived.Lib.Builder
import Derived.Lib.AppendStr
import Derived.Lib.UnsafeStr
import Derived.Lib.MakeNoZero
import Derived.Lib.Walk
import Derived.Lib.Slices
import Derived.Laws.Externs
import Derived.Laws.IdiomCopy
import Derived.Laws.BitsLemmas
import Derived.KernelRfl
import Derived.WalkSpells
import Derived.BigCall
namespace Go.Proofs.YtdoenmokahbeaaaGreatDoor
open Go.RowKit
set_option linter.unusedVariables false

/-- What a block's type is asked for, that it may be a builder's. -/
structure BuT (T : Nat) : Prop where
  lies : liesAt Tryz.prog Tryz.prog.depth T (2 / Tryz.prog.cellsOf T) 0 138 1 = true
  ne : T ≠ 5

theorem sizeBuilder : (Tryz.prog.info? 138).map (·.size) = some 2 := by kernel_rfl
theorem infoByte : (Tryz.prog.info? 5).map (fun i => (i.zero, i.size, i.bytes)) = some (some (.int .u8 0), 1, 1) := by kernel_rfl
theorem cellsByte : Tryz.prog.cellsOf 5 = 1 := by kernel_rfl
theorem buT_Builder : BuT 138 := ⟨by kernel_rfl, by decide⟩

set_option maxHeartbeats 1000000 in
set_option maxRecDepth 100000 in
theorem sbCopyCheck_used (b : Nat) (w : World) (h0 : w.cell? ⟨b, 0, none⟩ = some (.pointer (some ⟨b, 0, none⟩))) :
    Calls Tryz.prog 94 #[.pointer (some ⟨b, 0, none⟩)] w fun e w' => e = .returned (.tuple #[]) ∧ w' = w := by
  obtain ⟨j, hj, _⟩ := Option.map_eq_some_iff.1 sizeBuilder
  go_enter Tryz.func94, Tryz.ntmps94
  go_wp2
  rw [Lib.run_neq_ptr_same w _ Tryz.underlying136 hj]
  go_wp2
  go_end0
  exact ⟨rfl, rfl⟩

set_option maxHeartbeats 1000000 in
set_option maxRecDepth 100000 in
theorem sbCopyCheck_fresh (T b : Nat) (hT : BuT T) (w : World) (h0 : w.cell? ⟨b, 0, none⟩ = some (.pointer none)) (hsh : w.shape? b = some (T, 2)) (hfz : w.frozen? ⟨b, 0, none⟩ = false) :
    Calls Tryz.prog 94 #[.pointer (some ⟨b, 0, none⟩)] w fun e w' => e = .returned (.tuple #[]) ∧ w' = w.setCell ⟨b, 0, none⟩ (.pointer (some ⟨b, 0, none⟩)) := by
  obtain ⟨j, hj, hjs⟩ := Option.map_eq_some_iff.1 sizeBuilder
  go_enter Tryz.func94, Tryz.ntmps94
  go_wp2
  rw [Lib.run_to_unsafe w ⟨b, 0, none⟩ Tryz.underlying136 Tryz.underlying179 hj (by rw [hjs]; decide) hsh (Nat.zero_lt_succ 1)]
  simp only [Result.andThen]
  rw [Oper.upon_value]
  go_wp2
  rw [run_callFunc_extern Tryz.func105 (by kernel_rfl) (by kernel_rfl) (by kernel_rfl) (e := Extern.AbiNoEscape.same) (by kernel_rfl)]
  rw [Lib.run_noEscape]
  simp only [Result.andThen]
  rw [Oper.upon_value]
  go_wp2
  rw [Lib.run_from_unsafe w ⟨b, 0, none⟩ Tryz.underlying179 Tryz.underlying136 hj hsh hT.lies]
  simp only [Result.andThen]
  rw [Oper.upon_value]
  go_wp2
  go_end0
  exact ⟨rfl, rfl⟩


theorem BuAt.shape {T B b : Nat} {bs : List UInt8} {w : World} (h : BuAt T B b bs w) : w.shape? b = some (T, 2) := by
  obtain ⟨p, v, _, hb, _⟩ := h
  simp [World.shape?, hb]

/-- A builder that has been used. -/
def BuUs (T B b : Nat) (v : Value) (bs : List UInt8) (w : World) : Prop :=
  w.heap[b]? = some (.cells #[.pointer (some ⟨b, 0, none⟩), v] T (0, 0)) ∧ w.ownsRowF B 5 1 v bs.length (Lib.byteCells bs) ∧ v.ownBlock ≠ some b

theorem sbCopyCheck_any (T B b : Nat) (hT : BuT T) (bs : List UInt8) (w : World) (h : BuAt T B b bs w) :
    Calls Tryz.prog 94 #[.pointer (some ⟨b, 0, none⟩)] w fun e w' => e = .returned (.tuple #[]) ∧ ∃ v, BuUs T B b v bs w' ∧ Keeps (Bu B b) w w' := by
  have hsh := h.shape
  obtain ⟨p, v, hp, hb, hown, hne⟩ := h
  rcases hp with rfl | rfl
  · refine (sbCopyCheck_fresh T b hT w (cell_at hb 0 rfl) hsh (free_at hb 0)).mono ?_
    rintro e w' ⟨rfl, rfl⟩
    refine ⟨rfl, v, ⟨by rw [heap_set_same hb]; rfl, ?_, hne⟩, (Keeps.refl _ w).setCell _ _ (fun _ => .inl rfl)⟩
    exact hown.kept (row := some b) ⟨rfl, rfl, rfl, by simp [World.setCell], fun k _ hk => Below.heap_setCell _ _ _ _ (fun e => hk (by simp [e]))⟩ (Or.inr hne)
  · refine (sbCopyCheck_used b w (cell_at hb 0 rfl)).mono ?_
    rintro e w' ⟨rfl, rfl⟩
    exact ⟨rfl, v, ⟨hb, hown, hne⟩, Keeps.refl _ _⟩

theorem BuUs.put {T B b : Nat} {v v' : Value} {bs' : List UInt8} {w : World} (hT : BuT T) (hb : w.heap[b]? = some (.cells #[.pointer (some ⟨b, 0, none⟩), v] T (0, 0)))
    (hown : w.ownsRowF B 5 1 v' bs'.length (Lib.byteCells bs')) : BuAt T B b bs' (w.setCell ⟨b, 1, none⟩ v') := by
  have hne := Lib.ownBlock_neF hown hb hT.ne
  refine ⟨_, v', .inr rfl, by rw [heap_set_same hb]; rfl, ?_, hne⟩
  exact hown.kept (row := some b) ⟨rfl, rfl, rfl, by simp [World.setCell], fun k _ hk => Below.heap_setCell _ _ _ _ (fun e => hk (by simp [e]))⟩ (Or.inr hne)

set_option maxHeartbeats 2000000 in
set_option maxRecDepth 100000 in
theorem sbWriteByte_any (T B b : Nat) (hT : BuT T) (bs : List UInt8) (c : UInt8) (x : Int) (hx : x = c.toNat) (w : World) (h : BuAt T B b bs w) (hlen : bs.length ≤ 1000000000) (hBw : B ≤ w.heap.size) :
    Calls Tryz.prog 78 #[.pointer (some ⟨b, 0, none⟩), .int .u8 x] w fun e w' => e = .returned .nilIface ∧ BuAt T B b (bs ++ [c]) w' ∧ Keeps (Bu B b) w w' := by
  subst hx
  obtain ⟨i0, hi, hz0, hz1, hz2⟩ := info_parts infoByte
  go_enter Tryz.func78, Tryz.ntmps78
  go_wp2_with (go_at_call 94; refine (sbCopyCheck_any T B b hT bs _ h).mono ?_)
  rintro e w1 ⟨rfl, v, ⟨hbk, hown, hne⟩, hk⟩
  have c0 := cell_at hbk 0 rfl
  have c1 := cell_at hbk 1 rfl
  have hsz := hk.size
  go_wp2_with (at_builtin; refine wpList_append_ownF _ rfl _ _ 87 rfl B 5 i0 (.int .u8 0) 1 1 Tryz.underlying87 hi hz0 hz1 hz2 rfl (by decide) _ _ _ rfl (hown.alloc _) ⟨w1.heap.size, 0, none⟩ 1 1 [.int .u8 c.toNat] rfl rfl ?c1 ?c2 ?c3 ?c4 ?c5 ?_)
  case c1 =>
    intro j u hj
    match j, hj with
    | 0, hj => simp at hj; subst hj; simp [Addr.add]
  case c2 => intro u hu; simp at hu; subst hu; rfl
  case c3 => unfold maxLen; omega
  case c4 => omega
  case c5 => simp; omega
  intro v' w2 hown' hgrow _
  have hlt := lt_of_heap hbk
  have hb2 : w2.heap[b]? = some (.cells #[.pointer (some ⟨b, 0, none⟩), v] T (0, 0)) := by
    rw [hgrow.block b (by simp; omega) (fun e => hne e.symm), Lib.alloc_old w1 _ b hlt]
    exact hbk
  have d1 := cell_at hb2 1 rfl
  have f1 := free_at hb2 1
  obtain ⟨g, cap, rfl⟩ : ∃ g cap, v' = .slice (some ⟨g, 0, none⟩) (bs.length + 1) cap := by
    rcases hown'.2 with ⟨_, h0⟩ | ⟨g, cap, cur, fz, hv, _⟩
    · omega
    · exact ⟨g, cap, hv⟩
  go_wp2
  go_ret
  refine ⟨rfl, ?_, ?_⟩
  · exact BuUs.put hT hb2 (bs' := bs ++ [c]) (by simpa [Lib.byteCells] using hown')
  · exact ((hk.alloc _).grown hgrow (fun k hk' _ => .inr (hown.lt k hk').1)).setCell _ _ (fun _ => .inl rfl)

set_option maxHeartbeats 2000000 in
set_option maxRecDepth 100000 in
theorem sbWriteString_any (T B b : Nat) (hT : BuT T) (bs : List UInt8) (s : ByteArray) (w : World) (h : BuAt T B b bs w) (hlen : bs.length ≤ 1000000000) (hs : s.size ≤ 1000000000) (hBw : B ≤ w.heap.size) :
    Calls Tryz.prog 84 #[.pointer (some ⟨b, 0, none⟩), .string s] w fun e w' => e = .returned (.tuple #[.int .i64 s.size, .nilIface]) ∧ BuAt T B b (bs ++ s.data.toList) w' ∧ Keeps (Bu B b) w w' := by
  obtain ⟨i0, hi, hz0, hz1, hz2⟩ := info_parts infoByte
  go_enter Tryz.func84, Tryz.ntmps84
  go_wp2_with (go_at_call 94; refine (sbCopyCheck_any T B b hT bs _ h).mono ?_)
  rintro e w1 ⟨rfl, v, ⟨hbk, hown, hne⟩, hk⟩
  have c0 := cell_at hbk 0 rfl
  have c1 := cell_at hbk 1 rfl
  have hsz := hk.size
  go_wp2_with (at_builtin; refine Lib.wpList_append_own_stringF _ rfl _ _ 87 9 rfl B 5 i0 Tryz.underlying87 Tryz.underlying9 hi hz0 hz1 hz2 _ _ _ rfl hown s rfl ?c3 ?c4 ?c5 ?_)
  case c3 => unfold maxLen; omega
  case c4 => omega
  case c5 => omega
  intro v' w2 hown' hgrow _
  have hb2 : w2.heap[b]? = some (.cells #[.pointer (some ⟨b, 0, none⟩), v] T (0, 0)) := by
    rw [hgrow.block b (lt_of_heap hbk) (fun e => hne e.symm)]
    exact hbk
  have d1 := cell_at hb2 1 rfl
  have f1 := free_at hb2 1
  obtain ⟨ao, n', cap, rfl⟩ : ∃ ao n' cap, v' = .slice ao n' cap := by
    rcases hown'.2 with ⟨hv, _⟩ | ⟨g, cap, cur, fz, hv, _⟩
    · exact ⟨_, _, _, hv⟩
    · exact ⟨_, _, _, hv⟩
  go_wp2
  go_ret2
  refine ⟨rfl, ?_, ?_⟩
  · refine BuUs.put hT hb2 (bs' := bs ++ s.data.toList) ?_
    have e1 : (bs ++ s.data.toList).length = bs.length + s.size := by rw [List.length_append]; rfl
    rw [e1]
    simpa [Lib.byteCells, Lib.strCells_eq] using hown'
  · exact (hk.grown hgrow (fun k hk' _ => .inr (hown.lt k hk').1)).setCell _ _ (fun _ => .inl rfl)


theorem unsafeString_none (W : World) (q : Option Addr) : (Builtin.unsafeString_ #[169, 3] 9 #[.pointer q, .int .i64 0]).run Tryz.prog W = .ok (.string .empty) W :=
  Lib.run_unsafeString_none W _ _ _ q

set_option maxHeartbeats 2000000 in
set_option maxRecDepth 100000 in
theorem sbString_nil (T b : Nat) (p : Value) (w : World) (hbk : w.heap[b]? = some (.cells #[p, .slice none 0 0] T (0, 0))) :
    Calls Tryz.prog 79 #[.pointer (some ⟨b, 0, none⟩)] w fun e w' => e = .returned (.string ⟨#[]⟩) ∧ w' = w.drew := by
  have hUS := unsafeString_none
  have c1 := cell_at (w := w.drew) hbk 1 rfl
  have hSD : (Builtin.unsafeSliceData_ #[87] 169 #[.slice none 0 0]).run Tryz.prog w.drew = .ok (.pointer none) w.drew := rfl
  go_enter Tryz.func79, Tryz.ntmps79
  go_wp2
  go_region
  all_goals (go_wp2; go_ret; exact ⟨rfl, rfl⟩)

set_option maxHeartbeats 2000000 in
set_option maxRecDepth 100000 in
theorem sbString_noroom (T b g : Nat) (p : Value) (cur : Array Value) (fz : Nat × Nat) (w : World) (hbk : w.heap[b]? = some (.cells #[p, .slice (some ⟨g, 0, none⟩) 0 0] T (0, 0))) (hg : w.heap[g]? = some (.cells cur 5 fz)) :
    Calls Tryz.prog 79 #[.pointer (some ⟨b, 0, none⟩)] w fun e w' => e = .returned (.string ⟨#[]⟩) ∧ Adds w w' := by
  have hUS := unsafeString_none
  have c1 := cell_at (w := w.drew) hbk 1 rfl
  have hSD : (Builtin.unsafeSliceData_ #[87] 169 #[.slice (some ⟨g, 0, none⟩) 0 0]).run Tryz.prog w.drew = .ok (.pointer (some ⟨w.drew.heap.size, 0, none⟩)) (w.drew.alloc (.view ⟨g, 0, none⟩ 5)) :=
    Lib.run_unsafeSliceData_zero w.drew _ _ 5 Tryz.underlying169 ⟨g, 0, none⟩ 0 (5, cur.size) (by have hg' : w.drew.heap[g]? = some (.cells cur 5 fz) := hg; simp [World.shape?, hg'])
  have c2 : (w.drew.alloc (.view ⟨g, 0, none⟩ 5)).cell? ⟨b, 1, none⟩ = some (.slice (some ⟨g, 0, none⟩) 0 0) := by
    have : (w.drew.alloc (.view ⟨g, 0, none⟩ 5)).heap[b]? = _ := (Lib.alloc_old w.drew _ b (lt_of_heap hbk)).trans hbk
    rw [Lib.cell_of_heap this]; rfl
  have c3 : (w.alloc (.view ⟨g, 0, none⟩ 5)).drew.cell? ⟨b, 1, none⟩ = some (.slice (some ⟨g, 0, none⟩) 0 0) := c2
  have c0 : w.cell? ⟨b, 1, none⟩ = some (.slice (some ⟨g, 0, none⟩) 0 0) := c1
  go_enter Tryz.func79, Tryz.ntmps79
  go_wp2
  go_region
  all_goals (go_wp2; go_ret; exact ⟨rfl, (Keeps.drew (Keeps.refl _ w)).alloc _⟩)

set_option maxHeartbeats 2000000 in
set_option maxRecDepth 100000 in
theorem sbString_room (T b g cap : Nat) (p : Value) (w : World) (hc0 : cap ≠ 0) (hbk : w.heap[b]? = some (.cells #[p, .slice (some ⟨g, 0, none⟩) 0 cap] T (0, 0))) :
    Calls Tryz.prog 79 #[.pointer (some ⟨b, 0, none⟩)] w fun e w' => e = .returned (.string ⟨#[]⟩) ∧ w' = w.drew := by
  have hUS := unsafeString_none
  have c1 := cell_at (w := w.drew) hbk 1 rfl
  have hSD : (Builtin.unsafeSliceData_ #[87] 169 #[.slice (some ⟨g, 0, none⟩) 0 cap]).run Tryz.prog w.drew = .ok (.pointer (some ⟨g, 0, none⟩)) w.drew :=
    Lib.run_unsafeSliceData_row _ _ _ _ _ _ hc0
  clear hc0
  go_enter Tryz.func79, Tryz.ntmps79
  go_wp2
  go_region
  all_goals (go_wp2; go_ret; exact ⟨rfl, rfl⟩)

set_option maxHeartbeats 2000000 in
set_option maxRecDepth 100000 in
theorem sbString_some (T b g cap : Nat) (p : Value) (l : List UInt8) (cur : Array Value) (fz : Nat × Nat) (w : World) (hl0 : l ≠ []) (hl : l.length ≤ 1000000000) (hbk : w.heap[b]? = some (.cells #[p, .slice (some ⟨g, 0, none⟩) l.length cap] T (0, 0)))
    (hg : w.heap[g]? = some (.cells cur 5 fz)) (hcap : l.length ≤ cap) (hcur : cur.size = cap) (hcells : ∀ j u, (Lib.byteCells l)[j]? = some u → w.cell? ((⟨g, 0, none⟩ : Addr).add j) = some u) :
    Calls Tryz.prog 79 #[.pointer (some ⟨b, 0, none⟩)] w fun e w' => e = .returned (.string ⟨l.toArray⟩) ∧ w' = w.drew.freeze ⟨g, 0, none⟩ l.length := by
  have hl1 : l.length ≠ 0 := by simpa using hl0
  have c1 := cell_at (w := w.drew) hbk 1 rfl
  have hSD : (Builtin.unsafeSliceData_ #[87] 169 #[.slice (some ⟨g, 0, none⟩) l.length cap]).run Tryz.prog w.drew = .ok (.pointer (some ⟨g, 0, none⟩)) w.drew :=
    Lib.run_unsafeSliceData_row _ _ _ _ _ _ (by omega)
  have hUS : (Builtin.unsafeString_ #[169, 3] 9 #[.pointer (some ⟨g, 0, none⟩), .int .i64 l.length]).run Tryz.prog w.drew = .ok (.string ⟨l.toArray⟩) (w.drew.freeze ⟨g, 0, none⟩ l.length) := by
    refine Lib.run_unsafeString_row w.drew 169 3 9 5 Tryz.underlying169 cellsByte g cur.size (by have hg' : w.drew.heap[g]? = some (.cells cur 5 fz) := hg; simp [World.shape?, hg']) l hl0 (by omega) (by omega) ?_
    intro j x hx
    have := hcells j (.int .u8 x.toNat) (by simp [Lib.byteCells, hx])
    exact this
  clear hcells hg hbk hl0 hl hcur hcap hl1
  go_enter Tryz.func79, Tryz.ntmps79
  go_wp2
  go_region
  all_goals (go_wp2; go_ret; exact ⟨rfl, rfl⟩)

/-- (*strings.Builder).String. -/
theorem sbString_any (T B b : Nat) (bs : List UInt8) (w : World) (h : BuAt T B b bs w) (hlen : bs.length ≤ 1000000000) :
    Calls Tryz.prog 79 #[.pointer (some ⟨b, 0, none⟩)] w fun e w' => e = .returned (.string ⟨bs.toArray⟩) ∧ BuAt T B b bs w' ∧ Keeps (Bu B b) w w' := by
  have h0 := h
  obtain ⟨p, v, hp, hb, hown, hne⟩ := h
  rcases hown.2 with ⟨rfl, h1⟩ | ⟨g, cap, cur, fz, rfl, hbg, hg, hfz, hnc, hcm, hcs, htake⟩
  · obtain rfl : bs = [] := List.eq_nil_of_length_eq_zero h1
    refine (sbString_nil T b p w hb).mono ?_
    rintro e w' ⟨rfl, rfl⟩
    exact ⟨rfl, h0.drew, (Keeps.refl _ w).drew⟩
  · by_cases h1 : bs = []
    · subst h1
      by_cases h2 : cap = 0
      · subst h2
        refine (sbString_noroom T b g p cur fz w hb hg).mono ?_
        rintro e w' ⟨rfl, hk⟩
        exact ⟨rfl, h0.adds hk, hk.any _⟩
      · refine (sbString_room T b g cap p w h2 hb).mono ?_
        rintro e w' ⟨rfl, rfl⟩
        exact ⟨rfl, h0.drew, (Keeps.refl _ w).drew⟩
    · have hgb : g ≠ b := fun e => hne (by simp [Value.ownBlock, e])
      refine (sbString_some T b g cap p bs cur fz w h1 hlen hb hg hnc (by omega) (hown.cells rfl)).mono ?_
      rintro e w' ⟨rfl, rfl⟩
      refine ⟨rfl, ?_, ((Keeps.refl _ w).drew).freeze _ _ (fun _ => .inr hbg)⟩
      have hbs : bs.length ≠ 0 := by simpa using h1
      unfold World.freeze
      rw [if_neg hbs]
      refine ⟨p, _, hp, ?_, ⟨hown.1, .inr ⟨g, cap, cur, (if fz.1 == fz.2 then (0, 0 + bs.length) else (min fz.1 0, max fz.2 (0 + bs.length))), rfl, hbg, ?_, ?_, hnc, hcm, hcs, htake⟩⟩, hne⟩
      · simp only [Array.getElem?_modify]
        rw [if_neg hgb]
        exact hb
      · have hg' : w.drew.heap[g]? = some (.cells cur 5 fz) := hg
        simp [Array.getElem?_modify, hg']
      · split <;> simp <;> omega

end Go.Proofs.YtdoenmokahbeaaaGreatDoor
