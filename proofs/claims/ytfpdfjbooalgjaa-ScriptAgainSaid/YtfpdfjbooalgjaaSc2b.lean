
/- What the laws of commands lean on. -/
import Derived.Test.YtfpdfjbooalgjaaSc1
namespace Go.Proofs.Ytfpdfjbooalgjaa
open Go.RowKit
set_option linter.unusedVariables false
set_option linter.unusedSimpArgs false

def cut66 (c : GCmd) : GCmd := if c.p.fs.length > 66 then ⟨⟨c.p.kind, c.p.op, c.p.id, c.p.work, c.p.n, c.p.fs.take 66⟩, c.A, c.cap⟩ else c
def fewU (l : List GCmd) (i : Int) : List GCmd := (l.take i.toNat).map cut66
def fewL (l : List GCmd) : List GCmd := (l.take 6).map cut66
theorem fewU_zero (l : List GCmd) : fewU l 0 = [] := by simp [fewU]
theorem few_s1 {l : List GCmd} {i : Int} {r : GCmd} (h0 : 0 ≤ i) (hr : l[i.toNat]? = some r) (h : (r.p.fs.length : Int) > 66) : fewU l i ++ [⟨⟨r.p.kind, r.p.op, r.p.id, r.p.work, r.p.n, r.p.fs.take 66⟩, r.A, r.cap⟩] = fewU l (i + 1) := by
  unfold fewU; rw [take_succI h0 hr, List.map_append, List.map_cons, List.map_nil, cut66, if_pos (by omega)]
theorem few_s2 {l : List GCmd} {i : Int} {r : GCmd} (h0 : 0 ≤ i) (hr : l[i.toNat]? = some r) (h : ¬ (r.p.fs.length : Int) > 66) : fewU l i ++ [r] = fewU l (i + 1) := by
  unfold fewU; rw [take_succI h0 hr, List.map_append, List.map_cons, List.map_nil, cut66, if_neg (by omega)]
theorem few_end {l : List GCmd} {i : Int} (h0 : 0 ≤ i) (h6 : i ≤ 6) (h : (l.length : Int) ≤ i ∨ 6 ≤ i) : fewU l i = fewL l := by
  unfold fewU fewL
  by_cases e : i = 6
  · subst e; rfl
  · rw [List.take_of_length_le (by omega), List.take_of_length_le (by omega)]
theorem fewL_len (l : List GCmd) : (fewL l).length ≤ 6 := by simp [fewL]; omega
theorem fewU_len (l : List GCmd) {i : Int} (h6 : i ≤ 6) : (fewU l i).length ≤ 6 := by simp [fewU]; omega
theorem fts_few {n : Nat} {l : List GCmd} {w : World} (h : Fts n l w) : Fts 66 (fewL l) w := fun c hc => by
  obtain ⟨d, hd, rfl⟩ := List.mem_map.1 hc
  obtain ⟨h1, h2, h3⟩ := h d (List.mem_of_mem_take hd)
  unfold cut66
  split
  · rename_i h6
    refine ⟨SlAt.cutT (b := 66) (c := d.cap) h1 (by omega) (by omega), ?_, ?_⟩ <;> simp only [List.length_take] <;> omega
  · exact ⟨h1, h2, by omega⟩
noncomputable def goodU (l : List GCmd) (i : Int) : List GCmd := ((fewL l).take i.toNat).filter fun c => cokB c.p
noncomputable def goodL (l : List GCmd) : List GCmd := (fewL l).filter fun c => cokB c.p
theorem good_s1 {l : List GCmd} {i : Int} {r : GCmd} (h0 : 0 ≤ i) (hr : (fewL l)[i.toNat]? = some r) (h : cokB r.p = true) : goodU l i ++ [r] = goodU l (i + 1) := by
  unfold goodU; rw [take_succI h0 hr, List.filter_append]; simp [h]
theorem good_s2 {l : List GCmd} {i : Int} {r : GCmd} (h0 : 0 ≤ i) (hr : (fewL l)[i.toNat]? = some r) (h : cokB r.p = false) : goodU l i = goodU l (i + 1) := by
  unfold goodU; rw [take_succI h0 hr, List.filter_append]; simp [h]
theorem good_end {l : List GCmd} {i : Int} (h : ((fewL l).length : Int) ≤ i) : goodU l i = goodL l := by
  unfold goodU goodL; rw [List.take_of_length_le (by omega)]
theorem goodU_len (l : List GCmd) (i : Int) : (goodU l i).length ≤ 6 := by
  have h1 := List.length_filter_le (fun c : GCmd => cokB c.p) ((fewL l).take i.toNat)
  have h2 := fewL_len l
  unfold goodU; rw [List.length_take] at h1; omega
theorem goodL_len (l : List GCmd) : (goodL l).length ≤ 6 := by
  have h1 := List.length_filter_le (fun c : GCmd => cokB c.p) (fewL l)
  have h2 := fewL_len l
  unfold goodL; omega
theorem goodL_ok (l : List GCmd) : ∀ c ∈ (goodL l).map GCmd.p, c.ok := fun c hc => by
  obtain ⟨d, hd, rfl⟩ := List.mem_map.1 hc
  exact cok_t (List.mem_filter.1 hd).2
theorem fts_good {n : Nat} {l : List GCmd} {w : World} (h : Fts n l w) : Fts 66 (goodL l) w := fun c hc => fts_few h c (List.mem_filter.1 hc).1
theorem bytesC_len (ps : List PCmd) : (bytesC ps).length ≤ 300 * ps.length := by
  unfold bytesC
  split
  · rename_i h; exact cencs_len h
  · simp
theorem good_bytes (l : List GCmd) : bytesC (List.map GCmd.p (goodL l)) = cencs (List.map GCmd.p (goodL l)) := bytesC_ok (goodL_ok l)
theorem good_len (l : List GCmd) : (cencs (List.map GCmd.p (goodL l))).length ≤ 1800 := by
  have h1 := cencs_len (goodL_ok l)
  have h2 := goodL_len l
  rw [List.length_map] at h1; omega
theorem neq_same {a b : Bool} (h : a = b) : (!(a == b)) = false := by subst h; simp
theorem el_eq {α β : Type} (f : α → β) {xs : List α} {i : Nat} {r q : α} (hr : xs[i]? = some r) (hq : xs[i]? = some q) : f r = f q := congrArg f (Option.some.inj (hr.symm.trans hq))
theorem el_eq2 {α β : Type} (f : α → α → β) {xs : List α} {i j : Nat} {r r' q q' : α} (hr : xs[i]? = some r) (hr' : xs[i]? = some r') (hq : xs[j]? = some q) (hq' : xs[j]? = some q') : f r q = f r' q' := by
  rw [Option.some.inj (hr.symm.trans hr'), Option.some.inj (hq.symm.trans hq')]
theorem again_iff {l r : List UInt8} {ps : List PCmd} (h : Parsed l ps r) : (!(((((l.length - r.length : Nat) : Int) == (l.length : Int)) : Bool) == (readEr r == 0))) = false := by
  refine neq_same ?_
  have h2 := congrArg List.length h.2.1
  rw [List.length_append] at h2
  rw [Bool.eq_iff_iff, beq_iff_eq, beq_iff_eq]
  unfold readEr
  constructor
  · intro e
    have : r = [] := by
      by_cases hr : r = []
      · exact hr
      · have h3 := List.length_pos_iff.2 hr
        omega
    rw [if_pos this]
  · intro e
    by_cases hr : r = []
    · rw [hr]; simp
    · rw [if_neg hr] at e; cases e
theorem again_end {l r : List UInt8} {ps : List PCmd} (h : Parsed l ps r) : bytesC ps = List.take (l.length - r.length) l := by
  rw [bytesC_ok h.1]
  have h2 := congrArg List.length h.2.1
  rw [List.length_append] at h2
  have h3 : l.length - r.length = (cencs ps).length := by omega
  rw [h3]
  conv => rhs; arg 2; rw [h.2.1]
  rw [List.take_left]
theorem aw_bytes (A B : Option Addr) (a b : Nat) : bytesC (List.map GCmd.p [(⟨⟨4, ⟨0, ⟨0, 0, 0, 0, 0⟩, false, 0, 0, 0⟩, 0, 0, 3, []⟩, A, a⟩ : GCmd), ⟨⟨9, ⟨0, ⟨0, 0, 0, 0, 0⟩, false, 0, 0, 0⟩, 0, 0, 0, []⟩, B, b⟩]) = [1, 4, 1, 3, 1, 9] := by
  have h1 : PCmd.ok ⟨4, ⟨0, ⟨0, 0, 0, 0, 0⟩, false, 0, 0, 0⟩, 0, 0, 3, []⟩ := ⟨by simp [PCmd.bare, GOp.zero], by simp [PCmd.rngs], by simp, by simp⟩
  have h2 : PCmd.ok ⟨9, ⟨0, ⟨0, 0, 0, 0, 0⟩, false, 0, 0, 0⟩, 0, 0, 0, []⟩ := ⟨by simp [PCmd.bare, GOp.zero], by simp [PCmd.rngs], by simp, by simp⟩
  rw [bytesC_ok (fun c hc => by simp at hc; rcases hc with rfl | rfl <;> assumption)]
  have b3 : beb 3 = [3] := by rw [beb_pos (by decide), show 3 / 256 = 0 by decide, beb_zero]; rfl
  have b4 : beb 4 = [4] := by rw [beb_pos (by decide), show 4 / 256 = 0 by decide, beb_zero]; rfl
  have b9 : beb 9 = [9] := by rw [beb_pos (by decide), show 9 / 256 = 0 by decide, beb_zero]; rfl
  simp [cencs, PCmd.enc, PCmd.tl, encNum, b3, b4, b9]
theorem aw_six : cokB ⟨6, ⟨0, ⟨0, 0, 0, 0, 0⟩, false, 0, 0, 0⟩, 0, 0, 0, []⟩ = true := cok_eqt ⟨by simp [PCmd.bare, GOp.zero], by simp [PCmd.rngs], by simp, by simp⟩
theorem back_more {X : List UInt8} {c : UInt8} : X ++ [1, 0] ++ [c] = X ++ [1, 0, c] := by simp
theorem readEr_nil : readEr [] = 0 := rfl
theorem readEr_cons (a : UInt8) (r : List UInt8) : readEr (a :: r) = 10 := if_neg (by simp)

theorem back_at {X r : List UInt8} (h : r = []) : ((X.length - r.length : Nat) : Int) = (X.length : Int) := by subst h; simp
theorem back_at2 {X r : List UInt8} {c : UInt8} (h : r = [1, 0, c]) : (((X ++ [1, 0] ++ [c]).length - r.length : Nat) : Int) = (X.length : Int) := by subst h; simp
theorem back_at3 {X Y r : List UInt8} {c : UInt8} (hY : X ++ [1, 0] ++ [c] = Y) (h : r = [1, 0, c]) : ((Y.length - r.length : Nat) : Int) = (X.length : Int) := by subst hY; exact back_at2 h
theorem er0 {r : List UInt8} (h : r = []) : readEr r = 0 := by subst h; rfl
theorem er10 {r : List UInt8} {c : UInt8} (h : r = [1, 0, c]) : readEr r = 10 := by subst h; exact readEr_cons _ _

end Go.Proofs.Ytfpdfjbooalgjaa
