
/- Records behind faults and crashes, plainly. -/
import Derived.Test.YtdoenmokahbeaaaGreatDoorWl6
import Derived.Test.YtdoenmokahbeaaaGreatDoorCk1
namespace Go.Proofs.YtdoenmokahbeaaaGreatDoor
open Go.RowKit
set_option linter.unusedVariables false
set_option linter.unusedSimpArgs false

/-- a log's sectors: the records, and behind them none that could be one -/
structure LayE (n e : Nat) (sc xs : List (List UInt8)) : Prop where
  len : sc.length = n
  all : ∀ s ∈ sc, s.length = 64
  cnt : xs.length ≤ n
  put_ : ∀ i x, xs[i]? = some x → sc[i]? = some (makeS x e i) ∧ x.length ≤ 43
  off : ∀ j s, xs.length ≤ j → sc[j]? = some s → ¬ (epS s = e ∧ nuS s = j)
theorem zero_ep : epS (List.replicate 64 (0 : UInt8)) = 0 := by decide
theorem LayE.zero {n e : Nat} (he : ¬ e = 0) : LayE n e (List.replicate n (List.replicate 64 0)) [] :=
  ⟨by simp, fun s hs => by rw [List.eq_of_mem_replicate hs]; simp, by simp, fun i x hx => by simp at hx, fun j s _ hs h => by
    rw [List.eq_of_mem_replicate (List.mem_of_getElem? hs), zero_ep] at h
    exact he h.1.symm⟩
section
variable {n e : Nat} {sc xs : List (List UInt8)} {x : List UInt8}
theorem LayE.put (h : LayE n e sc xs) (hx : x.length ≤ 43) (hl : xs.length < n) : LayE n e (sc.set xs.length (makeS x e xs.length)) (xs ++ [x]) := by
  refine ⟨by simp [h.len], fun s hs => ?_, by simp; omega, fun i y hy => ?_, fun j s hj hs => ?_⟩
  · rcases List.mem_or_eq_of_mem_set hs with hs | rfl
    · exact h.all s hs
    · exact makeS_len hx e _
  · by_cases hi : i < xs.length
    · rw [List.getElem?_append_left hi] at hy
      obtain ⟨h1, h2⟩ := h.put_ i y hy
      exact ⟨by rw [List.getElem?_set, if_neg (by omega)]; exact h1, h2⟩
    · rw [List.getElem?_append_right (by omega)] at hy
      have hi2 : i = xs.length := by
        have := (List.getElem?_eq_some_iff.1 hy).1
        simp at this; omega
      subst hi2
      simp at hy; subst hy
      exact ⟨by rw [List.getElem?_set, if_pos rfl, if_pos (by rw [h.len]; exact hl)], hx⟩
  · simp only [List.length_append, List.length_singleton] at hj
    rw [List.getElem?_set, if_neg (by omega)] at hs
    exact h.off j s (by omega) hs
/-- an open write of the next record, torn -/
theorem LayE.mix (h : LayE n e sc xs) (hx : x.length ≤ 43) (hl : xs.length < n) (hn : n ≤ 1024) (he : e < 18446744073709551616) {k : Int} (k0 : 0 ≤ k) (k1 : k ≤ 64) :
    LayE n e (sc.set xs.length (mixS k (makeS x e xs.length) (sc.getD xs.length []))) (xs ++ [x]) ∨ LayE n e (sc.set xs.length (mixS k (makeS x e xs.length) (sc.getD xs.length []))) xs := by
  have hlt : xs.length < sc.length := by rw [h.len]; exact hl
  have hg : sc[xs.length]? = some (sc.getD xs.length []) := by rw [List.getD_eq_getElem?_getD, List.getElem?_eq_getElem hlt]; rfl
  have ho : (sc.getD xs.length []).length = 64 := h.all _ (List.mem_of_getElem? hg)
  have hne := h.off _ _ (Nat.le_refl _) hg
  by_cases ht : epS (mixS k (makeS x e xs.length) (sc.getD xs.length [])) = e ∧ nuS (mixS k (makeS x e xs.length) (sc.getD xs.length [])) = xs.length
  · refine .inl ?_
    have : mixS k (makeS x e xs.length) (sc.getD xs.length []) = makeS x e xs.length := torn_tag hx ho (by omega) he (by omega) hne ht.1 ht.2
    rw [this]; exact h.put hx hl
  · refine .inr ⟨by simp [h.len], fun s hs => ?_, h.cnt, fun i y hy => ?_, fun j s hj hs => ?_⟩
    · rcases List.mem_or_eq_of_mem_set hs with hs | rfl
      · exact h.all s hs
      · exact mixS_len (makeS_len hx e _) ho
    · have hi := (List.getElem?_eq_some_iff.1 hy).1
      obtain ⟨h1, h2⟩ := h.put_ i y hy
      exact ⟨by rw [List.getElem?_set, if_neg (by omega)]; exact h1, h2⟩
    · rw [List.getElem?_set] at hs
      by_cases hj2 : xs.length = j
      · subst hj2
        rw [if_pos rfl, if_pos hlt] at hs
        cases hs; exact ht
      · rw [if_neg hj2] at hs
        exact h.off j s hj hs
theorem LayE.scan (h : LayE n e sc xs) (hn : n ≤ 1024) (he : e < 18446744073709551616) (rd : Int) : ∃ r, scanGo 0 e (n : Int).toNat (⟨sc, [], 0, rd⟩ : GDisk) [] = (xs, 0, ⟨sc, [], 0, r⟩) := by
  have hc := h.cnt
  refine scan_good0 (at_ := 0) (e := e) (n := (n : Int)) (xs := xs) (by decide) he (by omega) (by omega) (by omega) ⟨rfl, rfl⟩ (by show (0 : Int) + (n : Int) ≤ (sc.length : Int); rw [h.len]; omega) (fun i x hx => ?_) ?_
  · show sc[(0 : Int).toNat + i]? = _ ∧ _
    rw [show (0 : Int).toNat + i = i by simp]; exact h.put_ i x hx
  · by_cases hx : xs.length = n
    · exact .inl (by omega)
    · refine .inr fun hr => ?_
      have hr : recS (sc.getD ((0 : Int).toNat + xs.length) []) e xs.length := hr
      rw [show (0 : Int).toNat + xs.length = xs.length by simp] at hr
      have hlt : xs.length < sc.length := by rw [h.len]; omega
      have hg : sc[xs.length]? = some (sc.getD xs.length []) := by rw [List.getD_eq_getElem?_getD, List.getElem?_eq_getElem hlt]; rfl
      obtain ⟨h1, h2, h3⟩ := hr
      rw [rdE, if_pos h1] at h2
      rw [rdN, if_pos h1] at h3
      exact h.off _ _ (Nat.le_refl _) hg ⟨h2, h3⟩
end
/-! an Append, whatever fails -/
section
variable {S : Nat → Prop} {b dk : Nat} {sc : List (List UInt8)} {rd n f : Int} {e : Nat} {r : Int} {w : World} {l : List UInt8}
abbrev LgK (b dk : Nat) (n : Int) (stv : Value) (w : World) : Prop := w.heap[b]? = some (.cells #[.pointer (some ⟨dk, 0, none⟩), .int .i64 0, .int .i64 n, stv] 76 (0, 0))
abbrev opnV (e : Nat) (r : Int) : Value := .iface 78 (.agg #[.int .u64 (e : Int), .int .i64 r])
abbrev shutV : Value := .iface 72 (.agg #[])
theorem wrs_f1 {a : Int} {x : List UInt8} (ha : GDisk.has ⟨sc, [], 1, rd⟩ a) (hx : x.length = 64) : GDisk.wrsE ⟨sc, [], 1, rd⟩ a x = 18 ∧ GDisk.wrsD ⟨sc, [], 1, rd⟩ a x = ⟨sc, [], 0, rd⟩ := by
  obtain ⟨e1, e2⟩ := GDisk.write_io (d := ⟨sc, [], 1, rd⟩) ⟨ha, hx⟩ rfl
  obtain ⟨e3, e4⟩ := GDisk.wrs_no (d := ⟨sc, [], 1, rd⟩) (a := a) (x := x) (by rw [e1]; decide)
  exact ⟨e3.trans e1, e4.trans e2⟩
theorem wrs_f2 {a : Int} {x : List UInt8} (ha : GDisk.has ⟨sc, [], 2, rd⟩ a) (hx : x.length = 64) : GDisk.wrsE ⟨sc, [], 2, rd⟩ a x = 18 ∧ GDisk.wrsD ⟨sc, [], 2, rd⟩ a x = ⟨sc, [(a, x)], 0, rd⟩ := by
  obtain ⟨e1, e2⟩ := GDisk.write_ok (d := ⟨sc, [], 2, rd⟩) ⟨ha, hx⟩ (show ¬ (2 : Int) = 1 by decide)
  obtain ⟨e3, e4⟩ := GDisk.wrs_ok e1
  rw [e2] at e3 e4
  obtain ⟨e5, e6⟩ := GDisk.flush_io (d := ⟨sc, [] ++ [(a, x)], tickF 2, rd⟩) rfl
  exact ⟨e3.trans e5, e4.trans e6⟩
theorem wrs_f0 {a : Int} {x : List UInt8} (h1 : ¬ f = 1) (h2 : ¬ f = 2) (ha : GDisk.has ⟨sc, [], f, rd⟩ a) (hx : x.length = 64) : GDisk.wrsE ⟨sc, [], f, rd⟩ a x = 0 ∧ GDisk.wrsD ⟨sc, [], f, rd⟩ a x = ⟨sc.set a.toNat x, [], tickF (tickF f), rd⟩ := by
  obtain ⟨e1, e2⟩ := GDisk.write_ok (d := ⟨sc, [], f, rd⟩) ⟨ha, hx⟩ h1
  obtain ⟨e3, e4⟩ := GDisk.wrs_ok e1
  rw [e2] at e3 e4
  obtain ⟨e5, e6⟩ := GDisk.flush_ok (d := ⟨sc, [] ++ [(a, x)], tickF f, rd⟩) (by show ¬ tickF f = 1; unfold tickF; split <;> omega)
  exact ⟨e3.trans e5, e4.trans e6⟩
def ApTo (S : Nat → Prop) (b dk : Nat) (n : Int) (l : List UInt8) (E : Int) (stv : Value) (d : GDisk) (w : World) : Prop :=
  Calls Tryz.prog 11 #[.pointer (some ⟨b, 0, none⟩), .string ⟨l.toArray⟩] w fun e_ w' => ∃ S', e_ = .returned (.int .i64 E) ∧ LgK b dk n stv w' ∧ DiskAt S' dk d w' ∧ (∀ k, S' k → S k ∨ w.heap.size ≤ k) ∧ ¬ S' b ∧ Keeps (fun k => k = b ∨ S k) w w'
theorem wlApp_f1 (hb : LgK b dk n (opnV e r) w) (hd : DiskAt S dk ⟨sc, [], 1, rd⟩ w) (hnb : ¬ S b) (hl : l.length ≤ 43) (r0 : 0 ≤ r) (r1 : r ≤ 1024) (he : e < 18446744073709551616) (hr : r < n) (hn : n = sc.length) : ApTo S b dk n l 18 shutV ⟨sc, [], 0, rd⟩ w := by
  obtain ⟨h1, h2⟩ := wrs_f1 (sc := sc) (rd := rd) (a := 0 + r) (x := makeS l e r.toNat) ⟨by omega, by show 0 + r < (sc.length : Int); omega⟩ (makeS_len hl e r.toNat)
  refine (wlAppend_no hb hd hnb hl (by decide) (by decide) r0 r1 he (by simp) hr (by rw [h1]; decide)).mono ?_
  rintro e_ w' ⟨g1, g2, S', g3, g4, g5, g6⟩
  rw [h2] at g3
  rw [h1] at g1
  exact ⟨S', g1, g2, g3, g4, g5, g6⟩
theorem wlApp_f2 (hb : LgK b dk n (opnV e r) w) (hd : DiskAt S dk ⟨sc, [], 2, rd⟩ w) (hnb : ¬ S b) (hl : l.length ≤ 43) (r0 : 0 ≤ r) (r1 : r ≤ 1024) (he : e < 18446744073709551616) (hr : r < n) (hn : n = sc.length) : ApTo S b dk n l 18 shutV ⟨sc, [(0 + r, makeS l e r.toNat)], 0, rd⟩ w := by
  obtain ⟨h1, h2⟩ := wrs_f2 (sc := sc) (rd := rd) (a := 0 + r) (x := makeS l e r.toNat) ⟨by omega, by show 0 + r < (sc.length : Int); omega⟩ (makeS_len hl e r.toNat)
  refine (wlAppend_no hb hd hnb hl (by decide) (by decide) r0 r1 he (by simp) hr (by rw [h1]; decide)).mono ?_
  rintro e_ w' ⟨g1, g2, S', g3, g4, g5, g6⟩
  rw [h2] at g3
  rw [h1] at g1
  exact ⟨S', g1, g2, g3, g4, g5, g6⟩
theorem wlApp_f0 (f1 : ¬ f = 1) (f2 : ¬ f = 2) (hb : LgK b dk n (opnV e r) w) (hd : DiskAt S dk ⟨sc, [], f, rd⟩ w) (hnb : ¬ S b) (hl : l.length ≤ 43) (r0 : 0 ≤ r) (r1 : r ≤ 1024) (he : e < 18446744073709551616) (hr : r < n) (hn : n = sc.length) : ApTo S b dk n l 0 (opnV e (r + 1)) ⟨sc.set r.toNat (makeS l e r.toNat), [], tickF (tickF f), rd⟩ w := by
  obtain ⟨h1, h2⟩ := wrs_f0 (sc := sc) (rd := rd) (a := 0 + r) (x := makeS l e r.toNat) f1 f2 ⟨by omega, by show 0 + r < (sc.length : Int); omega⟩ (makeS_len hl e r.toNat)
  refine (wlAppend_ok hb hd hnb hl (by decide) (by decide) r0 r1 he (by simp) hr h1).mono ?_
  rintro e_ w' ⟨g1, g2, S', g3, g4, g5, g6⟩
  rw [h2, Int.zero_add] at g3
  exact ⟨S', g1, g2, g3, g4, g5, g6⟩
end
theorem crash_nil {sc : List (List UInt8)} {f rd : Int} {fs : List (Int × Int)} : GDisk.crashD ⟨sc, [], f, rd⟩ fs = ⟨sc, [], 0, 0⟩ := rfl
theorem crash_one {sc : List (List UInt8)} {f rd : Int} {fs : List (Int × Int)} {a : Int} {x : List UInt8} : GDisk.crashD ⟨sc, [(a, x)], f, rd⟩ fs = ⟨sc.set a.toNat (mixS (fateF fs 0) x (sc.getD a.toNat [])), [], 0, 0⟩ := rfl
theorem set_mix0 {sc : List (List UInt8)} {a : Nat} {x : List UInt8} : sc.set a (mixS 0 x (sc.getD a [])) = sc := by
  have : mixS 0 x (sc.getD a []) = sc.getD a [] := by simp [mixS]
  rw [this]
  by_cases h : a < sc.length
  · rw [List.getD_eq_getElem?_getD, List.getElem?_eq_getElem h]; exact List.set_getElem_self h
  · exact List.set_eq_of_length_le (by omega)

end Go.Proofs.YtdoenmokahbeaaaGreatDoor
