/- Ck2, Ck3, Ck2b, Ck4: one behind the other. -/
import Derived.Test.YtdoenmokahbeaaaGreatDoorWl6
import Derived.Test.YtdoenmokahbeaaaGreatDoorCk1

/- Records behind faults and crashes, plainly. -/
namespace Go.Proofs.YtdoenmokahbeaaaGreatDoor
open Go.RowKit
set_option linter.unusedVariables false
set_option linter.unusedSimpArgs false

/-- a log's sectors: the records, and behind them none that could be one -/
structure LayE (n e : Nat) (sc xs : List (List UInt8)) : Prop where
  len : sc.length = n
  all : ∀ s ∈ sc, s.length = 64
  cnt : xs.length ≤ n
  put_ : ∀ i x, xs[i]? = some x → sc[i]? = some (makeS x e i) ∧ x.length ≤ 43
  off : ∀ j s, xs.length ≤ j → sc[j]? = some s → ¬ (epS s = e ∧ nuS s = j)
theorem zero_ep : epS (List.replicate 64 (0 : UInt8)) = 0 := by decide
theorem LayE.zero {n e : Nat} (he : ¬ e = 0) : LayE n e (List.replicate n (List.replicate 64 0)) [] :=
  ⟨by simp, fun s hs => by rw [List.eq_of_mem_replicate hs]; simp, by simp, fun i x hx => by simp at hx, fun j s _ hs h => by
    rw [List.eq_of_mem_replicate (List.mem_of_getElem? hs), zero_ep] at h
    exact he h.1.symm⟩
section
variable {n e : Nat} {sc xs : List (List UInt8)} {x : List UInt8}
theorem LayE.put (h : LayE n e sc xs) (hx : x.length ≤ 43) (hl : xs.length < n) : LayE n e (sc.set xs.length (makeS x e xs.length)) (xs ++ [x]) := by
  refine ⟨by simp [h.len], fun s hs => ?_, by simp; omega, fun i y hy => ?_, fun j s hj hs => ?_⟩
  · rcases List.mem_or_eq_of_mem_set hs with hs | rfl
    · exact h.all s hs
    · exact makeS_len hx e _
  · by_cases hi : i < xs.length
    · rw [List.getElem?_append_left hi] at hy
      obtain ⟨h1, h2⟩ := h.put_ i y hy
      exact ⟨by rw [List.getElem?_set, if_neg (by omega)]; exact h1, h2⟩
    · rw [List.getElem?_append_right (by omega)] at hy
      have hi2 : i = xs.length := by
        have := (List.getElem?_eq_some_iff.1 hy).1
        simp at this; omega
      subst hi2
      simp at hy; subst hy
      exact ⟨by rw [List.getElem?_set, if_pos rfl, if_pos (by rw [h.len]; exact hl)], hx⟩
  · simp only [List.length_append, List.length_singleton] at hj
    rw [List.getElem?_set, if_neg (by omega)] at hs
    exact h.off j s (by omega) hs
/-- an open write of the next record, torn -/
theorem LayE.mix (h : LayE n e sc xs) (hx : x.length ≤ 43) (hl : xs.length < n) (hn : n ≤ 1024) (he : e < 18446744073709551616) {k : Int} (k0 : 0 ≤ k) (k1 : k ≤ 64) :
    LayE n e (sc.set xs.length (mixS k (makeS x e xs.length) (sc.getD xs.length []))) (xs ++ [x]) ∨ LayE n e (sc.set xs.length (mixS k (makeS x e xs.length) (sc.getD xs.length []))) xs := by
  have hlt : xs.length < sc.length := by rw [h.len]; exact hl
  have hg : sc[xs.length]? = some (sc.getD xs.length []) := by rw [List.getD_eq_getElem?_getD, List.getElem?_eq_getElem hlt]; rfl
  have ho : (sc.getD xs.length []).length = 64 := h.all _ (List.mem_of_getElem? hg)
  have hne := h.off _ _ (Nat.le_refl _) hg
  by_cases ht : epS (mixS k (makeS x e xs.length) (sc.getD xs.length [])) = e ∧ nuS (mixS k (makeS x e xs.length) (sc.getD xs.length [])) = xs.length
  · refine .inl ?_
    have : mixS k (makeS x e xs.length) (sc.getD xs.length []) = makeS x e xs.length := torn_tag hx ho (by omega) he (by omega) hne ht.1 ht.2
    rw [this]; exact h.put hx hl
  · refine .inr ⟨by simp [h.len], fun s hs => ?_, h.cnt, fun i y hy => ?_, fun j s hj hs => ?_⟩
    · rcases List.mem_or_eq_of_mem_set hs with hs | rfl
      · exact h.all s hs
      · exact mixS_len (makeS_len hx e _) ho
    · have hi := (List.getElem?_eq_some_iff.1 hy).1
      obtain ⟨h1, h2⟩ := h.put_ i y hy
      exact ⟨by rw [List.getElem?_set, if_neg (by omega)]; exact h1, h2⟩
    · rw [List.getElem?_set] at hs
      by_cases hj2 : xs.length = j
      · subst hj2
        rw [if_pos rfl, if_pos hlt] at hs
        cases hs; exact ht
      · rw [if_neg hj2] at hs
        exact h.off j s hj hs
theorem LayE.scan (h : LayE n e sc xs) (hn : n ≤ 1024) (he : e < 18446744073709551616) (rd : Int) : ∃ r, scanGo 0 e (n : Int).toNat (⟨sc, [], 0, rd⟩ : GDisk) [] = (xs, 0, ⟨sc, [], 0, r⟩) := by
  have hc := h.cnt
  refine scan_good0 (at_ := 0) (e := e) (n := (n : Int)) (xs := xs) (by decide) he (by omega) (by omega) (by omega) ⟨rfl, rfl⟩ (by show (0 : Int) + (n : Int) ≤ (sc.length : Int); rw [h.len]; omega) (fun i x hx => ?_) ?_
  · show sc[(0 : Int).toNat + i]? = _ ∧ _
    rw [show (0 : Int).toNat + i = i by simp]; exact h.put_ i x hx
  · by_cases hx : xs.length = n
    · exact .inl (by omega)
    · refine .inr fun hr => ?_
      have hr : recS (sc.getD ((0 : Int).toNat + xs.length) []) e xs.length := hr
      rw [show (0 : Int).toNat + xs.length = xs.length by simp] at hr
      have hlt : xs.length < sc.length := by rw [h.len]; omega
      have hg : sc[xs.length]? = some (sc.getD xs.length []) := by rw [List.getD_eq_getElem?_getD, List.getElem?_eq_getElem hlt]; rfl
      obtain ⟨h1, h2, h3⟩ := hr
      rw [rdE, if_pos h1] at h2
      rw [rdN, if_pos h1] at h3
      exact h.off _ _ (Nat.le_refl _) hg ⟨h2, h3⟩
end
/-! an Append, whatever fails -/
section
variable {S : Nat → Prop} {b dk : Nat} {sc : List (List UInt8)} {rd n f : Int} {e : Nat} {r : Int} {w : World} {l : List UInt8}
abbrev LgK (b dk : Nat) (n : Int) (stv : Value) (w : World) : Prop := w.heap[b]? = some (.cells #[.pointer (some ⟨dk, 0, none⟩), .int .i64 0, .int .i64 n, stv] 76 (0, 0))
abbrev opnV (e : Nat) (r : Int) : Value := .iface 78 (.agg #[.int .u64 (e : Int), .int .i64 r])
abbrev shutV : Value := .iface 72 (.agg #[])
theorem wrs_f1 {a : Int} {x : List UInt8} (ha : GDisk.has ⟨sc, [], 1, rd⟩ a) (hx : x.length = 64) : GDisk.wrsE ⟨sc, [], 1, rd⟩ a x = 18 ∧ GDisk.wrsD ⟨sc, [], 1, rd⟩ a x = ⟨sc, [], 0, rd⟩ := by
  obtain ⟨e1, e2⟩ := GDisk.write_io (d := ⟨sc, [], 1, rd⟩) ⟨ha, hx⟩ rfl
  obtain ⟨e3, e4⟩ := GDisk.wrs_no (d := ⟨sc, [], 1, rd⟩) (a := a) (x := x) (by rw [e1]; decide)
  exact ⟨e3.trans e1, e4.trans e2⟩
theorem wrs_f2 {a : Int} {x : List UInt8} (ha : GDisk.has ⟨sc, [], 2, rd⟩ a) (hx : x.length = 64) : GDisk.wrsE ⟨sc, [], 2, rd⟩ a x = 18 ∧ GDisk.wrsD ⟨sc, [], 2, rd⟩ a x = ⟨sc, [(a, x)], 0, rd⟩ := by
  obtain ⟨e1, e2⟩ := GDisk.write_ok (d := ⟨sc, [], 2, rd⟩) ⟨ha, hx⟩ (show ¬ (2 : Int) = 1 by decide)
  obtain ⟨e3, e4⟩ := GDisk.wrs_ok e1
  rw [e2] at e3 e4
  obtain ⟨e5, e6⟩ := GDisk.flush_io (d := ⟨sc, [] ++ [(a, x)], tickF 2, rd⟩) rfl
  exact ⟨e3.trans e5, e4.trans e6⟩
theorem wrs_f0 {a : Int} {x : List UInt8} (h1 : ¬ f = 1) (h2 : ¬ f = 2) (ha : GDisk.has ⟨sc, [], f, rd⟩ a) (hx : x.length = 64) : GDisk.wrsE ⟨sc, [], f, rd⟩ a x = 0 ∧ GDisk.wrsD ⟨sc, [], f, rd⟩ a x = ⟨sc.set a.toNat x, [], tickF (tickF f), rd⟩ := by
  obtain ⟨e1, e2⟩ := GDisk.write_ok (d := ⟨sc, [], f, rd⟩) ⟨ha, hx⟩ h1
  obtain ⟨e3, e4⟩ := GDisk.wrs_ok e1
  rw [e2] at e3 e4
  obtain ⟨e5, e6⟩ := GDisk.flush_ok (d := ⟨sc, [] ++ [(a, x)], tickF f, rd⟩) (by show ¬ tickF f = 1; unfold tickF; split <;> omega)
  exact ⟨e3.trans e5, e4.trans e6⟩
def ApTo (S : Nat → Prop) (b dk : Nat) (n : Int) (l : List UInt8) (E : Int) (stv : Value) (d : GDisk) (w : World) : Prop :=
  Calls Tryz.prog 11 #[.pointer (some ⟨b, 0, none⟩), .string ⟨l.toArray⟩] w fun e_ w' => ∃ S', e_ = .returned (.int .i64 E) ∧ LgK b dk n stv w' ∧ DiskAt S' dk d w' ∧ (∀ k, S' k → S k ∨ w.heap.size ≤ k) ∧ ¬ S' b ∧ Keeps (fun k => k = b ∨ S k) w w'
theorem wlApp_f1 (hb : LgK b dk n (opnV e r) w) (hd : DiskAt S dk ⟨sc, [], 1, rd⟩ w) (hnb : ¬ S b) (hl : l.length ≤ 43) (r0 : 0 ≤ r) (r1 : r ≤ 1024) (he : e < 18446744073709551616) (hr : r < n) (hn : n = sc.length) : ApTo S b dk n l 18 shutV ⟨sc, [], 0, rd⟩ w := by
  obtain ⟨h1, h2⟩ := wrs_f1 (sc := sc) (rd := rd) (a := 0 + r) (x := makeS l e r.toNat) ⟨by omega, by show 0 + r < (sc.length : Int); omega⟩ (makeS_len hl e r.toNat)
  refine (wlAppend_no hb hd hnb hl (by decide) (by decide) r0 r1 he (by simp) hr (by rw [h1]; decide)).mono ?_
  rintro e_ w' ⟨g1, g2, S', g3, g4, g5, g6⟩
  rw [h2] at g3
  rw [h1] at g1
  exact ⟨S', g1, g2, g3, g4, g5, g6⟩
theorem wlApp_f2 (hb : LgK b dk n (opnV e r) w) (hd : DiskAt S dk ⟨sc, [], 2, rd⟩ w) (hnb : ¬ S b) (hl : l.length ≤ 43) (r0 : 0 ≤ r) (r1 : r ≤ 1024) (he : e < 18446744073709551616) (hr : r < n) (hn : n = sc.length) : ApTo S b dk n l 18 shutV ⟨sc, [(0 + r, makeS l e r.toNat)], 0, rd⟩ w := by
  obtain ⟨h1, h2⟩ := wrs_f2 (sc := sc) (rd := rd) (a := 0 + r) (x := makeS l e r.toNat) ⟨by omega, by show 0 + r < (sc.length : Int); omega⟩ (makeS_len hl e r.toNat)
  refine (wlAppend_no hb hd hnb hl (by decide) (by decide) r0 r1 he (by simp) hr (by rw [h1]; decide)).mono ?_
  rintro e_ w' ⟨g1, g2, S', g3, g4, g5, g6⟩
  rw [h2] at g3
  rw [h1] at g1
  exact ⟨S', g1, g2, g3, g4, g5, g6⟩
theorem wlApp_f0 (f1 : ¬ f = 1) (f2 : ¬ f = 2) (hb : LgK b dk n (opnV e r) w) (hd : DiskAt S dk ⟨sc, [], f, rd⟩ w) (hnb : ¬ S b) (hl : l.length ≤ 43) (r0 : 0 ≤ r) (r1 : r ≤ 1024) (he : e < 18446744073709551616) (hr : r < n) (hn : n = sc.length) : ApTo S b dk n l 0 (opnV e (r + 1)) ⟨sc.set r.toNat (makeS l e r.toNat), [], tickF (tickF f), rd⟩ w := by
  obtain ⟨h1, h2⟩ := wrs_f0 (sc := sc) (rd := rd) (a := 0 + r) (x := makeS l e r.toNat) f1 f2 ⟨by omega, by show 0 + r < (sc.length : Int); omega⟩ (makeS_len hl e r.toNat)
  refine (wlAppend_ok hb hd hnb hl (by decide) (by decide) r0 r1 he (by simp) hr h1).mono ?_
  rintro e_ w' ⟨g1, g2, S', g3, g4, g5, g6⟩
  rw [h2, Int.zero_add] at g3
  exact ⟨S', g1, g2, g3, g4, g5, g6⟩
end
theorem crash_nil {sc : List (List UInt8)} {f rd : Int} {fs : List (Int × Int)} : GDisk.crashD ⟨sc, [], f, rd⟩ fs = ⟨sc, [], 0, 0⟩ := rfl
theorem crash_one {sc : List (List UInt8)} {f rd : Int} {fs : List (Int × Int)} {a : Int} {x : List UInt8} : GDisk.crashD ⟨sc, [(a, x)], f, rd⟩ fs = ⟨sc.set a.toNat (mixS (fateF fs 0) x (sc.getD a.toNat [])), [], 0, 0⟩ := rfl
theorem set_mix0 {sc : List (List UInt8)} {a : Nat} {x : List UInt8} : sc.set a (mixS 0 x (sc.getD a [])) = sc := by
  have : mixS 0 x (sc.getD a []) = sc.getD a [] := by simp [mixS]
  rw [this]
  by_cases h : a < sc.length
  · rw [List.getD_eq_getElem?_getD, List.getElem?_eq_getElem h]; exact List.set_getElem_self h
  · exact List.set_eq_of_length_le (by omega)

end Go.Proofs.YtdoenmokahbeaaaGreatDoor
namespace Go.Proofs.YtdoenmokahbeaaaGreatDoor
open Go.RowKit
set_option linter.unusedVariables false
set_option linter.unusedSimpArgs false

set_option maxRecDepth 100000 in
theorem l07short_t (l : List UInt8) (n : Nat) (hn : n ≤ 1000000) (hl : l.length ≤ 9223372036854775807) (w : World) : Calls Tryz.prog 13 #[.string ⟨l.toArray⟩, .int .i64 (n : Int)] w fun e w' => e = .returned (.string ⟨(List.take n l).toArray⟩) ∧ Adds w w' := by
  have K : Keeps (fun _ => False) w w := Keeps.refl _ w
  refine Calls.start Tryz.func13 rfl (by kernel_rfl) ?_
  refine WC.seq ?_
  refine WC.region ?_
  refine WL.op (d := 4) (.string ⟨#[]⟩) (k := ?_)
  refine WL.nil ?_
  refine WX.seqN ?_
  refine WC.seq ?_
  refine WC.seq ?_
  refine WC.region ?_
  refine WL.op (d := 5) (.string ⟨(l).toArray⟩) (k := ?_)
  refine WL.op (d := 6) (.int .i64 (l.length : Int)) (k := ?_)
  refine WL.op (d := 7) (.int .i64 (n : Int)) (k := ?_)
  refine WL.op (d := 8) (.bool (decide ((l.length : Int) > (n : Int)))) (k := ?_)
  refine WL.nil ?_
  refine WX.seqN ?_
  refine WC.cond (b := decide ((l.length : Int) > (n : Int))) (ht := fun h1 => ?_) (hf := fun h1 => ?_)
  · have ph1 := of_decide_eq_true h1
    refine WC.seq ?_
    refine WC.region ?_
    refine WL.op (d := 9) (.string ⟨(l).toArray⟩) (k := ?_)
    refine WL.op (d := 10) (.int .i64 (n : Int)) (k := ?_)
    refine WL.cut (d := 11) (vx := .string ⟨(l).toArray⟩) (lo' := none) (hi' := (some (.int .i64 (n : Int)))) (mx' := none) (v := .string ⟨(List.take n l).toArray⟩) (run_cut (P := Tryz.prog) (w := w) (lo := none) (hi := (some (.int .i64 (n : Int)))) (T := 9) (a := 0) (b := n) (l := l) (by kernel_rfl) (.inl ⟨rfl, rfl⟩) (.inr ⟨_, _, rfl, by omega⟩) (by first | omega | (simp; omega)) (by first | omega | (simp; omega))) (k := ?_)
    refine WL.op (d := 4) (.string ⟨(List.take n l).toArray⟩) (k := ?_)
    refine WL.nil ?_
    refine WX.seqN ?_
    refine WC.ret ?_
    refine WX.seqR ?_
    refine WX.ret (rs := [.tmp 4]) [.string ⟨(List.take n l).toArray⟩] (.string ⟨(List.take n l).toArray⟩) ⟨(by kernel_rfl), trivial⟩ (k := ?_)
    exact ⟨rfl, K⟩
  · have ph1 := of_decide_eq_false h1
    refine WC.skip ?_
    refine WX.seqN ?_
    refine WC.seq ?_
    refine WC.region ?_
    refine WL.op (d := 12) (.string ⟨(l).toArray⟩) (k := ?_)
    refine WL.op (d := 4) (.string ⟨(l).toArray⟩) (k := ?_)
    refine WL.nil ?_
    refine WX.seqN ?_
    refine WC.ret ?_
    refine WX.ret (rs := [.tmp 4]) [.string ⟨(l).toArray⟩] (.string ⟨(l).toArray⟩) ⟨(by kernel_rfl), trivial⟩ (k := ?_)
    exact ⟨by rw [List.take_of_length_le (by omega)], K⟩

theorem lastOf {xs : List (List UInt8)} {l r : List UInt8} {i : Int} (h : i = (xs.length : Int)) (hr : (xs ++ [l])[i.toNat]? = some r) : r = l := by
  rw [h, Int.toNat_natCast, List.getElem?_append_right (Nat.le_refl _)] at hr; simp at hr; exact hr.symm

set_option maxRecDepth 100000 in
set_option maxHeartbeats 4000000 in
theorem lWalCuts_c (n : Int) {a b_ : List UInt8} (ha : a.length ≤ 9223372036854775807) (hb_ : b_.length ≤ 9223372036854775807) (w : World) : Calls Tryz.prog 3 #[.int .i64 n, .string ⟨a.toArray⟩, .string ⟨b_.toArray⟩] w fun e w' => e = .returned (.bool true) ∧ Adds w w' := by
  have K : Keeps (fun _ => False) w w := Keeps.refl _ w
  refine Calls.start Tryz.func3 rfl (by kernel_rfl) ?_
  refine WC.seq ?_
  refine WC.region ?_
  refine WL.op (d := 6) (.bool false) (k := ?_)
  refine WL.nil ?_
  refine WX.seqN ?_
  refine WC.seq ?_
  refine WC.region ?_
  refine WL.callG (d := 18) (f := 7) (args := #[]) (l07awake_c w) (k := fun e_ w1 h_ => ⟨.bool true, h_.1, ?_⟩)
  have k2 := h_.2; clear h_
  replace K := K.trans (k2.any _)
  refine WL.op (d := 7) (.bool true) (k := ?_)
  refine WL.nil ?_
  refine WX.seqN ?_
  refine WC.seq ?_
  refine WC.region ?_
  refine WL.callG (d := 19) (f := 8) (args := #[.int .i64 8]) (dNew_ok (n := 8) (by omega) (by omega) w1) (k := fun e_ w3 h_ => ?_)
  obtain ⟨b4, S5, rfl, g6, hd7, ho8, k9⟩ := h_
  refine ⟨_, rfl, ?_⟩
  have lk10 : ∀ k, S5 k → False ∨ w.heap.size ≤ k := fun k h => .inr (Nat.le_trans K.size (ho8 k h))
  have z11 := Nat.le_trans K.size g6
  replace K := K.trans (k9.any _)
  change DiskAt S5 b4 (⟨List.replicate 8 (List.replicate 64 (0 : UInt8)), [], 0, 0⟩ : GDisk) w3 at hd7
  have ln12 : (GDisk.secs (⟨List.replicate 8 (List.replicate 64 (0 : UInt8)), [], 0, 0⟩ : GDisk)).length = 8 := List.length_replicate
  refine WL.op (d := 8) (.pointer (some ⟨b4, 0, none⟩)) (k := ?_)
  refine WL.nil ?_
  refine WX.seqN ?_
  refine WC.seq ?_
  refine WC.region ?_
  refine WL.op (d := 20) (.pointer (some ⟨b4, 0, none⟩)) (k := ?_)
  have lay13 : LayE 8 3 (List.replicate 8 (List.replicate 64 (0 : UInt8))) [] := LayE.zero (n := 8) (by omega)
  refine WL.callG (d := 21) (f := 9) (args := #[.pointer (some ⟨b4, 0, none⟩), .int .i64 0, .int .i64 8]) (wlNew_ok (at_ := 0) (n := 8) hd7 (by omega) (by omega) ⟨by decide, by decide, by show (0 : Int) ≤ ((List.replicate 8 (List.replicate 64 (0 : UInt8))).length : Int) - 8; rw [lay13.len]; decide⟩) (k := fun e_ w14 h_ => ?_)
  obtain ⟨b15, rfl, g16, hb17, k18⟩ := h_
  refine ⟨_, rfl, ?_⟩
  have z19 := Nat.le_trans K.size g16
  have n20 : ¬ S5 b15 := fun h => absurd (hd7.lt _ h) (Nat.not_lt.2 g16)
  replace hd7 := hd7.adds k18
  replace K := K.trans (k18.any _)
  refine WL.op (d := 9) (.pointer (some ⟨b15, 0, none⟩)) (k := ?_)
  refine WL.nil ?_
  refine WX.seqN ?_
  refine WC.seq ?_
  refine WC.seq ?_
  refine WC.region ?_
  refine WL.op (d := 22) (.pointer (some ⟨b4, 0, none⟩)) (k := ?_)
  refine WL.op (d := 23) (.bool false) (k := ?_)
  refine WL.op (d := 24) (.bool false) (k := ?_)
  refine WL.op (d := 25) (.pointer (some ⟨b15, 0, none⟩)) (k := ?_)
  refine WL.op (d := 26) (.bool false) (k := ?_)
  refine WL.op (d := 27) (.bool false) (k := ?_)
  refine WL.nil ?_
  refine WX.seqN ?_
  refine WC.condF (k := ?_)
  refine WC.skip ?_
  refine WX.seqN ?_
  refine WC.seq ?_
  refine WC.region ?_
  refine WL.op (d := 28) (.pointer (some ⟨b15, 0, none⟩)) (k := ?_)
  refine WL.callG (d := 29) (f := 10) (args := #[.pointer (some ⟨b15, 0, none⟩), .int .u64 3]) (wlStart_ok (e := 3) hb17 (by omega)) (k := fun e_ w21 h_ => ?_)
  obtain ⟨rfl, hb22, k23⟩ := h_
  refine ⟨_, rfl, ?_⟩
  replace hd7 := hd7.keeps k23 (fun i hi e => n20 (e ▸ hi))
  replace K := K.trans' k23 (fun i hi e => absurd (e ▸ hi) (Nat.not_lt.2 z19))
  clear hb17
  change w21.heap[b15]? = some (.cells #[.pointer (some ⟨b4, 0, none⟩), .int .i64 0, .int .i64 8, .iface 78 (.agg #[.int .u64 3, .int .i64 (List.length ([] : List (List UInt8)) : Int)])] 76 (0, 0)) at hb22
  refine WL.nil ?_
  refine WX.seqN ?_
  refine WC.seq ?_
  refine WC.region ?_
  refine WL.op (d := 30) (.int .i64 n) (k := ?_)
  refine WL.bin (d := 31) (v := .int .i64 (Int.tmod n 7)) (rem_run (by omega)) (k := ?_)
  have m24 := tmod_rng n 7 (by omega)
  obtain ⟨r25, e26⟩ : ∃ r : Int, Int.tmod n 7 = r := ⟨_, rfl⟩
  rw [e26] at m24
  refine WL.rw (t := 31) (v := .int .i64 r25) (congrArg (Value.int .i64) e26) (k := ?_)
  refine WL.opE (d := 32) (.int .i64 (IntKind.i64.wrap (r25 + 7))) (v := .int .i64 (r25 + 7)) (congrArg (Value.int .i64) (IntWalk.i64_in _ (by omega))) (k := ?_)
  refine WL.bin (d := 33) (v := .int .i64 (Int.tmod (r25 + 7) 7)) (rem_run (by omega)) (k := ?_)
  have m27 := tmod_rng (r25 + 7) 7 (by omega)
  obtain ⟨r28, e29⟩ : ∃ r : Int, Int.tmod (r25 + 7) 7 = r := ⟨_, rfl⟩
  rw [e29] at m27
  refine WL.rw (t := 33) (v := .int .i64 r28) (congrArg (Value.int .i64) e29) (k := ?_)
  refine WL.op (d := 10) (.int .i64 r28) (k := ?_)
  refine WL.nil ?_
  refine WX.seqN ?_
  refine WC.seq ?_
  refine WC.seq ?_
  refine WC.region ?_
  refine WL.op (d := 11) (.int .i64 0) (k := ?_)
  refine WL.nil ?_
  refine WX.seqN ?_
  refine WC.block ?_
  refine WC.loop (ι := Int × (List (List UInt8)) × (List (List UInt8)) × Int × (Nat → Prop)) (fun (⟨i, xs, sc, rd, Si⟩ : Int × (List (List UInt8)) × (List (List UInt8)) × Int × (Nat → Prop)) => [(0, .int .i64 n), (1, .string ⟨(a).toArray⟩), (2, .string ⟨(b_).toArray⟩), (6, .bool false), (18, .bool true), (7, .bool true), (19, .pointer (some ⟨b4, 0, none⟩)), (8, .pointer (some ⟨b4, 0, none⟩)), (20, .pointer (some ⟨b4, 0, none⟩)), (21, .pointer (some ⟨b15, 0, none⟩)), (9, .pointer (some ⟨b15, 0, none⟩)), (22, .pointer (some ⟨b4, 0, none⟩)), (23, .bool false), (24, .bool false), (25, .pointer (some ⟨b15, 0, none⟩)), (26, .bool false), (27, .bool false), (28, .pointer (some ⟨b15, 0, none⟩)), (30, .int .i64 n), (31, .int .i64 r25), (32, .int .i64 (r25 + 7)), (33, .int .i64 r28), (10, .int .i64 r28), (11, .int .i64 i)]) (fun (⟨i, xs, sc, rd, Si⟩ : Int × (List (List UInt8)) × (List (List UInt8)) × Int × (Nat → Prop)) (w_ : World) => (Keeps (fun _ => False) w w_) ∧ (DiskAt Si b4 (⟨sc, [], 0, rd⟩ : GDisk) w_) ∧ (∀ k, Si k → (fun _ => False) k ∨ w.heap.size ≤ k) ∧ (¬ Si b15) ∧ (w_.heap[b15]? = some (.cells #[.pointer (some ⟨b4, 0, none⟩), .int .i64 0, .int .i64 8, .iface 78 (.agg #[.int .u64 3, .int .i64 (List.length xs : Int)])] 76 (0, 0))) ∧ (0 ≤ i) ∧ ((xs.length : Int) = i) ∧ (i ≤ r28) ∧ (LayE 8 3 sc xs)) (fun (⟨i, xs, sc, rd, Si⟩ : Int × (List (List UInt8)) × (List (List UInt8)) × Int × (Nat → Prop)) => (8 - i).toNat) (0, [], List.replicate 8 (List.replicate 64 (0 : UInt8)), 0, S5) ⟨(by kernel_rfl), (by kernel_rfl), (by kernel_rfl), (by kernel_rfl), (by kernel_rfl), (by kernel_rfl), (by kernel_rfl), (by kernel_rfl), (by kernel_rfl), (by kernel_rfl), (by kernel_rfl), (by kernel_rfl), (by kernel_rfl), (by kernel_rfl), (by kernel_rfl), (by kernel_rfl), (by kernel_rfl), (by kernel_rfl), (by kernel_rfl), (by kernel_rfl), (by kernel_rfl), (by kernel_rfl), (by kernel_rfl), (by kernel_rfl), trivial⟩ ⟨K, hd7, lk10, n20, hb22, Int.le_refl 0, rfl, (by omega), lay13⟩ ?_
  rintro ⟨i, xs, sc, rd, Si⟩ w30 ⟨K, hb31, lk32, n33, hb34, i0, ix, i1, hl⟩
  refine WC.seq ?_
  refine WC.seq ?_
  refine WC.region ?_
  refine WL.op (d := 34) (.int .i64 i) (k := ?_)
  refine WL.op (d := 35) (.int .i64 r28) (k := ?_)
  refine WL.op (d := 36) (.bool (decide (i < r28))) (k := ?_)
  refine WL.nil ?_
  refine WX.seqN ?_
  refine WC.cond (b := decide (i < r28)) (ht := fun h35 => ?_) (hf := fun h35 => ?_)
  · have ph35 := of_decide_eq_true h35
    refine WC.skip ?_
    refine WX.seqN ?_
    refine WC.seq ?_
    refine WC.block ?_
    refine WC.region ?_
    refine WL.op (d := 39) (.pointer (some ⟨b15, 0, none⟩)) (k := ?_)
    refine bsplit (decide ((List.length xs : Int) < 8)) (fun h36 => ?_) (fun h36 => ?_)
    · have ph36 := of_decide_eq_true h36
      refine WL.callG (d := 40) (f := 11) (args := #[.pointer (some ⟨b15, 0, none⟩), .string ⟨#[114]⟩]) (wlApp_f0 (l := [114]) (e := 3) (r := (List.length xs : Int)) (f := 0) (by decide) (by decide) hb34 hb31 n33 (by show List.length [114] ≤ 43; first | omega | (simp; done) | (simp; omega)) (by omega) (by omega) (by omega) (by omega) (by rw [hl.len]; rfl)) (k := fun e_ w37 h_ => ?_)
      obtain ⟨S38, rfl, hb39, hd40, lk41, n42, k43⟩ := h_
      refine ⟨_, rfl, ?_⟩
      have ll_ : List.length [114] ≤ 43 := (by show List.length [114] ≤ 43; first | omega | (simp; done) | (simp; omega))
      rw [show (List.length xs : Int) + 1 = (List.length (xs ++ [[114]]) : Int) from by simp] at hb39
      have lk44 := lk_step lk32 lk41 K
      replace K := K.trans' k43 (fun i hi e => e.elim (fun e => absurd (e ▸ hi) (Nat.not_lt.2 z19)) (fun e => (lk32 i e).elim (fun h => h.elim) (fun h => absurd hi (Nat.not_lt.2 h))))
      clear hb34 hb31
      rw [Int.toNat_natCast] at hd40
      have lay45 := LayE.put (x := [114]) hl ll_ (by omega)
      change DiskAt S38 b4 (⟨List.set sc (List.length xs) (makeS [114] 3 (List.length xs)), [], 0, rd⟩ : GDisk) w37 at hd40
      obtain ⟨sc46, hs47⟩ : ∃ q, List.set sc (List.length xs) (makeS [114] 3 (List.length xs)) = q := ⟨_, rfl⟩
      rw [hs47] at hd40 lay45
      refine WL.nil ?_
      refine WX.blockN ?_
      refine WX.seqN ?_
      refine WC.region ?_
      refine WL.op (d := 37) (.int .i64 i) (k := ?_)
      refine WL.opE (d := 38) (.int .i64 (IntKind.i64.wrap (i + 1))) (v := .int .i64 (i + 1)) (congrArg (Value.int .i64) (IntWalk.i64_in _ (by omega))) (k := ?_)
      refine WL.op (d := 11) (.int .i64 (i + 1)) (k := ?_)
      refine WL.nil ?_
      refine WX.round (i + 1, xs ++ [[114]], sc46, rd, S38) (by show (8 - (i + 1)).toNat < (8 - i).toNat; omega) ⟨(by kernel_rfl), (by kernel_rfl), (by kernel_rfl), (by kernel_rfl), (by kernel_rfl), (by kernel_rfl), (by kernel_rfl), (by kernel_rfl), (by kernel_rfl), (by kernel_rfl), (by kernel_rfl), (by kernel_rfl), (by kernel_rfl), (by kernel_rfl), (by kernel_rfl), (by kernel_rfl), (by kernel_rfl), (by kernel_rfl), (by kernel_rfl), (by kernel_rfl), (by kernel_rfl), (by kernel_rfl), (by kernel_rfl), (by kernel_rfl), trivial⟩ ⟨K, hd40, lk44, n42, hb39, (by omega), (by first | omega | (rw [List.length_append]; simp; omega)), (by omega), lay45⟩
    · have ph36 := of_decide_eq_false h36
      refine WL.callG (d := 40) (f := 11) (args := #[.pointer (some ⟨b15, 0, none⟩), .string ⟨#[114]⟩]) (wlAppend_full (l := [114]) hb34 hb31 n33 (by show List.length [114] ≤ 43; first | omega | (simp; done) | (simp; omega)) (by omega)) (k := fun e_ w48 h_ => ⟨.int .i64 22, h_.1, ?_⟩)
      have k49 := h_.2; clear h_
      replace hb31 := hb31.adds k49
      replace hb34 := k49.heap hb34 id
      replace K := K.trans (k49.any _)
      refine WL.nil ?_
      refine WX.blockN ?_
      refine WX.seqN ?_
      refine WC.region ?_
      refine WL.op (d := 37) (.int .i64 i) (k := ?_)
      refine WL.opE (d := 38) (.int .i64 (IntKind.i64.wrap (i + 1))) (v := .int .i64 (i + 1)) (congrArg (Value.int .i64) (IntWalk.i64_in _ (by omega))) (k := ?_)
      refine WL.op (d := 11) (.int .i64 (i + 1)) (k := ?_)
      refine WL.nil ?_
      refine WX.round (i + 1, xs, sc, rd, Si) (by show (8 - (i + 1)).toNat < (8 - i).toNat; omega) ⟨(by kernel_rfl), (by kernel_rfl), (by kernel_rfl), (by kernel_rfl), (by kernel_rfl), (by kernel_rfl), (by kernel_rfl), (by kernel_rfl), (by kernel_rfl), (by kernel_rfl), (by kernel_rfl), (by kernel_rfl), (by kernel_rfl), (by kernel_rfl), (by kernel_rfl), (by kernel_rfl), (by kernel_rfl), (by kernel_rfl), (by kernel_rfl), (by kernel_rfl), (by kernel_rfl), (by kernel_rfl), (by kernel_rfl), (by kernel_rfl), trivial⟩ ⟨K, hb31, lk32, n33, hb34, (by omega), (by first | omega | (rw [List.length_append]; simp; omega)), (by omega), hl⟩
  · have ph35 := of_decide_eq_false h35
    refine WC.exit ?_
    refine WX.seqE ?_
    refine WX.seqE ?_
    refine WX.blockE ?_
    refine WX.seqN ?_
    refine WC.seq ?_
    refine WC.region ?_
    refine WL.op (d := 41) (.pointer (some ⟨b4, 0, none⟩)) (k := ?_)
    refine WL.callG (d := 42) (f := 12) (args := #[.pointer (some ⟨b4, 0, none⟩), .int .i64 2]) (dFail_at (f := 2) hb31 (by omega) (by omega)) (k := fun e_ w50 h_ => ?_)
    obtain ⟨rfl, hd51, k52⟩ := h_
    refine ⟨_, rfl, ?_⟩
    replace hb34 := k52.heap hb34 n33
    replace K := K.trans' k52 (fun i hi e => (lk32 i e).elim (fun h => h.elim) (fun h => absurd hi (Nat.not_lt.2 h)))
    clear hb31
    refine WL.nil ?_
    refine WX.seqN ?_
    refine WC.seq ?_
    refine WC.region ?_
    refine WL.op (d := 43) (.pointer (some ⟨b15, 0, none⟩)) (k := ?_)
    refine WL.op (d := 44) (.string ⟨(a).toArray⟩) (k := ?_)
    refine WL.callG (d := 45) (f := 13) (args := #[.string ⟨(a).toArray⟩, .int .i64 43]) (l07short_t a 43 (by omega) (by omega) w50) (k := fun e_ w54 h_ => ⟨.string ⟨(List.take 43 a).toArray⟩, h_.1, ?_⟩)
    have k55 := h_.2; clear h_
    replace hd51 := hd51.adds k55
    replace hb34 := k55.heap hb34 id
    replace K := K.trans (k55.any _)
    have tl53 : (List.take 43 a).length ≤ 43 := by simp; omega
    refine bsplit (decide ((List.length xs : Int) < 8)) (fun h56 => ?_) (fun h56 => ?_)
    · have ph56 := of_decide_eq_true h56
      refine WL.callG (d := 46) (f := 11) (args := #[.pointer (some ⟨b15, 0, none⟩), .string ⟨(List.take 43 a).toArray⟩]) (wlApp_f2 (l := List.take 43 a) (e := 3) (r := (List.length xs : Int)) hb34 hd51 n33 (by show List.length (List.take 43 a) ≤ 43; first | omega | (simp; done) | (simp; omega)) (by omega) (by omega) (by omega) (by omega) (by rw [hl.len]; rfl)) (k := fun e_ w57 h_ => ?_)
      obtain ⟨S58, rfl, hb59, hd60, lk61, n62, k63⟩ := h_
      refine ⟨_, rfl, ?_⟩
      have ll_ : List.length (List.take 43 a) ≤ 43 := (by show List.length (List.take 43 a) ≤ 43; first | omega | (simp; done) | (simp; omega))
      have lk64 := lk_step lk32 lk61 K
      replace K := K.trans' k63 (fun i hi e => e.elim (fun e => absurd (e ▸ hi) (Nat.not_lt.2 z19)) (fun e => (lk32 i e).elim (fun h => h.elim) (fun h => absurd hi (Nat.not_lt.2 h))))
      clear hb34 hd51
      rw [Int.zero_add, Int.toNat_natCast] at hd60
      refine WL.op (d := 12) (.int .i64 18) (k := ?_)
      refine WL.nil ?_
      refine WX.seqN ?_
      refine WC.seq ?_
      refine WC.region ?_
      refine WL.op (d := 47) (.pointer (some ⟨b4, 0, none⟩)) (k := ?_)
      refine WL.callG (d := 48) (f := 14) (args := #[.pointer (some ⟨b4, 0, none⟩), .slice none 0 0]) (dCrash_c (fs := []) (cf := 0) hd60 SlAt.nil (fun h => absurd rfl h) (by simp)) (k := fun e_ w65 h_ => ?_)
      obtain ⟨rfl, S66, hd68, lk67, k69⟩ := h_
      refine ⟨_, rfl, ?_⟩
      have n70 : ¬ S66 b15 := fun h => (lk67 _ h).elim n62 (fun h2 => absurd (lt_of_heap hb59) (Nat.not_lt.2 h2))
      have lk71 := lk_step lk64 lk67 K
      replace hb59 := k69.heap hb59 n62
      replace K := K.trans' k69 (fun i hi e => (lk64 i e).elim (fun h => h.elim) (fun h => absurd hi (Nat.not_lt.2 h)))
      clear hd60
      change DiskAt S66 b4 (⟨List.set sc (List.length xs) (mixS (fateF ([] : List (Int × Int)) 0) (makeS (List.take 43 a) 3 (List.length xs)) (List.getD sc (List.length xs) [])), [], 0, 0⟩ : GDisk) w65 at hd68
      rw [show fateF ([] : List (Int × Int)) 0 = 0 from rfl, set_mix0] at hd68
      refine WL.nil ?_
      refine WX.seqN ?_
      refine WC.seq ?_
      refine WC.region ?_
      refine WL.op (d := 50) (.pointer (some ⟨b15, 0, none⟩)) (k := ?_)
      obtain ⟨r72, hs73⟩ := LayE.scan hl (by decide) (by omega) 0
      refine WL.callG (d := 51) (f := 15) (args := #[.pointer (some ⟨b15, 0, none⟩), .int .u64 3]) (wlScan_good (e := 3) (xs := xs) hb59 hd68 n70 (by decide) (by decide) (by decide) (by omega) (by omega) hs73) (k := fun e_ w74 h_ => ?_)
      obtain ⟨A75, c76, rfl, hb77, ho78, ol79, hd80, n81, k82⟩ := h_
      refine ⟨_, rfl, ?_⟩
      have ol83 := fun i h => Nat.le_trans K.size (ol79 i h)
      replace K := K.trans' k82 (fun i hi e => e.elim (fun e => absurd (e ▸ hi) (Nat.not_lt.2 z19)) (fun e => (lk71 i e).elim (fun h => h.elim) (fun h => absurd hi (Nat.not_lt.2 h))))
      clear hb59 hd68 ol79
      refine WL.op (d := 49) (.tuple #[.slice A75 (List.length xs) c76, .int .i64 0]) (k := ?_)
      refine WL.op (d := 52) (.slice A75 (List.length xs) c76) (k := ?_)
      refine WL.op (d := 53) (.int .i64 0) (k := ?_)
      refine WL.op (d := 13) (.slice A75 (List.length xs) c76) (k := ?_)
      refine WL.op (d := 14) (.int .i64 0) (k := ?_)
      refine WL.nil ?_
      refine WX.seqN ?_
      refine WC.seq ?_
      refine WC.region ?_
      refine WL.op (d := 54) (.pointer (some ⟨b15, 0, none⟩)) (k := ?_)
      refine WL.op (d := 55) (.string ⟨(b_).toArray⟩) (k := ?_)
      refine WL.callG (d := 56) (f := 13) (args := #[.string ⟨(b_).toArray⟩, .int .i64 43]) (l07short_t b_ 43 (by omega) (by omega) w74) (k := fun e_ w85 h_ => ⟨.string ⟨(List.take 43 b_).toArray⟩, h_.1, ?_⟩)
      have k86 := h_.2; clear h_
      replace hd80 := hd80.adds k86
      replace hb77 := k86.heap hb77 id
      replace ho78 := ho78.adds k86
      replace K := K.trans (k86.any _)
      have tl84 : (List.take 43 b_).length ≤ 43 := by simp; omega
      refine WL.callG (d := 57) (f := 11) (args := #[.pointer (some ⟨b15, 0, none⟩), .string ⟨(List.take 43 b_).toArray⟩]) (wlApp_f0 (l := List.take 43 b_) (e := 3) (r := (List.length xs : Int)) (f := 0) (by decide) (by decide) hb77 hd80 n70 (by show List.length (List.take 43 b_) ≤ 43; first | omega | (simp; done) | (simp; omega)) (by omega) (by omega) (by omega) (by omega) (by rw [hl.len]; rfl)) (k := fun e_ w87 h_ => ?_)
      obtain ⟨S88, rfl, hb89, hd90, lk91, n92, k93⟩ := h_
      refine ⟨_, rfl, ?_⟩
      have ll_ : List.length (List.take 43 b_) ≤ 43 := (by show List.length (List.take 43 b_) ≤ 43; first | omega | (simp; done) | (simp; omega))
      rw [show (List.length xs : Int) + 1 = (List.length (xs ++ [List.take 43 b_]) : Int) from by simp] at hb89
      have n94 : ∀ i, blk A75 = some i → ¬ S88 i := fun i hi h => (lk91 _ h).elim (n81 i hi) (fun h2 => absurd (ho78.lt i hi) (Nat.not_lt.2 h2))
      have lk95 := lk_step lk71 lk91 K
      replace K := K.trans' k93 (fun i hi e => e.elim (fun e => absurd (e ▸ hi) (Nat.not_lt.2 z19)) (fun e => (lk71 i e).elim (fun h => h.elim) (fun h => absurd hi (Nat.not_lt.2 h))))
      replace ho78 := ho78.keeps k93 (fun i hi h => h.elim (fun h => (ho78.offT hb77 (by decide)) (h ▸ hi)) (n81 i hi))
      clear hb77 hd80
      rw [Int.toNat_natCast] at hd90
      have lay96 := LayE.put (x := List.take 43 b_) hl ll_ (by omega)
      change DiskAt S88 b4 (⟨List.set sc (List.length xs) (makeS (List.take 43 b_) 3 (List.length xs)), [], 0, r72⟩ : GDisk) w87 at hd90
      obtain ⟨sc97, hs98⟩ : ∃ q, List.set sc (List.length xs) (makeS (List.take 43 b_) 3 (List.length xs)) = q := ⟨_, rfl⟩
      rw [hs98] at hd90 lay96
      refine WL.op (d := 15) (.int .i64 0) (k := ?_)
      refine WL.nil ?_
      refine WX.seqN ?_
      refine WC.seq ?_
      refine WC.region ?_
      refine WL.op (d := 59) (.pointer (some ⟨b15, 0, none⟩)) (k := ?_)
      obtain ⟨r99, hs100⟩ := LayE.scan lay96 (by decide) (by omega) r72
      refine WL.callG (d := 60) (f := 15) (args := #[.pointer (some ⟨b15, 0, none⟩), .int .u64 3]) (wlScan_good (e := 3) (xs := (xs ++ [List.take 43 b_])) hb89 hd90 n92 (by decide) (by decide) (by decide) (by omega) (by omega) hs100) (k := fun e_ w101 h_ => ?_)
      obtain ⟨A102, c103, rfl, hb104, ho105, ol106, hd107, n108, k109⟩ := h_
      refine ⟨_, rfl, ?_⟩
      have ol110 := fun i h => Nat.le_trans K.size (ol106 i h)
      replace K := K.trans' k109 (fun i hi e => e.elim (fun e => absurd (e ▸ hi) (Nat.not_lt.2 z19)) (fun e => (lk95 i e).elim (fun h => h.elim) (fun h => absurd hi (Nat.not_lt.2 h))))
      replace ho78 := ho78.keeps k109 (fun i hi h => h.elim (fun h => (ho78.offT hb89 (by decide)) (h ▸ hi)) (n94 i hi))
      clear hb89 hd90 ol106
      have ll111 : (List.length (xs ++ [List.take 43 b_]) : Int) = (List.length xs : Int) + 1 := by simp
      refine WL.op (d := 58) (.tuple #[.slice A102 (List.length (xs ++ [List.take 43 b_])) c103, .int .i64 0]) (k := ?_)
      refine WL.op (d := 61) (.slice A102 (List.length (xs ++ [List.take 43 b_])) c103) (k := ?_)
      refine WL.op (d := 62) (.int .i64 0) (k := ?_)
      refine WL.op (d := 16) (.slice A102 (List.length (xs ++ [List.take 43 b_])) c103) (k := ?_)
      refine WL.op (d := 17) (.int .i64 0) (k := ?_)
      refine WL.nil ?_
      refine WX.seqN ?_
      refine WC.seq ?_
      refine WC.mixed (fun _ => False) 39 (k := fun w112 k113 => ?_)
      replace hd107 := hd107.adds k113
      replace hb104 := k113.heap hb104 id
      replace ho78 := ho78.adds k113
      replace ho105 := ho105.adds k113
      replace K := K.trans (k113.any _)
      have KC := Keeps.refl (fun _ => False) w112
      have bh114 := hb104
      have Kb := K
      refine WA.quiet 0 (d := 63) (.bool true) KC (hi := rfl) (k := ?_)
      refine WA.quiet 1 (d := 64) (.bool true) KC (hi := rfl) (k := ?_)
      refine WA.quiet 2 (d := 65) (.int .i64 18) KC (hi := rfl) (k := ?_)
      refine WA.quiet 3 (d := 66) (.bool true) KC (hi := rfl) (k := ?_)
      refine WA.quiet 4 (d := 67) (.bool true) KC (hi := rfl) (k := ?_)
      refine WA.quiet 5 (d := 68) (.bool true) KC (hi := rfl) (k := ?_)
      refine WA.quiet 6 (d := 69) (.int .i64 0) KC (hi := rfl) (k := ?_)
      refine WA.quiet 7 (d := 70) (.bool true) KC (hi := rfl) (k := ?_)
      refine WA.quiet 8 (d := 71) (.bool true) KC (hi := rfl) (k := ?_)
      refine WA.quiet 9 (d := 72) (.bool true) KC (hi := rfl) (k := ?_)
      refine WA.quiet 10 (d := 73) (.slice A75 (List.length xs) c76) KC (hi := rfl) (k := ?_)
      refine WA.quiet 11 (d := 74) (.int .i64 ((List.length xs) : Int)) KC (hi := rfl) (k := ?_)
      refine WA.quiet 12 (d := 75) (.int .i64 r28) KC (hi := rfl) (k := ?_)
      refine WA.quiet 13 (d := 76) (.bool (((List.length xs) : Int) == r28)) KC (hi := rfl) (k := ?_)
      refine WA.quiet 14 (d := 77) (.bool (((List.length xs) : Int) == r28)) KC (hi := rfl) (k := ?_)
      refine WA.quiet 15 (d := 78) (.bool (((List.length xs) : Int) == r28)) KC (hi := rfl) (k := ?_)
      refine bsplit (((List.length xs) : Int) == r28) (fun h115 => ?_) (fun h115 => ?_)
      · have ph115 := eq_of_beq h115
        refine WA.rw (t := 78) (v := .bool true) (congrArg Value.bool h115) (k := ?_)
        refine WA.quiet 16 (d := 79) (.int .i64 0) KC (hi := rfl) (k := ?_)
        refine WA.quiet 17 (d := 80) (.bool true) KC (hi := rfl) (k := ?_)
        refine WA.quiet 18 (d := 81) (.bool true) KC (hi := rfl) (k := ?_)
        refine WA.quiet 19 (d := 82) (.bool true) KC (hi := rfl) (k := ?_)
        refine WA.quiet 20 (d := 83) (.int .i64 0) KC (hi := rfl) (k := ?_)
        refine WA.quiet 21 (d := 84) (.bool true) KC (hi := rfl) (k := ?_)
        refine WA.quiet 22 (d := 85) (.bool true) KC (hi := rfl) (k := ?_)
        refine WA.quiet 23 (d := 86) (.bool true) KC (hi := rfl) (k := ?_)
        refine WA.quiet 24 (d := 87) (.slice A102 (List.length (xs ++ [List.take 43 b_])) c103) KC (hi := rfl) (k := ?_)
        refine WA.quiet 25 (d := 88) (.int .i64 ((List.length (xs ++ [List.take 43 b_])) : Int)) KC (hi := rfl) (k := ?_)
        refine WA.quiet 26 (d := 89) (.int .i64 r28) KC (hi := rfl) (k := ?_)
        refine WA.quiet 27 (d := 90) (.int .i64 (IntKind.i64.wrap (r28 + 1))) KC (hi := rfl) (k := ?_)
        refine WA.rw (t := 90) (v := .int .i64 (r28 + 1)) (congrArg (Value.int .i64) (IntWalk.i64_in _ (by omega))) (k := ?_)
        refine WA.quiet 28 (d := 91) (.bool (((List.length (xs ++ [List.take 43 b_])) : Int) == (r28 + 1))) KC (hi := rfl) (k := ?_)
        refine WA.quiet 29 (d := 92) (.bool (((List.length (xs ++ [List.take 43 b_])) : Int) == (r28 + 1))) KC (hi := rfl) (k := ?_)
        refine WA.quiet 30 (d := 93) (.bool (((List.length (xs ++ [List.take 43 b_])) : Int) == (r28 + 1))) KC (hi := rfl) (k := ?_)
        refine bsplit (((List.length (xs ++ [List.take 43 b_])) : Int) == (r28 + 1)) (fun h116 => ?_) (fun h116 => ?_)
        · have ph116 := eq_of_beq h116
          refine WA.rw (t := 93) (v := .bool true) (congrArg Value.bool h116) (k := ?_)
          refine WA.quiet 31 (d := 94) (.slice A102 (List.length (xs ++ [List.take 43 b_])) c103) KC (hi := rfl) (k := ?_)
          refine WA.quiet 32 (d := 95) (.int .i64 r28) KC (hi := rfl) (k := ?_)
          obtain ⟨b117, o118, r119, hr120, hA121, he122⟩ := SlAt.at (ho105.sl ekStr) (i := r28) (by omega) (by omega)
          refine WA.rw (t := 94) (v := .slice (some ⟨b117, o118, none⟩) (List.length (xs ++ [List.take 43 b_])) c103) (congrArg (fun a => Value.slice a (List.length (xs ++ [List.take 43 b_])) c103) hA121) (k := ?_)
          have e_r119 : r119 = List.take 43 b_ := lastOf (by omega) hr120
          refine WA.quietR 33 (d := 96) (.pointer (some ⟨b117, o118 + (r28).toNat * 1, none⟩)) KC (exec_idx (T := 34) (E := 9) (m := 1) (b := b117) (o := o118) (len := (List.length (xs ++ [List.take 43 b_]))) (cap := c103) (i := r28) (kk := .i64) (by omega) (by omega)) (hi := rfl) (k := ?_)
          refine WA.rw (t := 94) (v := .slice A102 (List.length (xs ++ [List.take 43 b_])) c103) (congrArg (fun a => Value.slice a (List.length (xs ++ [List.take 43 b_])) c103) (Eq.symm hA121)) (k := ?_)
          refine WA.quietR 34 (d := 97) (.string ⟨(r119).toArray⟩) KC (exec_load (fun w_ k_ => (he122.adds k_).ld0 (T := 9))) (hi := rfl) (k := ?_)
          refine WA.quiet 35 (d := 98) (.string ⟨(b_).toArray⟩) KC (hi := rfl) (k := ?_)
          refine WA.step 36 (hi := rfl) (k := ?_)
          refine WL.callG (d := 99) (f := 13) (args := #[.string ⟨(b_).toArray⟩, .int .i64 43]) (l07short_t b_ 43 (by omega) (by omega) w112) (k := fun e_ w124 h_ => ⟨.string ⟨(List.take 43 b_).toArray⟩, h_.1, ?_⟩)
          have k125 := h_.2; clear h_
          replace hd107 := hd107.adds k125
          replace hb104 := k125.heap hb104 id
          replace ho78 := ho78.adds k125
          replace ho105 := ho105.adds k125
          replace he122 := he122.adds k125
          replace K := K.trans (k125.any _)
          replace KC := KC.trans (k125.any _)
          have tl123 : (List.take 43 b_).length ≤ 43 := by simp; omega
          refine WL.nil ?_
          refine WX.nxt KC ?_
          refine WA.quiet 37 (d := 100) (.bool (ByteArray.toList ⟨(r119).toArray⟩ == ByteArray.toList ⟨(List.take 43 b_).toArray⟩)) KC (hi := rfl) (k := ?_)
          refine WA.rw (t := 100) (v := .bool (decide (r119 = List.take 43 b_))) (str_eql _ _) (k := ?_)
          refine WA.quiet 38 (d := 101) (.bool (decide (r119 = List.take 43 b_))) KC (hi := rfl) (k := ?_)
          refine WA.step 39 (hi := rfl) (k := ?_)
          refine WL.op (d := 6) (.bool (decide (r119 = List.take 43 b_))) (k := ?_)
          refine WL.nil ?_
          refine WX.nxtL ?_
          refine WA.done (k := ?_)
          clear KC
          refine WX.seqN ?_
          refine WC.ret ?_
          refine WX.ret (rs := [.tmp 6]) [.bool (decide (r119 = List.take 43 b_))] (.bool (decide (r119 = List.take 43 b_))) ⟨(by kernel_rfl), trivial⟩ (k := ?_)
          exact ⟨ret_bool (decide_eq_true e_r119), K⟩
        · have ph116 := ne_of_beq_false h116
          refine WA.rw (t := 93) (v := .bool false) (congrArg Value.bool h116) (k := ?_)
          refine WA.quietS 31 (d := 94) KC (hi := rfl) (k := ?_)
          refine WA.quietS 32 (d := 95) KC (hi := rfl) (k := ?_)
          refine WA.quietS 33 (d := 96) KC (hi := rfl) (k := ?_)
          refine WA.quietS 34 (d := 97) KC (hi := rfl) (k := ?_)
          refine WA.quietS 35 (d := 98) KC (hi := rfl) (k := ?_)
          refine WA.step 36 (hi := rfl) (k := ?_)
          refine WL.skip (d := 99) (k := ?_)
          refine WL.nil ?_
          refine WX.nxt KC ?_
          refine WA.quietS 37 (d := 100) KC (hi := rfl) (k := ?_)
          refine WA.quiet 38 (d := 101) (.bool false) KC (hi := rfl) (k := ?_)
          refine WA.step 39 (hi := rfl) (k := ?_)
          refine WL.op (d := 6) (.bool false) (k := ?_)
          refine WL.nil ?_
          refine WX.nxtL ?_
          refine WA.done (k := ?_)
          clear KC
          refine WX.seqN ?_
          refine WC.ret ?_
          refine WX.ret (rs := [.tmp 6]) [.bool false] (.bool false) ⟨(by kernel_rfl), trivial⟩ (k := ?_)
          exfalso; first | omega | (simp at *; omega)
      · have ph115 := ne_of_beq_false h115
        refine WA.rw (t := 78) (v := .bool false) (congrArg Value.bool h115) (k := ?_)
        refine WA.quietS 16 (d := 79) KC (hi := rfl) (k := ?_)
        refine WA.quietS 17 (d := 80) KC (hi := rfl) (k := ?_)
        refine WA.quiet 18 (d := 81) (.bool false) KC (hi := rfl) (k := ?_)
        refine WA.quiet 19 (d := 82) (.bool false) KC (hi := rfl) (k := ?_)
        refine WA.quietS 20 (d := 83) KC (hi := rfl) (k := ?_)
        refine WA.quietS 21 (d := 84) KC (hi := rfl) (k := ?_)
        refine WA.quiet 22 (d := 85) (.bool false) KC (hi := rfl) (k := ?_)
        refine WA.quiet 23 (d := 86) (.bool false) KC (hi := rfl) (k := ?_)
        refine WA.quietS 24 (d := 87) KC (hi := rfl) (k := ?_)
        refine WA.quietS 25 (d := 88) KC (hi := rfl) (k := ?_)
        refine WA.quietS 26 (d := 89) KC (hi := rfl) (k := ?_)
        refine WA.quietS 27 (d := 90) KC (hi := rfl) (k := ?_)
        refine WA.quietS 28 (d := 91) KC (hi := rfl) (k := ?_)
        refine WA.quiet 29 (d := 92) (.bool false) KC (hi := rfl) (k := ?_)
        refine WA.quiet 30 (d := 93) (.bool false) KC (hi := rfl) (k := ?_)
        refine WA.quietS 31 (d := 94) KC (hi := rfl) (k := ?_)
        refine WA.quietS 32 (d := 95) KC (hi := rfl) (k := ?_)
        refine WA.quietS 33 (d := 96) KC (hi := rfl) (k := ?_)
        refine WA.quietS 34 (d := 97) KC (hi := rfl) (k := ?_)
        refine WA.quietS 35 (d := 98) KC (hi := rfl) (k := ?_)
        refine WA.step 36 (hi := rfl) (k := ?_)
        refine WL.skip (d := 99) (k := ?_)
        refine WL.nil ?_
        refine WX.nxt KC ?_
        refine WA.quietS 37 (d := 100) KC (hi := rfl) (k := ?_)
        refine WA.quiet 38 (d := 101) (.bool false) KC (hi := rfl) (k := ?_)
        refine WA.step 39 (hi := rfl) (k := ?_)
        refine WL.op (d := 6) (.bool false) (k := ?_)
        refine WL.nil ?_
        refine WX.nxtL ?_
        refine WA.done (k := ?_)
        clear KC
        refine WX.seqN ?_
        refine WC.ret ?_
        refine WX.ret (rs := [.tmp 6]) [.bool false] (.bool false) ⟨(by kernel_rfl), trivial⟩ (k := ?_)
        exfalso; first | omega | (simp at *; omega)
    · have ph56 := of_decide_eq_false h56
      refine WL.callG (d := 46) (f := 11) (args := #[.pointer (some ⟨b15, 0, none⟩), .string ⟨(List.take 43 a).toArray⟩]) (wlAppend_full (l := List.take 43 a) hb34 hd51 n33 (by show List.length (List.take 43 a) ≤ 43; first | omega | (simp; done) | (simp; omega)) (by omega)) (k := fun e_ w126 h_ => ⟨.int .i64 22, h_.1, ?_⟩)
      have k127 := h_.2; clear h_
      replace hd51 := hd51.adds k127
      replace hb34 := k127.heap hb34 id
      replace K := K.trans (k127.any _)
      refine WL.op (d := 12) (.int .i64 22) (k := ?_)
      refine WL.nil ?_
      refine WX.seqN ?_
      refine WC.seq ?_
      refine WC.region ?_
      refine WL.op (d := 47) (.pointer (some ⟨b4, 0, none⟩)) (k := ?_)
      refine WL.callG (d := 48) (f := 14) (args := #[.pointer (some ⟨b4, 0, none⟩), .slice none 0 0]) (dCrash_c (fs := []) (cf := 0) hd51 SlAt.nil (fun h => absurd rfl h) (by simp)) (k := fun e_ w128 h_ => ?_)
      obtain ⟨rfl, S129, hd131, lk130, k132⟩ := h_
      refine ⟨_, rfl, ?_⟩
      have n133 : ¬ S129 b15 := fun h => (lk130 _ h).elim n33 (fun h2 => absurd (lt_of_heap hb34) (Nat.not_lt.2 h2))
      have lk134 := lk_step lk32 lk130 K
      replace hb34 := k132.heap hb34 n33
      replace K := K.trans' k132 (fun i hi e => (lk32 i e).elim (fun h => h.elim) (fun h => absurd hi (Nat.not_lt.2 h)))
      clear hd51
      change DiskAt S129 b4 (⟨sc, [], 0, 0⟩ : GDisk) w128 at hd131
      refine WL.nil ?_
      refine WX.seqN ?_
      refine WC.seq ?_
      refine WC.region ?_
      refine WL.op (d := 50) (.pointer (some ⟨b15, 0, none⟩)) (k := ?_)
      obtain ⟨r135, hs136⟩ := LayE.scan hl (by decide) (by omega) 0
      refine WL.callG (d := 51) (f := 15) (args := #[.pointer (some ⟨b15, 0, none⟩), .int .u64 3]) (wlScan_good (e := 3) (xs := xs) hb34 hd131 n133 (by decide) (by decide) (by decide) (by omega) (by omega) hs136) (k := fun e_ w137 h_ => ?_)
      obtain ⟨A138, c139, rfl, hb140, ho141, ol142, hd143, n144, k145⟩ := h_
      refine ⟨_, rfl, ?_⟩
      have ol146 := fun i h => Nat.le_trans K.size (ol142 i h)
      replace K := K.trans' k145 (fun i hi e => e.elim (fun e => absurd (e ▸ hi) (Nat.not_lt.2 z19)) (fun e => (lk134 i e).elim (fun h => h.elim) (fun h => absurd hi (Nat.not_lt.2 h))))
      clear hb34 hd131 ol142
      refine WL.op (d := 49) (.tuple #[.slice A138 (List.length xs) c139, .int .i64 0]) (k := ?_)
      refine WL.op (d := 52) (.slice A138 (List.length xs) c139) (k := ?_)
      refine WL.op (d := 53) (.int .i64 0) (k := ?_)
      refine WL.op (d := 13) (.slice A138 (List.length xs) c139) (k := ?_)
      refine WL.op (d := 14) (.int .i64 0) (k := ?_)
      refine WL.nil ?_
      refine WX.seqN ?_
      refine WC.seq ?_
      refine WC.region ?_
      refine WL.op (d := 54) (.pointer (some ⟨b15, 0, none⟩)) (k := ?_)
      refine WL.op (d := 55) (.string ⟨(b_).toArray⟩) (k := ?_)
      refine WL.callG (d := 56) (f := 13) (args := #[.string ⟨(b_).toArray⟩, .int .i64 43]) (l07short_t b_ 43 (by omega) (by omega) w137) (k := fun e_ w148 h_ => ⟨.string ⟨(List.take 43 b_).toArray⟩, h_.1, ?_⟩)
      have k149 := h_.2; clear h_
      replace hd143 := hd143.adds k149
      replace hb140 := k149.heap hb140 id
      replace ho141 := ho141.adds k149
      replace K := K.trans (k149.any _)
      have tl147 : (List.take 43 b_).length ≤ 43 := by simp; omega
      refine WL.callG (d := 57) (f := 11) (args := #[.pointer (some ⟨b15, 0, none⟩), .string ⟨(List.take 43 b_).toArray⟩]) (wlAppend_full (l := List.take 43 b_) hb140 hd143 n133 (by show List.length (List.take 43 b_) ≤ 43; first | omega | (simp; done) | (simp; omega)) (by omega)) (k := fun e_ w150 h_ => ⟨.int .i64 22, h_.1, ?_⟩)
      have k151 := h_.2; clear h_
      replace hd143 := hd143.adds k151
      replace hb140 := k151.heap hb140 id
      replace ho141 := ho141.adds k151
      replace K := K.trans (k151.any _)
      refine WL.op (d := 15) (.int .i64 22) (k := ?_)
      refine WL.nil ?_
      refine WX.seqN ?_
      refine WC.seq ?_
      refine WC.region ?_
      refine WL.op (d := 59) (.pointer (some ⟨b15, 0, none⟩)) (k := ?_)
      obtain ⟨r152, hs153⟩ := LayE.scan hl (by decide) (by omega) r135
      refine WL.callG (d := 60) (f := 15) (args := #[.pointer (some ⟨b15, 0, none⟩), .int .u64 3]) (wlScan_good (e := 3) (xs := xs) hb140 hd143 n133 (by decide) (by decide) (by decide) (by omega) (by omega) hs153) (k := fun e_ w154 h_ => ?_)
      obtain ⟨A155, c156, rfl, hb157, ho158, ol159, hd160, n161, k162⟩ := h_
      refine ⟨_, rfl, ?_⟩
      have ol163 := fun i h => Nat.le_trans K.size (ol159 i h)
      replace K := K.trans' k162 (fun i hi e => e.elim (fun e => absurd (e ▸ hi) (Nat.not_lt.2 z19)) (fun e => (lk134 i e).elim (fun h => h.elim) (fun h => absurd hi (Nat.not_lt.2 h))))
      replace ho141 := ho141.keeps k162 (fun i hi h => h.elim (fun h => (ho141.offT hb140 (by decide)) (h ▸ hi)) (n144 i hi))
      clear hb140 hd143 ol159
      refine WL.op (d := 58) (.tuple #[.slice A155 (List.length xs) c156, .int .i64 0]) (k := ?_)
      refine WL.op (d := 61) (.slice A155 (List.length xs) c156) (k := ?_)
      refine WL.op (d := 62) (.int .i64 0) (k := ?_)
      refine WL.op (d := 16) (.slice A155 (List.length xs) c156) (k := ?_)
      refine WL.op (d := 17) (.int .i64 0) (k := ?_)
      refine WL.nil ?_
      refine WX.seqN ?_
      refine WC.seq ?_
      refine WC.mixed (fun _ => False) 39 (k := fun w164 k165 => ?_)
      replace hd160 := hd160.adds k165
      replace hb157 := k165.heap hb157 id
      replace ho141 := ho141.adds k165
      replace ho158 := ho158.adds k165
      replace K := K.trans (k165.any _)
      have KC := Keeps.refl (fun _ => False) w164
      have bh166 := hb157
      have Kb := K
      refine WA.quiet 0 (d := 63) (.bool true) KC (hi := rfl) (k := ?_)
      refine WA.quiet 1 (d := 64) (.bool true) KC (hi := rfl) (k := ?_)
      refine WA.quiet 2 (d := 65) (.int .i64 22) KC (hi := rfl) (k := ?_)
      refine WA.quiet 3 (d := 66) (.bool false) KC (hi := rfl) (k := ?_)
      refine WA.quiet 4 (d := 67) (.bool false) KC (hi := rfl) (k := ?_)
      refine WA.quiet 5 (d := 68) (.bool false) KC (hi := rfl) (k := ?_)
      refine WA.quietS 6 (d := 69) KC (hi := rfl) (k := ?_)
      refine WA.quietS 7 (d := 70) KC (hi := rfl) (k := ?_)
      refine WA.quiet 8 (d := 71) (.bool false) KC (hi := rfl) (k := ?_)
      refine WA.quiet 9 (d := 72) (.bool false) KC (hi := rfl) (k := ?_)
      refine WA.quietS 10 (d := 73) KC (hi := rfl) (k := ?_)
      refine WA.quietS 11 (d := 74) KC (hi := rfl) (k := ?_)
      refine WA.quietS 12 (d := 75) KC (hi := rfl) (k := ?_)
      refine WA.quietS 13 (d := 76) KC (hi := rfl) (k := ?_)
      refine WA.quiet 14 (d := 77) (.bool false) KC (hi := rfl) (k := ?_)
      refine WA.quiet 15 (d := 78) (.bool false) KC (hi := rfl) (k := ?_)
      refine WA.quietS 16 (d := 79) KC (hi := rfl) (k := ?_)
      refine WA.quietS 17 (d := 80) KC (hi := rfl) (k := ?_)
      refine WA.quiet 18 (d := 81) (.bool false) KC (hi := rfl) (k := ?_)
      refine WA.quiet 19 (d := 82) (.bool false) KC (hi := rfl) (k := ?_)
      refine WA.quietS 20 (d := 83) KC (hi := rfl) (k := ?_)
      refine WA.quietS 21 (d := 84) KC (hi := rfl) (k := ?_)
      refine WA.quiet 22 (d := 85) (.bool false) KC (hi := rfl) (k := ?_)
      refine WA.quiet 23 (d := 86) (.bool false) KC (hi := rfl) (k := ?_)
      refine WA.quietS 24 (d := 87) KC (hi := rfl) (k := ?_)
      refine WA.quietS 25 (d := 88) KC (hi := rfl) (k := ?_)
      refine WA.quietS 26 (d := 89) KC (hi := rfl) (k := ?_)
      refine WA.quietS 27 (d := 90) KC (hi := rfl) (k := ?_)
      refine WA.quietS 28 (d := 91) KC (hi := rfl) (k := ?_)
      refine WA.quiet 29 (d := 92) (.bool false) KC (hi := rfl) (k := ?_)
      refine WA.quiet 30 (d := 93) (.bool false) KC (hi := rfl) (k := ?_)
      refine WA.quietS 31 (d := 94) KC (hi := rfl) (k := ?_)
      refine WA.quietS 32 (d := 95) KC (hi := rfl) (k := ?_)
      refine WA.quietS 33 (d := 96) KC (hi := rfl) (k := ?_)
      refine WA.quietS 34 (d := 97) KC (hi := rfl) (k := ?_)
      refine WA.quietS 35 (d := 98) KC (hi := rfl) (k := ?_)
      refine WA.step 36 (hi := rfl) (k := ?_)
      refine WL.skip (d := 99) (k := ?_)
      refine WL.nil ?_
      refine WX.nxt KC ?_
      refine WA.quietS 37 (d := 100) KC (hi := rfl) (k := ?_)
      refine WA.quiet 38 (d := 101) (.bool false) KC (hi := rfl) (k := ?_)
      refine WA.step 39 (hi := rfl) (k := ?_)
      refine WL.op (d := 6) (.bool false) (k := ?_)
      refine WL.nil ?_
      refine WX.nxtL ?_
      refine WA.done (k := ?_)
      clear KC
      refine WX.seqN ?_
      refine WC.ret ?_
      refine WX.ret (rs := [.tmp 6]) [.bool false] (.bool false) ⟨(by kernel_rfl), trivial⟩ (k := ?_)
      exfalso; first | omega | (simp at *; omega)

end Go.Proofs.YtdoenmokahbeaaaGreatDoor

/- An Append and a crash, whatever fails. -/
namespace Go.Proofs.YtdoenmokahbeaaaGreatDoor
open Go.RowKit
set_option linter.unusedVariables false
set_option linter.unusedSimpArgs false

/-- what a log has behind an Append that told E, and a crash -/
def SafeTo (xs : List (List UInt8)) (l : List UInt8) (ys : List (List UInt8)) (E : Int) : Prop :=
  (E = 0 ∧ ys = xs ++ [l] ∧ xs.length < 8) ∨ (E = 18 ∧ xs.length < 8 ∧ (ys = xs ∨ ys = xs ++ [l])) ∨ (E = 22 ∧ xs.length = 8 ∧ ys = xs)
section
variable {xs ys : List (List UInt8)} {l : List UInt8} {E : Int}
theorem SafeTo.len (h : SafeTo xs l ys E) : (E = 0 ∧ ys.length = xs.length + 1 ∧ xs.length < 8) ∨ (E = 18 ∧ xs.length < 8 ∧ (ys.length = xs.length ∨ ys.length = xs.length + 1)) ∨ (E = 22 ∧ xs.length = 8 ∧ ys.length = xs.length) := by
  rcases h with ⟨h1, h2, h3⟩ | ⟨h1, h2, h3⟩ | ⟨h1, h2, h3⟩
  · subst h2; exact .inl ⟨h1, by simp, h3⟩
  · refine .inr (.inl ⟨h1, h2, ?_⟩)
    rcases h3 with rfl | rfl
    · exact .inl rfl
    · exact .inr (by simp)
  · subst h3; exact .inr (.inr ⟨h1, h2, rfl⟩)
theorem SafeTo.eq (h : SafeTo xs l ys E) : ys = xs ∨ ys = xs ++ [l] := by
  rcases h with ⟨_, h2, _⟩ | ⟨_, _, h3⟩ | ⟨_, _, h3⟩
  · exact .inr h2
  · exact h3
  · exact .inl h3
theorem SafeTo.take (h : SafeTo xs l ys E) : List.take xs.length ys = xs := by
  rcases h.eq with rfl | rfl
  · simp
  · simp
theorem SafeTo.cat (h : SafeTo xs l ys E) : [] ++ xs ++ List.drop xs.length ys = ys := by
  rcases h.eq with rfl | rfl
  · simp
  · simp
theorem SafeTo.last (h : SafeTo xs l ys E) {r : List UInt8} {i : Int} (hi : i = (xs.length : Int)) (hr : ys[i.toNat]? = some r) : r = l := by
  rcases h.eq with rfl | rfl
  · have := (List.getElem?_eq_some_iff.1 hr).1
    omega
  · exact lastOf hi hr
end
theorem wlApp_any {S : Nat → Prop} {b dk : Nat} {sc xs : List (List UInt8)} {rd f : Int} {e : Nat} {w : World} {l : List UInt8} (hb : LgK b dk 8 (opnV e (xs.length : Int)) w) (hd : DiskAt S dk ⟨sc, [], f, rd⟩ w) (hnb : ¬ S b) (lay : LayE 8 e sc xs) (hl : l.length ≤ 43) (he : e < 18446744073709551616) :
    Calls Tryz.prog 11 #[.pointer (some ⟨b, 0, none⟩), .string ⟨l.toArray⟩] w fun e_ w' => ∃ S' E stv d', e_ = .returned (.int .i64 E) ∧ LgK b dk 8 stv w' ∧ DiskAt S' dk d' w' ∧ (∀ k, S' k → S k ∨ w.heap.size ≤ k) ∧ ¬ S' b ∧ Keeps (fun k => k = b ∨ S k) w w' ∧
      (∀ fs, ∃ ys sc', GDisk.crashD d' fs = ⟨sc', [], 0, 0⟩ ∧ LayE 8 e sc' ys ∧ SafeTo xs l ys E) := by
  have hlen : (8 : Int) = (sc.length : Int) := by rw [lay.len]; rfl
  have hcnt := lay.cnt
  by_cases h8 : xs.length < 8
  · by_cases f1 : f = 1
    · subst f1
      refine (wlApp_f1 hb hd hnb hl (by omega) (by omega) he (by omega) hlen).mono ?_
      rintro e_ w' ⟨S', g1, g2, g3, g4, g5, g6⟩
      exact ⟨S', _, _, _, g1, g2, g3, g4, g5, g6, fun fs => ⟨xs, sc, rfl, lay, .inr (.inl ⟨rfl, h8, .inl rfl⟩)⟩⟩
    · by_cases f2 : f = 2
      · subst f2
        refine (wlApp_f2 hb hd hnb hl (by omega) (by omega) he (by omega) hlen).mono ?_
        rintro e_ w' ⟨S', g1, g2, g3, g4, g5, g6⟩
        rw [Int.zero_add, Int.toNat_natCast] at g3
        refine ⟨S', _, _, _, g1, g2, g3, g4, g5, g6, fun fs => ?_⟩
        have fr := fateF_rng fs 0
        rcases lay.mix hl h8 (by decide) he fr.1 fr.2 with hm | hm
        · exact ⟨xs ++ [l], _, rfl, hm, .inr (.inl ⟨rfl, h8, .inr rfl⟩)⟩
        · exact ⟨xs, _, rfl, hm, .inr (.inl ⟨rfl, h8, .inl rfl⟩)⟩
      · refine (wlApp_f0 f1 f2 hb hd hnb hl (by omega) (by omega) he (by omega) hlen).mono ?_
        rintro e_ w' ⟨S', g1, g2, g3, g4, g5, g6⟩
        rw [Int.toNat_natCast] at g3
        exact ⟨S', _, _, _, g1, g2, g3, g4, g5, g6, fun fs => ⟨xs ++ [l], _, rfl, lay.put hl h8, .inl ⟨rfl, rfl, h8⟩⟩⟩
  · refine (wlAppend_full hb hd hnb hl (by omega)).mono ?_
    rintro e_ w' ⟨g1, k⟩
    exact ⟨S, _, _, _, g1, k.heap hb id, hd.adds k, fun _ h => .inl h, hnb, k.any _, fun fs => ⟨xs, sc, rfl, lay, .inr (.inr ⟨rfl, by omega, rfl⟩)⟩⟩
theorem OwAt.cap_le {α : Type} {cl : α → List Value} {m : Nat} {E : TypeId} {A : Option Addr} {cap : Nat} {xs : List α} {w : World} (h : OwAt cl m E A cap xs w) : xs.length ≤ cap ∧ cap ≤ 9223372036854775807 := by
  rcases h.block with ⟨_, rfl, rfl⟩ | ⟨g, cur, _, _, h2, h3, _, _⟩
  · exact ⟨Nat.le_refl _, Nat.zero_le _⟩
  · exact ⟨h2, h3⟩
/-- two ways that come together again -/
theorem WC.seqJ {P : Program} {n : Md} {Q : Exit → Act → World → Prop} {fr : Fr} {w : World} {ι : Type} {x y : Code} (F : ι → Fr) (I : ι → Prop) (h : ∀ i, I i → WC P n Q y (F i) w) (hx : WC P n (Exit.then (fun a' w' => w' = w ∧ ∃ i, I i ∧ FrOk n (F i) a') Q) x fr w) : WC P n Q (.seq x y) fr w := fun a ha =>
  wpIn_seq (wpIn_mono (hx a ha) (fun e a' w' q => by
    cases e with
    | normal => obtain ⟨rfl, i, hi, hf⟩ := q; exact h i hi a' hf
    | _ => exact q))
theorem WX.joinN {n : Md} {Q : Exit → Act → World → Prop} {fr : Fr} {w : World} {ι : Type} {F : ι → Fr} {I : ι → Prop} (i : ι) (hi : I i) (hs : Sub (F i) fr) : WX n (Exit.then (fun a' w' => w' = w ∧ ∃ i, I i ∧ FrOk n (F i) a') Q) .normal fr w := fun a ha => ⟨rfl, i, hi, ha.sub hs⟩

end Go.Proofs.YtdoenmokahbeaaaGreatDoor
namespace Go.Proofs.YtdoenmokahbeaaaGreatDoor
open Go.RowKit
set_option linter.unusedVariables false
set_option linter.unusedSimpArgs false

set_option maxRecDepth 100000 in
set_option maxHeartbeats 4000000 in
theorem lWalSafe_c (ep : UInt8) {A : Option Addr} {ca : Nat} {tr : List GTry} {w : World} (hA : SlAt tryC 3 41 A tr w) (hTr : TriesOk tr w) (na : tr.length ≤ 9223372036854775807) : Calls Tryz.prog 4 #[.int .u8 (ep.toNat : Int), .slice A tr.length ca] w fun e w' => e = .returned (.bool true) ∧ Adds w w' := by
  have K : Keeps (fun _ => False) w w := Keeps.refl _ w
  have ub_ := u8_lt ep
  refine Calls.start Tryz.func4 rfl (by kernel_rfl) ?_
  refine WC.seq ?_
  refine WC.region ?_
  refine WL.op (d := 4) (.bool false) (k := ?_)
  refine WL.nil ?_
  refine WX.seqN ?_
  refine WC.seq ?_
  refine WC.region ?_
  refine WL.callG (d := 20) (f := 7) (args := #[]) (l07awake_c w) (k := fun e_ w1 h_ => ⟨.bool true, h_.1, ?_⟩)
  have k2 := h_.2; clear h_
  replace K := K.trans (k2.any _)
  refine WL.op (d := 5) (.bool true) (k := ?_)
  refine WL.nil ?_
  refine WX.seqN ?_
  refine WC.seq ?_
  refine WC.region ?_
  refine WL.callG (d := 21) (f := 8) (args := #[.int .i64 8]) (dNew_ok (n := 8) (by omega) (by omega) w1) (k := fun e_ w3 h_ => ?_)
  obtain ⟨b4, S5, rfl, g6, hd7, ho8, k9⟩ := h_
  refine ⟨_, rfl, ?_⟩
  have lk10 : ∀ k, S5 k → False ∨ w.heap.size ≤ k := fun k h => .inr (Nat.le_trans K.size (ho8 k h))
  have z11 := Nat.le_trans K.size g6
  replace K := K.trans (k9.any _)
  change DiskAt S5 b4 (⟨List.replicate 8 (List.replicate 64 (0 : UInt8)), [], 0, 0⟩ : GDisk) w3 at hd7
  have ln12 : (GDisk.secs (⟨List.replicate 8 (List.replicate 64 (0 : UInt8)), [], 0, 0⟩ : GDisk)).length = 8 := List.length_replicate
  refine WL.op (d := 6) (.pointer (some ⟨b4, 0, none⟩)) (k := ?_)
  refine WL.nil ?_
  refine WX.seqN ?_
  refine WC.seq ?_
  refine WC.region ?_
  refine WL.op (d := 22) (.int .u8 (ep.toNat : Int)) (k := ?_)
  refine WL.opE (d := 23) (.int .u64 (IntKind.u64.wrap (ep.toNat : Int))) (v := .int .u64 (ep.toNat : Int)) (congrArg (Value.int .u64) (IntWalk.u64_in _ (by omega))) (k := ?_)
  refine WL.op (d := 7) (.int .u64 (ep.toNat : Int)) (k := ?_)
  refine WL.nil ?_
  refine WX.seqN ?_
  refine WC.seqJ (ι := Nat) (fun (ne : Nat) => [(0, .int .u8 (ep.toNat : Int)), (1, .slice A tr.length ca), (4, .bool false), (20, .bool true), (5, .bool true), (21, .pointer (some ⟨b4, 0, none⟩)), (6, .pointer (some ⟨b4, 0, none⟩)), (22, .int .u8 (ep.toNat : Int)), (23, .int .u64 (ep.toNat : Int)), (7, .int .u64 ((ne : Nat) : Int))]) (fun (ne : Nat) => (1 ≤ ne) ∧ (ne < 256)) ?_ ?_
  · rintro ne ⟨ne1, ne2⟩
    refine WC.seq ?_
    refine WC.seq ?_
    refine WC.region ?_
    refine WL.op (d := 26) (.pointer (some ⟨b4, 0, none⟩)) (k := ?_)
    refine WL.op (d := 27) (.bool false) (k := ?_)
    refine WL.nil ?_
    refine WX.seqN ?_
    refine WC.condF (k := ?_)
    refine WC.skip ?_
    refine WX.seqN ?_
    refine WC.seq ?_
    refine WC.region ?_
    refine WL.op (d := 8) (.slice none 0 0) (k := ?_)
    refine WL.nil ?_
    refine WX.seqN ?_
    refine WC.seq ?_
    refine WC.seq ?_
    refine WC.region ?_
    refine WL.op (d := 9) (.int .i64 0) (k := ?_)
    refine WL.nil ?_
    refine WX.seqN ?_
    refine WC.block ?_
    have lay13 : LayE 8 ne (List.replicate 8 (List.replicate 64 (0 : UInt8))) [] := LayE.zero (n := 8) (by omega)
    refine WC.loop (ι := Int × (List (List UInt8)) × (Option Addr) × Nat × (List (List UInt8)) × Int × (Nat → Prop)) (fun (⟨i, xs, Ah, ch, sc, rd, Si⟩ : Int × (List (List UInt8)) × (Option Addr) × Nat × (List (List UInt8)) × Int × (Nat → Prop)) => [(0, .int .u8 (ep.toNat : Int)), (1, .slice A tr.length ca), (20, .bool true), (5, .bool true), (21, .pointer (some ⟨b4, 0, none⟩)), (6, .pointer (some ⟨b4, 0, none⟩)), (22, .int .u8 (ep.toNat : Int)), (23, .int .u64 (ep.toNat : Int)), (7, .int .u64 ((ne : Nat) : Int)), (26, .pointer (some ⟨b4, 0, none⟩)), (27, .bool false), (9, .int .i64 i), (8, .slice Ah xs.length ch)]) (fun (⟨i, xs, Ah, ch, sc, rd, Si⟩ : Int × (List (List UInt8)) × (Option Addr) × Nat × (List (List UInt8)) × Int × (Nat → Prop)) (w_ : World) => (Keeps (fun _ => False) w w_) ∧ (DiskAt Si b4 (⟨sc, [], 0, rd⟩ : GDisk) w_) ∧ (∀ k, Si k → (fun _ => False) k ∨ w.heap.size ≤ k) ∧ (∀ i, blk Ah = some i → ¬ Si i) ∧ (OwAt strC 1 9 Ah ch xs w_) ∧ (∀ i, blk Ah = some i → w.heap.size ≤ i) ∧ (0 ≤ i) ∧ (i ≤ 10) ∧ (LayE 8 ne sc xs)) (fun (⟨i, xs, Ah, ch, sc, rd, Si⟩ : Int × (List (List UInt8)) × (Option Addr) × Nat × (List (List UInt8)) × Int × (Nat → Prop)) => (10 - i).toNat) (0, [], none, 0, List.replicate 8 (List.replicate 64 (0 : UInt8)), 0, S5) ⟨(by kernel_rfl), (by kernel_rfl), (by kernel_rfl), (by kernel_rfl), (by kernel_rfl), (by kernel_rfl), (by kernel_rfl), (by kernel_rfl), (by kernel_rfl), (by kernel_rfl), (by kernel_rfl), (by kernel_rfl), (by kernel_rfl), trivial⟩ ⟨K, hd7, lk10, (fun i hi => by simp [blk] at hi), OwAt.nil, (by simp [blk]), Int.le_refl 0, (by decide), lay13⟩ ?_
    rintro ⟨i, xs, Ah, ch, sc, rd, Si⟩ w14 ⟨K, hb15, lk16, n17, hb18, ol19, i0, i1, hl⟩
    have hc_ := hl.cnt
    refine WC.seq ?_
    refine WC.seq ?_
    refine WC.region ?_
    refine WL.op (d := 28) (.int .i64 i) (k := ?_)
    refine WL.op (d := 29) (.slice A tr.length ca) (k := ?_)
    refine WL.op (d := 30) (.int .i64 (tr.length : Int)) (k := ?_)
    refine WL.op (d := 31) (.bool (decide (i < (tr.length : Int)))) (k := ?_)
    refine WL.op (d := 32) (.bool (decide (i < (tr.length : Int)))) (k := ?_)
    refine bsplit (decide (i < (tr.length : Int))) (fun h20 => ?_) (fun h20 => ?_)
    · have ph20 := of_decide_eq_true h20
      refine WL.rw (t := 32) (v := .bool true) (congrArg Value.bool h20) (k := ?_)
      refine WL.op (d := 33) (.int .i64 i) (k := ?_)
      refine WL.op (d := 34) (.bool (decide (i < 10))) (k := ?_)
      refine WL.op (d := 35) (.bool (decide (i < 10))) (k := ?_)
      refine WL.nil ?_
      refine WX.seqN ?_
      refine WC.cond (b := decide (i < 10)) (ht := fun h21 => ?_) (hf := fun h21 => ?_)
      · have ph21 := of_decide_eq_true h21
        refine WC.skip ?_
        refine WX.seqN ?_
        refine WC.seq ?_
        refine WC.block ?_
        refine WC.seq ?_
        refine WC.region ?_
        refine WL.op (d := 38) (.slice A tr.length ca) (k := ?_)
        refine WL.op (d := 39) (.int .i64 i) (k := ?_)
        obtain ⟨b22, o23, r24, hr25, hA26, he27⟩ := SlAt.at hA (i := i) (by omega) (by omega)
        refine WL.rw (t := 38) (v := .slice (some ⟨b22, o23, none⟩) tr.length ca) (congrArg (fun a => Value.slice a tr.length ca) hA26) (k := ?_)
        obtain ⟨ht28, hf29, hl30⟩ := hTr _ (List.mem_of_getElem? hr25)
        refine WL.idx (T := 38) (E := 41) (m := 3) (b := b22) (o := o23) (len := tr.length) (cap := ca) (i := i) (kk := .i64) (d := 40) (by omega) (by omega) (k := ?_)
        refine WL.rw (t := 38) (v := .slice A tr.length ca) (congrArg (fun a => Value.slice a tr.length ca) (Eq.symm hA26)) (k := ?_)
        refine WL.load (v := .agg #[.string ⟨(r24.t).toArray⟩, .int .i64 r24.f, .slice r24.A r24.fs.length r24.c]) ((he27.adds K).ldW (T := 41)) (k := ?_)
        refine WL.new (d := 10) (T := 41) #[.string ⟨#[]⟩, .int .i64 0, .slice none 0 0] (k := fun b31 w32 g33 hb34 k35 => ?_)
        have z36 := Nat.le_trans K.size g33
        have n37 : ¬ Si b31 := fun h => absurd (hb15.lt _ h) (Nat.not_lt.2 g33)
        have n38 := OwAt.off_new hb18 g33
        replace hb15 := hb15.adds k35
        replace hb18 := hb18.adds k35
        replace K := K.trans (k35.any _)
        refine WL.store (v := .agg #[.string ⟨(r24.t).toArray⟩, .int .i64 r24.f, .slice r24.A r24.fs.length r24.c]) (i := 0) (cs' := #[.string ⟨(r24.t).toArray⟩, .int .i64 r24.f, .slice r24.A r24.fs.length r24.c]) hb34 (k := fun w39 hb40 k41 => ?_)
        replace hb15 := hb15.keeps k41 (fun i hi e => n37 (e ▸ hi))
        replace hb18 := hb18.keeps k41 (fun i hi e => (n38) (e ▸ hi))
        replace K := K.trans' k41 (fun i hi e => absurd (e ▸ hi) (Nat.not_lt.2 z36))
        clear hb34
        refine WL.nil ?_
        refine WX.seqN ?_
        refine WC.seq ?_
        refine WC.region ?_
        refine WL.op (d := 42) (.pointer (some ⟨b4, 0, none⟩)) (k := ?_)
        refine WL.callG (d := 43) (f := 9) (args := #[.pointer (some ⟨b4, 0, none⟩), .int .i64 0, .int .i64 8]) (wlNew_ok (at_ := 0) (n := 8) hb15 (by omega) (by omega) ⟨by decide, by decide, by show (0 : Int) ≤ ((sc).length : Int) - 8; rw [hl.len]; decide⟩) (k := fun e_ w42 h_ => ?_)
        obtain ⟨b43, rfl, g44, hb45, k46⟩ := h_
        refine ⟨_, rfl, ?_⟩
        have z47 := Nat.le_trans K.size g44
        have n48 : ¬ Si b43 := fun h => absurd (hb15.lt _ h) (Nat.not_lt.2 g44)
        have n49 := OwAt.off_new hb18 g44
        have n50 : b31 ≠ b43 := Nat.ne_of_lt (Nat.lt_of_lt_of_le (lt_of_heap hb40) g44)
        replace hb15 := hb15.adds k46
        replace hb18 := hb18.adds k46
        replace hb40 := k46.heap hb40 id
        replace K := K.trans (k46.any _)
        refine WL.op (d := 11) (.pointer (some ⟨b43, 0, none⟩)) (k := ?_)
        refine WL.nil ?_
        refine WX.seqN ?_
        refine WC.seq ?_
        refine WC.seq ?_
        refine WC.region ?_
        refine WL.op (d := 44) (.pointer (some ⟨b43, 0, none⟩)) (k := ?_)
        refine WL.op (d := 45) (.bool false) (k := ?_)
        refine WL.nil ?_
        refine WX.seqN ?_
        refine WC.condF (k := ?_)
        refine WC.skip ?_
        refine WX.seqN ?_
        refine WC.seq ?_
        refine WC.region ?_
        refine WL.op (d := 47) (.pointer (some ⟨b43, 0, none⟩)) (k := ?_)
        refine WL.op (d := 48) (.int .u64 ((ne : Nat) : Int)) (k := ?_)
        obtain ⟨r51, hs52⟩ := LayE.scan hl (by decide) (by omega) rd
        refine WL.callG (d := 49) (f := 15) (args := #[.pointer (some ⟨b43, 0, none⟩), .int .u64 ((ne : Nat) : Int)]) (wlScan_good (e := ne) (xs := xs) hb45 hb15 n48 (by decide) (by decide) (by decide) (by omega) (by omega) hs52) (k := fun e_ w53 h_ => ?_)
        obtain ⟨A54, c55, rfl, hb56, ho57, ol58, hd59, n60, k61⟩ := h_
        refine ⟨_, rfl, ?_⟩
        have ol62 := fun i h => Nat.le_trans K.size (ol58 i h)
        replace K := K.trans' k61 (fun i hi e => e.elim (fun e => absurd (e ▸ hi) (Nat.not_lt.2 z47)) (fun e => (lk16 i e).elim (fun h => h.elim) (fun h => absurd hi (Nat.not_lt.2 h))))
        replace hb18 := hb18.keeps k61 (fun i hi h => h.elim (fun h => (n49) (h ▸ hi)) (n17 i hi))
        replace hb40 := k61.heap hb40 (not_or.2 ⟨n50, n37⟩)
        clear hb45 hb15 ol58
        refine WL.op (d := 46) (.tuple #[.slice A54 (List.length xs) c55, .int .i64 0]) (k := ?_)
        refine WL.op (d := 50) (.slice A54 (List.length xs) c55) (k := ?_)
        refine WL.op (d := 51) (.int .i64 0) (k := ?_)
        refine WL.op (d := 12) (.slice A54 (List.length xs) c55) (k := ?_)
        refine WL.op (d := 13) (.int .i64 0) (k := ?_)
        refine WL.nil ?_
        refine WX.seqN ?_
        refine WC.seq ?_
        refine WC.region ?_
        refine WL.op (d := 52) (.slice A54 (List.length xs) c55) (k := ?_)
        refine WL.op (d := 53) (.slice Ah xs.length ch) (k := ?_)
        have h63 : (decide (xs = xs)) = true := decide_eq_true (by first | rfl | simp)
        have ph63 := of_decide_eq_true h63
        refine WL.callG (d := 54) (f := 16) (args := #[.slice A54 (List.length xs) c55, .slice Ah xs.length ch]) (u04Same_c (xs := xs) (ys := xs) (cp := c55) (cq := ch) (ho57.sl ekStr) (hb18.sl ekStr) (by first | omega | (simp; omega)) (by first | omega | (simp; omega))) (k := fun e_ w64 h_ => ⟨.bool (decide (xs = xs)), h_.1, ?_⟩)
        have k65 := h_.2; clear h_
        replace hd59 := hd59.adds k65
        replace hb18 := hb18.adds k65
        replace hb40 := k65.heap hb40 id
        replace hb56 := k65.heap hb56 id
        replace ho57 := ho57.adds k65
        replace K := K.trans (k65.any _)
        refine WL.op (d := 14) (.bool (decide (xs = xs))) (k := ?_)
        refine WL.nil ?_
        refine WX.seqN ?_
        refine WC.seq ?_
        refine WC.seq ?_
        refine WC.region ?_
        refine WL.op (d := 55) (.int .i64 0) (k := ?_)
        refine WL.op (d := 56) (.bool false) (k := ?_)
        refine WL.op (d := 57) (.bool false) (k := ?_)
        refine WL.op (d := 58) (.bool (decide (xs = xs))) (k := ?_)
        refine WL.op (d := 59) (.bool (!(decide (xs = xs)))) (k := ?_)
        refine WL.op (d := 60) (.bool (!(decide (xs = xs)))) (k := ?_)
        refine WL.op (d := 61) (.bool (!(decide (xs = xs)))) (k := ?_)
        refine WL.rw (t := 61) (v := .bool false) (congrArg Value.bool (congrArg Bool.not h63)) (k := ?_)
        refine WL.op (d := 62) (.pointer (some ⟨b43, 0, none⟩)) (k := ?_)
        refine WL.callG (d := 63) (f := 17) (args := #[.pointer (some ⟨b43, 0, none⟩)]) (wlLen_open (e := ne) (r := (List.length xs : Int)) hb56) (k := fun e_ w66 h_ => ⟨.int .i64 (List.length xs : Int), h_.1, ?_⟩)
        have k67 := h_.2; clear h_
        replace hd59 := hd59.adds k67
        replace hb18 := hb18.adds k67
        replace hb40 := k67.heap hb40 id
        replace hb56 := k67.heap hb56 id
        replace ho57 := ho57.adds k67
        replace K := K.trans (k67.any _)
        refine WL.op (d := 64) (.slice Ah xs.length ch) (k := ?_)
        refine WL.op (d := 65) (.int .i64 (xs.length : Int)) (k := ?_)
        refine WL.op (d := 66) (.bool ((List.length xs : Int) != (xs.length : Int))) (k := ?_)
        refine WL.op (d := 67) (.bool ((List.length xs : Int) != (xs.length : Int))) (k := ?_)
        refine WL.op (d := 68) (.bool ((List.length xs : Int) != (xs.length : Int))) (k := ?_)
        refine bsplit ((List.length xs : Int) != (xs.length : Int)) (fun h68 => ?_) (fun h68 => ?_)
        · have ph68 := bne_iff_ne.1 h68
          refine WL.rw (t := 68) (v := .bool true) (congrArg Value.bool h68) (k := ?_)
          refine WL.skip (d := 69) (k := ?_)
          refine WL.skip (d := 70) (k := ?_)
          refine WL.skip (d := 71) (k := ?_)
          refine WL.skip (d := 72) (k := ?_)
          refine WL.skip (d := 73) (k := ?_)
          refine WL.skip (d := 74) (k := ?_)
          refine WL.op (d := 75) (.bool true) (k := ?_)
          refine WL.nil ?_
          refine WX.seqN ?_
          refine WC.condT (k := ?_)
          refine WC.seq ?_
          refine WC.region ?_
          refine WL.op (d := 4) (.bool false) (k := ?_)
          refine WL.nil ?_
          refine WX.seqN ?_
          refine WC.ret ?_
          refine WX.seqR ?_
          refine WX.blockR ?_
          refine WX.seqR ?_
          refine WX.seqR ?_
          refine WX.blockR ?_
          refine WX.seqR ?_
          refine WX.ret (rs := [.tmp 4]) [.bool false] (.bool false) ⟨(by kernel_rfl), trivial⟩ (k := ?_)
          exfalso; omega
        · have ph68 := of_bne_false h68
          refine WL.rw (t := 68) (v := .bool false) (congrArg Value.bool h68) (k := ?_)
          refine WL.op (d := 69) (.pointer (some ⟨b43, 0, none⟩)) (k := ?_)
          refine WL.callG (d := 70) (f := 18) (args := #[.pointer (some ⟨b43, 0, none⟩)]) (wlLeft_open (e := ne) (r := (List.length xs : Int)) hb56 (by omega) (by omega)) (k := fun e_ w69 h_ => ⟨.int .i64 (8 - (List.length xs : Int)), h_.1, ?_⟩)
          have k70 := h_.2; clear h_
          replace hd59 := hd59.adds k70
          replace hb18 := hb18.adds k70
          replace hb40 := k70.heap hb40 id
          replace hb56 := k70.heap hb56 id
          replace ho57 := ho57.adds k70
          replace K := K.trans (k70.any _)
          refine WL.op (d := 71) (.slice Ah xs.length ch) (k := ?_)
          refine WL.op (d := 72) (.int .i64 (xs.length : Int)) (k := ?_)
          refine WL.opE (d := 73) (.int .i64 (IntKind.i64.wrap (8 - (xs.length : Int)))) (v := .int .i64 (8 - (xs.length : Int))) (congrArg (Value.int .i64) (IntWalk.i64_in _ (by omega))) (k := ?_)
          refine WL.op (d := 74) (.bool ((8 - (List.length xs : Int)) != (8 - (xs.length : Int)))) (k := ?_)
          refine WL.op (d := 75) (.bool ((8 - (List.length xs : Int)) != (8 - (xs.length : Int)))) (k := ?_)
          refine WL.nil ?_
          refine WX.seqN ?_
          refine WC.cond (b := (8 - (List.length xs : Int)) != (8 - (xs.length : Int))) (ht := fun h71 => ?_) (hf := fun h71 => ?_)
          · have ph71 := bne_iff_ne.1 h71
            refine WC.seq ?_
            refine WC.region ?_
            refine WL.op (d := 4) (.bool false) (k := ?_)
            refine WL.nil ?_
            refine WX.seqN ?_
            refine WC.ret ?_
            refine WX.seqR ?_
            refine WX.blockR ?_
            refine WX.seqR ?_
            refine WX.seqR ?_
            refine WX.blockR ?_
            refine WX.seqR ?_
            refine WX.ret (rs := [.tmp 4]) [.bool false] (.bool false) ⟨(by kernel_rfl), trivial⟩ (k := ?_)
            exfalso; omega
          · have ph71 := of_bne_false h71
            refine WC.skip ?_
            refine WX.seqN ?_
            refine WC.seq ?_
            refine WC.region ?_
            refine WL.op (d := 76) (.pointer (some ⟨b31, 0, none⟩)) (k := ?_)
            refine WL.load (v := .string ⟨(r24.t).toArray⟩) (ld1 (T := 9) (i := 0) hb40) (k := ?_)
            refine WL.callG (d := 78) (f := 13) (args := #[.string ⟨(r24.t).toArray⟩, .int .i64 43]) (l07short_t r24.t 43 (by omega) (by omega) w69) (k := fun e_ w73 h_ => ⟨.string ⟨(List.take 43 r24.t).toArray⟩, h_.1, ?_⟩)
            have k74 := h_.2; clear h_
            replace hd59 := hd59.adds k74
            replace hb18 := hb18.adds k74
            replace hb40 := k74.heap hb40 id
            replace hb56 := k74.heap hb56 id
            replace ho57 := ho57.adds k74
            replace K := K.trans (k74.any _)
            have tl72 : (List.take 43 r24.t).length ≤ 43 := by simp; omega
            refine WL.op (d := 15) (.string ⟨(List.take 43 r24.t).toArray⟩) (k := ?_)
            refine WL.nil ?_
            refine WX.seqN ?_
            refine WC.seq ?_
            refine WC.region ?_
            refine WL.op (d := 79) (.pointer (some ⟨b4, 0, none⟩)) (k := ?_)
            refine WL.op (d := 80) (.pointer (some ⟨b31, 1, none⟩)) (k := ?_)
            refine WL.load (v := .int .i64 r24.f) (ld1 (T := 3) (i := 1) hb40) (k := ?_)
            refine WL.bin (d := 82) (v := .int .i64 (bits BinOp.and IntKind.i64 r24.f 3)) (bits_run (by decide)) (k := ?_)
            obtain ⟨an75, ha76⟩ : ∃ q : Int, bits BinOp.and IntKind.i64 r24.f 3 = q := ⟨_, rfl⟩
            have ar77 := and3_eq (x := r24.f)
            rw [ha76] at ar77
            refine WL.rw (t := 82) (v := .int .i64 an75) (congrArg (Value.int .i64) ha76) (k := ?_)
            refine WL.callG (d := 83) (f := 12) (args := #[.pointer (some ⟨b4, 0, none⟩), .int .i64 an75]) (dFail_at (f := an75) hd59 (by omega) (by omega)) (k := fun e_ w78 h_ => ?_)
            obtain ⟨rfl, hd79, k80⟩ := h_
            refine ⟨_, rfl, ?_⟩
            replace hb18 := hb18.keeps k80 n17
            replace hb40 := k80.heap hb40 n37
            replace hb56 := k80.heap hb56 n48
            replace ho57 := ho57.keeps k80 n60
            replace K := K.trans' k80 (fun i hi e => (lk16 i e).elim (fun h => h.elim) (fun h => absurd hi (Nat.not_lt.2 h)))
            clear hd59
            refine WL.nil ?_
            refine WX.seqN ?_
            refine WC.seq ?_
            refine WC.region ?_
            refine WL.op (d := 84) (.pointer (some ⟨b43, 0, none⟩)) (k := ?_)
            refine WL.op (d := 85) (.string ⟨(List.take 43 r24.t).toArray⟩) (k := ?_)
            refine WL.callG (d := 86) (f := 11) (args := #[.pointer (some ⟨b43, 0, none⟩), .string ⟨(List.take 43 r24.t).toArray⟩]) (wlApp_any (l := List.take 43 r24.t) (e := ne) hb56 hd79 n48 hl (by show List.length (List.take 43 r24.t) ≤ 43; first | omega | (simp; done) | (simp; omega)) (by omega)) (k := fun e_ w81 h_ => ?_)
            obtain ⟨S82, ev83, stv84, dv85, rfl, hb86, hd87, lk88, n89, k90, hA91⟩ := h_
            refine ⟨_, rfl, ?_⟩
            have ll_ : List.length (List.take 43 r24.t) ≤ 43 := (by show List.length (List.take 43 r24.t) ≤ 43; first | omega | (simp; done) | (simp; omega))
            have n92 : ∀ i, blk Ah = some i → ¬ S82 i := fun i hi h => (lk88 _ h).elim (n17 i hi) (fun h2 => absurd (hb18.lt i hi) (Nat.not_lt.2 h2))
            have n93 : ¬ S82 b31 := fun h => (lk88 _ h).elim n37 (fun h2 => absurd (lt_of_heap hb40) (Nat.not_lt.2 h2))
            have n94 : ∀ i, blk A54 = some i → ¬ S82 i := fun i hi h => (lk88 _ h).elim (n60 i hi) (fun h2 => absurd (ho57.lt i hi) (Nat.not_lt.2 h2))
            have lk95 := lk_step lk16 lk88 K
            replace K := K.trans' k90 (fun i hi e => e.elim (fun e => absurd (e ▸ hi) (Nat.not_lt.2 z47)) (fun e => (lk16 i e).elim (fun h => h.elim) (fun h => absurd hi (Nat.not_lt.2 h))))
            replace hb18 := hb18.keeps k90 (fun i hi h => h.elim (fun h => (n49) (h ▸ hi)) (n17 i hi))
            replace hb40 := k90.heap hb40 (not_or.2 ⟨n50, n37⟩)
            replace ho57 := ho57.keeps k90 (fun i hi h => h.elim (fun h => (ho57.offT hb56 (by decide)) (h ▸ hi)) (n60 i hi))
            clear hb56 hd79
            refine WL.op (d := 16) (.int .i64 ev83) (k := ?_)
            refine WL.nil ?_
            refine WX.seqN ?_
            refine WC.seq ?_
            refine WC.region ?_
            refine WL.op (d := 87) (.pointer (some ⟨b4, 0, none⟩)) (k := ?_)
            refine WL.op (d := 88) (.pointer (some ⟨b31, 2, none⟩)) (k := ?_)
            refine WL.load (v := .slice r24.A r24.fs.length r24.c) (ld1 (T := 39) (i := 2) hb40) (k := ?_)
            refine WL.callG (d := 90) (f := 14) (args := #[.pointer (some ⟨b4, 0, none⟩), .slice r24.A r24.fs.length r24.c]) (dCrash_c (fs := r24.fs) (cf := r24.c) hd87 (hf29.adds K) (fun hx p hp hs => (lk95 _ hs).elim (fun h => h) (fun h => absurd (hf29.lt hx p hp) (Nat.not_lt.2 h))) (by omega)) (k := fun e_ w96 h_ => ?_)
            obtain ⟨rfl, S97, hd99, lk98, k100⟩ := h_
            refine ⟨_, rfl, ?_⟩
            have n101 : ∀ i, blk Ah = some i → ¬ S97 i := fun i hi h => (lk98 _ h).elim (n92 i hi) (fun h2 => absurd (hb18.lt i hi) (Nat.not_lt.2 h2))
            have n102 : ¬ S97 b31 := fun h => (lk98 _ h).elim n93 (fun h2 => absurd (lt_of_heap hb40) (Nat.not_lt.2 h2))
            have n103 : ∀ i, blk A54 = some i → ¬ S97 i := fun i hi h => (lk98 _ h).elim (n94 i hi) (fun h2 => absurd (ho57.lt i hi) (Nat.not_lt.2 h2))
            have n104 : ¬ S97 b43 := fun h => (lk98 _ h).elim n89 (fun h2 => absurd (lt_of_heap hb86) (Nat.not_lt.2 h2))
            have lk105 := lk_step lk95 lk98 K
            replace hb18 := hb18.keeps k100 n92
            replace hb40 := k100.heap hb40 n93
            replace hb86 := k100.heap hb86 n89
            replace ho57 := ho57.keeps k100 n94
            replace K := K.trans' k100 (fun i hi e => (lk95 i e).elim (fun h => h.elim) (fun h => absurd hi (Nat.not_lt.2 h)))
            clear hd87
            obtain ⟨ys106, sc107, hc108, lay109, hy110⟩ := hA91 r24.fs
            rw [hc108] at hd99
            have ql111 := hy110.len
            refine WL.nil ?_
            refine WX.seqN ?_
            refine WC.seq ?_
            refine WC.region ?_
            refine WL.op (d := 92) (.pointer (some ⟨b43, 0, none⟩)) (k := ?_)
            refine WL.op (d := 93) (.int .u64 ((ne : Nat) : Int)) (k := ?_)
            obtain ⟨r112, hs113⟩ := LayE.scan lay109 (by decide) (by omega) 0
            refine WL.callG (d := 94) (f := 15) (args := #[.pointer (some ⟨b43, 0, none⟩), .int .u64 ((ne : Nat) : Int)]) (wlScan_good (e := ne) (xs := ys106) hb86 hd99 n104 (by decide) (by decide) (by decide) (by omega) (by omega) hs113) (k := fun e_ w114 h_ => ?_)
            obtain ⟨A115, c116, rfl, hb117, ho118, ol119, hd120, n121, k122⟩ := h_
            refine ⟨_, rfl, ?_⟩
            have ol123 := fun i h => Nat.le_trans K.size (ol119 i h)
            replace K := K.trans' k122 (fun i hi e => e.elim (fun e => absurd (e ▸ hi) (Nat.not_lt.2 z47)) (fun e => (lk105 i e).elim (fun h => h.elim) (fun h => absurd hi (Nat.not_lt.2 h))))
            replace hb18 := hb18.keeps k122 (fun i hi h => h.elim (fun h => (n49) (h ▸ hi)) (n101 i hi))
            replace hb40 := k122.heap hb40 (not_or.2 ⟨n50, n102⟩)
            replace ho57 := ho57.keeps k122 (fun i hi h => h.elim (fun h => (ho57.offT hb86 (by decide)) (h ▸ hi)) (n103 i hi))
            clear hb86 hd99 ol119
            refine WL.op (d := 91) (.tuple #[.slice A115 (List.length ys106) c116, .int .i64 0]) (k := ?_)
            refine WL.op (d := 95) (.slice A115 (List.length ys106) c116) (k := ?_)
            refine WL.op (d := 96) (.int .i64 0) (k := ?_)
            refine WL.op (d := 17) (.slice A115 (List.length ys106) c116) (k := ?_)
            refine WL.op (d := 18) (.int .i64 0) (k := ?_)
            refine WL.nil ?_
            refine WX.seqN ?_
            refine WC.seq ?_
            refine WC.seq ?_
            refine WC.region ?_
            refine WL.op (d := 97) (.int .i64 0) (k := ?_)
            refine WL.op (d := 98) (.bool false) (k := ?_)
            refine WL.op (d := 99) (.bool false) (k := ?_)
            refine WL.op (d := 100) (.slice A115 (List.length ys106) c116) (k := ?_)
            refine WL.op (d := 101) (.int .i64 ((List.length ys106) : Int)) (k := ?_)
            refine WL.op (d := 102) (.slice Ah xs.length ch) (k := ?_)
            refine WL.op (d := 103) (.int .i64 (xs.length : Int)) (k := ?_)
            refine WL.op (d := 104) (.bool (decide (((List.length ys106) : Int) < (xs.length : Int)))) (k := ?_)
            refine WL.op (d := 105) (.bool (decide (((List.length ys106) : Int) < (xs.length : Int)))) (k := ?_)
            refine WL.op (d := 106) (.bool (decide (((List.length ys106) : Int) < (xs.length : Int)))) (k := ?_)
            refine bsplit (decide (((List.length ys106) : Int) < (xs.length : Int))) (fun h124 => ?_) (fun h124 => ?_)
            · have ph124 := of_decide_eq_true h124
              refine WL.rw (t := 106) (v := .bool true) (congrArg Value.bool h124) (k := ?_)
              refine WL.skip (d := 107) (k := ?_)
              refine WL.skip (d := 108) (k := ?_)
              refine WL.skip (d := 109) (k := ?_)
              refine WL.skip (d := 110) (k := ?_)
              refine WL.skip (d := 111) (k := ?_)
              refine WL.skip (d := 112) (k := ?_)
              refine WL.op (d := 113) (.bool true) (k := ?_)
              refine WL.nil ?_
              refine WX.seqN ?_
              refine WC.condT (k := ?_)
              refine WC.seq ?_
              refine WC.region ?_
              refine WL.op (d := 4) (.bool false) (k := ?_)
              refine WL.nil ?_
              refine WX.seqN ?_
              refine WC.ret ?_
              refine WX.seqR ?_
              refine WX.blockR ?_
              refine WX.seqR ?_
              refine WX.seqR ?_
              refine WX.blockR ?_
              refine WX.seqR ?_
              refine WX.ret (rs := [.tmp 4]) [.bool false] (.bool false) ⟨(by kernel_rfl), trivial⟩ (k := ?_)
              exfalso; omega
            · have ph124 := of_decide_eq_false h124
              refine WL.rw (t := 106) (v := .bool false) (congrArg Value.bool h124) (k := ?_)
              refine WL.op (d := 107) (.slice A115 (List.length ys106) c116) (k := ?_)
              refine WL.op (d := 108) (.int .i64 ((List.length ys106) : Int)) (k := ?_)
              refine WL.op (d := 109) (.slice Ah xs.length ch) (k := ?_)
              refine WL.op (d := 110) (.int .i64 (xs.length : Int)) (k := ?_)
              refine WL.opE (d := 111) (.int .i64 (IntKind.i64.wrap ((xs.length : Int) + 1))) (v := .int .i64 ((xs.length : Int) + 1)) (congrArg (Value.int .i64) (IntWalk.i64_in _ (by omega))) (k := ?_)
              refine WL.op (d := 112) (.bool (decide (((List.length ys106) : Int) > ((xs.length : Int) + 1)))) (k := ?_)
              refine WL.op (d := 113) (.bool (decide (((List.length ys106) : Int) > ((xs.length : Int) + 1)))) (k := ?_)
              refine WL.nil ?_
              refine WX.seqN ?_
              refine WC.cond (b := decide (((List.length ys106) : Int) > ((xs.length : Int) + 1))) (ht := fun h125 => ?_) (hf := fun h125 => ?_)
              · have ph125 := of_decide_eq_true h125
                refine WC.seq ?_
                refine WC.region ?_
                refine WL.op (d := 4) (.bool false) (k := ?_)
                refine WL.nil ?_
                refine WX.seqN ?_
                refine WC.ret ?_
                refine WX.seqR ?_
                refine WX.blockR ?_
                refine WX.seqR ?_
                refine WX.seqR ?_
                refine WX.blockR ?_
                refine WX.seqR ?_
                refine WX.ret (rs := [.tmp 4]) [.bool false] (.bool false) ⟨(by kernel_rfl), trivial⟩ (k := ?_)
                exfalso; omega
              · have ph125 := of_decide_eq_false h125
                refine WC.skip ?_
                refine WX.seqN ?_
                refine WC.seq ?_
                refine WC.region ?_
                refine WL.op (d := 114) (.slice A115 (List.length ys106) c116) (k := ?_)
                refine WL.op (d := 115) (.slice Ah xs.length ch) (k := ?_)
                refine WL.op (d := 116) (.int .i64 (xs.length : Int)) (k := ?_)
                have cl126 := OwAt.cap_le ho118
                have hs127 := SlAt.cutT (b := xs.length) (c := c116) (ho118.sl ekStr) (by omega) (by omega)
                refine WL.cut (d := 117) (vx := .slice A115 (List.length ys106) c116) (lo' := none) (hi' := (some (.int .i64 (xs.length : Int)))) (mx' := none) (v := .slice A115 ((List.take xs.length ys106).length) c116) (run_cutSl (a := 0) (b := xs.length) (c := c116) (m := 1) (E := 9) (by kernel_rfl) (by kernel_rfl) (.inl ⟨rfl, rfl⟩) (.inr ⟨_, _, rfl, by omega⟩) (.inl ⟨rfl, rfl⟩) (by omega) (by omega) (cutA_zero _ _ _) (by simp <;> omega) (by omega)) (k := ?_)
                refine WL.op (d := 118) (.slice Ah xs.length ch) (k := ?_)
                have h128 : (decide (List.take xs.length ys106 = xs)) = true := decide_eq_true hy110.take
                have ph128 := of_decide_eq_true h128
                refine WL.callG (d := 119) (f := 16) (args := #[.slice A115 ((List.take xs.length ys106).length) c116, .slice Ah xs.length ch]) (u04Same_c (xs := (List.take xs.length ys106)) (ys := xs) (cp := c116) (cq := ch) hs127 (hb18.sl ekStr) (by first | omega | (simp; omega)) (by first | omega | (simp; omega))) (k := fun e_ w129 h_ => ⟨.bool (decide (List.take xs.length ys106 = xs)), h_.1, ?_⟩)
                have k130 := h_.2; clear h_
                replace hd120 := hd120.adds k130
                replace hb18 := hb18.adds k130
                replace hb40 := k130.heap hb40 id
                replace hb117 := k130.heap hb117 id
                replace ho57 := ho57.adds k130
                replace ho118 := ho118.adds k130
                replace hs127 := SlAt.cutT (b := xs.length) (c := c116) (ho118.sl ekStr) (by omega) (by omega)
                replace K := K.trans (k130.any _)
                refine WL.op (d := 19) (.bool (decide (List.take xs.length ys106 = xs))) (k := ?_)
                refine WL.nil ?_
                refine WX.seqN ?_
                refine WC.seq ?_
                refine WC.seq ?_
                refine WC.region ?_
                refine WL.op (d := 120) (.bool (decide (List.take xs.length ys106 = xs))) (k := ?_)
                refine WL.op (d := 121) (.bool (!(decide (List.take xs.length ys106 = xs)))) (k := ?_)
                refine WL.op (d := 122) (.bool (!(decide (List.take xs.length ys106 = xs)))) (k := ?_)
                refine WL.rw (t := 122) (v := .bool false) (congrArg Value.bool (congrArg Bool.not h128)) (k := ?_)
                refine WL.op (d := 123) (.int .i64 ev83) (k := ?_)
                refine WL.op (d := 124) (.bool (ev83 == 0)) (k := ?_)
                refine WL.op (d := 125) (.bool (ev83 == 0)) (k := ?_)
                refine bsplit (ev83 == 0) (fun h131 => ?_) (fun h131 => ?_)
                · have ph131 := eq_of_beq h131
                  refine WL.rw (t := 125) (v := .bool true) (congrArg Value.bool h131) (k := ?_)
                  refine WL.op (d := 126) (.slice A115 (List.length ys106) c116) (k := ?_)
                  refine WL.op (d := 127) (.int .i64 ((List.length ys106) : Int)) (k := ?_)
                  refine WL.op (d := 128) (.slice Ah xs.length ch) (k := ?_)
                  refine WL.op (d := 129) (.int .i64 (xs.length : Int)) (k := ?_)
                  refine WL.opE (d := 130) (.int .i64 (IntKind.i64.wrap ((xs.length : Int) + 1))) (v := .int .i64 ((xs.length : Int) + 1)) (congrArg (Value.int .i64) (IntWalk.i64_in _ (by omega))) (k := ?_)
                  refine WL.op (d := 131) (.bool (((List.length ys106) : Int) != ((xs.length : Int) + 1))) (k := ?_)
                  refine WL.op (d := 132) (.bool (((List.length ys106) : Int) != ((xs.length : Int) + 1))) (k := ?_)
                  refine WL.op (d := 133) (.bool (((List.length ys106) : Int) != ((xs.length : Int) + 1))) (k := ?_)
                  refine WL.op (d := 134) (.bool (((List.length ys106) : Int) != ((xs.length : Int) + 1))) (k := ?_)
                  refine bsplit (((List.length ys106) : Int) != ((xs.length : Int) + 1)) (fun h132 => ?_) (fun h132 => ?_)
                  · have ph132 := bne_iff_ne.1 h132
                    refine WL.rw (t := 134) (v := .bool true) (congrArg Value.bool h132) (k := ?_)
                    refine WL.skip (d := 135) (k := ?_)
                    refine WL.skip (d := 136) (k := ?_)
                    refine WL.skip (d := 137) (k := ?_)
                    refine WL.skip (d := 138) (k := ?_)
                    refine WL.skip (d := 139) (k := ?_)
                    refine WL.skip (d := 140) (k := ?_)
                    refine WL.skip (d := 141) (k := ?_)
                    refine WL.skip (d := 142) (k := ?_)
                    refine WL.skip (d := 143) (k := ?_)
                    refine WL.skip (d := 144) (k := ?_)
                    refine WL.skip (d := 145) (k := ?_)
                    refine WL.skip (d := 146) (k := ?_)
                    refine WL.skip (d := 147) (k := ?_)
                    refine WL.skip (d := 148) (k := ?_)
                    refine WL.op (d := 149) (.bool true) (k := ?_)
                    refine WL.op (d := 150) (.bool true) (k := ?_)
                    refine WL.skip (d := 151) (k := ?_)
                    refine WL.skip (d := 152) (k := ?_)
                    refine WL.skip (d := 153) (k := ?_)
                    refine WL.skip (d := 154) (k := ?_)
                    refine WL.skip (d := 155) (k := ?_)
                    refine WL.skip (d := 156) (k := ?_)
                    refine WL.op (d := 157) (.bool true) (k := ?_)
                    refine WL.nil ?_
                    refine WX.seqN ?_
                    refine WC.condT (k := ?_)
                    refine WC.seq ?_
                    refine WC.region ?_
                    refine WL.op (d := 4) (.bool false) (k := ?_)
                    refine WL.nil ?_
                    refine WX.seqN ?_
                    refine WC.ret ?_
                    refine WX.seqR ?_
                    refine WX.blockR ?_
                    refine WX.seqR ?_
                    refine WX.seqR ?_
                    refine WX.blockR ?_
                    refine WX.seqR ?_
                    refine WX.ret (rs := [.tmp 4]) [.bool false] (.bool false) ⟨(by kernel_rfl), trivial⟩ (k := ?_)
                    exfalso; omega
                  · have ph132 := of_bne_false h132
                    refine WL.rw (t := 134) (v := .bool false) (congrArg Value.bool h132) (k := ?_)
                    refine WL.op (d := 135) (.slice A115 (List.length ys106) c116) (k := ?_)
                    refine WL.op (d := 136) (.int .i64 ((List.length ys106) : Int)) (k := ?_)
                    refine WL.op (d := 137) (.slice Ah xs.length ch) (k := ?_)
                    refine WL.op (d := 138) (.int .i64 (xs.length : Int)) (k := ?_)
                    refine WL.op (d := 139) (.bool (decide (((List.length ys106) : Int) > (xs.length : Int)))) (k := ?_)
                    refine WL.op (d := 140) (.bool (decide (((List.length ys106) : Int) > (xs.length : Int)))) (k := ?_)
                    refine bsplit (decide (((List.length ys106) : Int) > (xs.length : Int))) (fun h133 => ?_) (fun h133 => ?_)
                    · have ph133 := of_decide_eq_true h133
                      refine WL.rw (t := 140) (v := .bool true) (congrArg Value.bool h133) (k := ?_)
                      refine WL.op (d := 141) (.slice A115 (List.length ys106) c116) (k := ?_)
                      refine WL.op (d := 142) (.slice Ah xs.length ch) (k := ?_)
                      refine WL.op (d := 143) (.int .i64 (xs.length : Int)) (k := ?_)
                      obtain ⟨b134, o135, r136, hr137, hA138, he139⟩ := SlAt.at (ho118.sl ekStr) (i := (xs.length : Int)) (by omega) (by omega)
                      refine WL.rw (t := 141) (v := .slice (some ⟨b134, o135, none⟩) (List.length ys106) c116) (congrArg (fun a => Value.slice a (List.length ys106) c116) hA138) (k := ?_)
                      have e_r136 : r136 = List.take 43 r24.t := hy110.last (by omega) hr137
                      have h140 : (decide (r136 = List.take 43 r24.t)) = true := decide_eq_true e_r136
                      have ph140 := of_decide_eq_true h140
                      refine WL.idx (T := 34) (E := 9) (m := 1) (b := b134) (o := o135) (len := (List.length ys106)) (cap := c116) (i := (xs.length : Int)) (kk := .i64) (d := 144) (by omega) (by omega) (k := ?_)
                      refine WL.rw (t := 141) (v := .slice A115 (List.length ys106) c116) (congrArg (fun a => Value.slice a (List.length ys106) c116) (Eq.symm hA138)) (k := ?_)
                      refine WL.load (v := .string ⟨(r136).toArray⟩) (he139.ld0 (T := 9)) (k := ?_)
                      refine WL.op (d := 146) (.string ⟨(List.take 43 r24.t).toArray⟩) (k := ?_)
                      refine WL.opE (d := 147) (.bool !(ByteArray.toList ⟨(r136).toArray⟩ == ByteArray.toList ⟨(List.take 43 r24.t).toArray⟩)) (v := .bool (!(decide (r136 = List.take 43 r24.t)))) (str_neq _ _) (k := ?_)
                      refine WL.op (d := 148) (.bool (!(decide (r136 = List.take 43 r24.t)))) (k := ?_)
                      refine WL.op (d := 149) (.bool (!(decide (r136 = List.take 43 r24.t)))) (k := ?_)
                      refine WL.op (d := 150) (.bool (!(decide (r136 = List.take 43 r24.t)))) (k := ?_)
                      refine WL.rw (t := 150) (v := .bool false) (congrArg Value.bool (congrArg Bool.not h140)) (k := ?_)
                      refine WL.op (d := 151) (.int .i64 ev83) (k := ?_)
                      refine WL.op (d := 152) (.bool (ev83 == 22)) (k := ?_)
                      refine WL.op (d := 153) (.slice Ah xs.length ch) (k := ?_)
                      refine WL.op (d := 154) (.int .i64 (xs.length : Int)) (k := ?_)
                      refine WL.op (d := 155) (.bool ((xs.length : Int) == 8)) (k := ?_)
                      refine WL.op (d := 156) (.bool (!((ev83 == 22) == ((xs.length : Int) == 8)))) (k := ?_)
                      refine WL.op (d := 157) (.bool (!((ev83 == 22) == ((xs.length : Int) == 8)))) (k := ?_)
                      refine WL.nil ?_
                      refine WX.seqN ?_
                      refine WC.cond (b := !((ev83 == 22) == ((xs.length : Int) == 8))) (ht := fun h141 => ?_) (hf := fun h141 => ?_)
                      · have h142 : ((ev83 == 22) == ((xs.length : Int) == 8)) = false := Bool.not_inj (y := false) h141
                        have ph142 := ne_of_beq_false h142
                        refine WC.seq ?_
                        refine WC.region ?_
                        refine WL.op (d := 4) (.bool false) (k := ?_)
                        refine WL.nil ?_
                        refine WX.seqN ?_
                        refine WC.ret ?_
                        refine WX.seqR ?_
                        refine WX.blockR ?_
                        refine WX.seqR ?_
                        refine WX.seqR ?_
                        refine WX.blockR ?_
                        refine WX.seqR ?_
                        refine WX.ret (rs := [.tmp 4]) [.bool false] (.bool false) ⟨(by kernel_rfl), trivial⟩ (k := ?_)
                        by_cases c1_ : ev83 = 22 <;> by_cases c2_ : (xs.length : Int) = 8 <;> first | (exfalso; omega) | (rw [c1_, c2_] at h142; exact absurd h142 (by decide)) | (rw [beq_eq_false_iff_ne.2 c1_, beq_eq_false_iff_ne.2 c2_] at h142; exact absurd h142 (by decide))
                      · have h143 : ((ev83 == 22) == ((xs.length : Int) == 8)) = true := Bool.not_inj (y := true) h141
                        have ph143 := eq_of_beq h143
                        refine WC.skip ?_
                        refine WX.seqN ?_
                        refine WC.mixed (fun _ => False) 8 (k := fun w144 k145 => ?_)
                        replace hd120 := hd120.adds k145
                        replace hb18 := hb18.adds k145
                        replace hb40 := k145.heap hb40 id
                        replace hb117 := k145.heap hb117 id
                        replace ho57 := ho57.adds k145
                        replace ho118 := ho118.adds k145
                        replace hs127 := SlAt.cutT (b := xs.length) (c := c116) (ho118.sl ekStr) (by omega) (by omega)
                        replace he139 := he139.adds k145
                        replace K := K.trans (k145.any _)
                        have KC := Keeps.refl (fun _ => False) w144
                        have bh146 := hb40
                        have bh147 := hb117
                        have Kb := K
                        refine WA.quiet 1 (d := 159) (.slice Ah xs.length ch) KC (hi := rfl) (k := ?_)
                        refine WA.quiet 3 (d := 161) (.slice A115 (List.length ys106) c116) KC (hi := rfl) (k := ?_)
                        refine WA.quiet 4 (d := 162) (.slice Ah xs.length ch) KC (hi := rfl) (k := ?_)
                        refine WA.quiet 5 (d := 163) (.int .i64 (xs.length : Int)) KC (hi := rfl) (k := ?_)
                        have cl148 := OwAt.cap_le ho118
                        have hs149 := SlAt.cutD (a := xs.length) (c := c116) (ho118.sl ekStr) (by omega) (by omega)
                        refine WA.quietR 6 (d := 164) (.slice (cutA A115 c116 xs.length 1) ((List.drop xs.length ys106).length) (c116 - xs.length)) KC (exec_cut (vx := .slice A115 (List.length ys106) c116) (lo' := (some (.int .i64 (xs.length : Int)))) (hi' := none) (mx' := none) (fun _ => run_cutSl (a := xs.length) (b := (List.length ys106)) (c := c116) (m := 1) (E := 9) (by kernel_rfl) (by kernel_rfl) (.inl ⟨rfl, rfl⟩) (.inl ⟨rfl, rfl, rfl⟩) (.inr ⟨_, _, rfl, by omega⟩) (by omega) (by omega) rfl (by simp <;> omega) (by omega))) (hi := rfl) (k := ?_)
                        refine WA.step 0 (hi := rfl) (k := ?_)
                        refine WL.newF (d := 158) (T := 9) #[] (fun b => .slice (some ⟨b, 0, none⟩) 0 0) (k := fun b150 w151 g152 hb153 k154 => ?_)
                        have z155 := Nat.le_trans K.size g152
                        have zc156 := Nat.le_trans KC.size g152
                        have n157 : ¬ S97 b150 := fun h => absurd (hd120.lt _ h) (Nat.not_lt.2 g152)
                        have n158 := OwAt.off_new hb18 g152
                        have n159 : b31 ≠ b150 := Nat.ne_of_lt (Nat.lt_of_lt_of_le (lt_of_heap hb40) g152)
                        have n160 : b43 ≠ b150 := Nat.ne_of_lt (Nat.lt_of_lt_of_le (lt_of_heap hb117) g152)
                        have n161 := OwAt.off_new ho57 g152
                        have n162 := OwAt.off_new ho118 g152
                        replace hd120 := hd120.adds k154
                        replace hb18 := hb18.adds k154
                        replace hb40 := k154.heap hb40 id
                        replace hb117 := k154.heap hb117 id
                        replace ho57 := ho57.adds k154
                        replace ho118 := ho118.adds k154
                        replace hs127 := SlAt.cutT (b := xs.length) (c := c116) (ho118.sl ekStr) (by omega) (by omega)
                        replace he139 := he139.adds k154
                        replace hs149 := SlAt.cutD (a := xs.length) (c := c116) (ho118.sl ekStr) (by omega) (by omega)
                        replace K := K.trans (k154.any _)
                        replace KC := KC.trans (k154.any _)
                        refine WL.nil ?_
                        refine WX.nxt KC ?_
                        refine WA.step 2 (hi := rfl) (k := ?_)
                        have ho163 := OwAt.empty (cl := strC) (m := 1) hb153
                        have ol164 : ∀ i, blk (some ⟨b150, 0, none⟩) = some i → w.heap.size ≤ i := fun i e => by cases e; exact z155
                        have n165 : ∀ i, blk Ah = some i → ¬ blk (some ⟨b150, 0, none⟩) = some i := fun i hi e => by cases e; exact n158 hi
                        have n166 : ∀ i, blk A54 = some i → ¬ blk (some ⟨b150, 0, none⟩) = some i := fun i hi e => by cases e; exact n161 hi
                        have n167 : ∀ i, blk A115 = some i → ¬ blk (some ⟨b150, 0, none⟩) = some i := fun i hi e => by cases e; exact n162 hi
                        have zc168 : ∀ i, blk (some ⟨b150, 0, none⟩) = some i → w144.heap.size ≤ i := fun i e => by cases e; exact zc156
                        have n169 : ∀ i, blk (some ⟨b150, 0, none⟩) = some i → ¬ S97 i := fun i e => by cases e; exact n157
                        have n170 : ¬ blk (some ⟨b150, 0, none⟩) = some b31 := fun e => by cases e; exact n159 rfl
                        have n171 : ¬ blk (some ⟨b150, 0, none⟩) = some b43 := fun e => by cases e; exact n160 rfl
                        refine WL.append (d := 160) (T := 34) (cl := strC) (xs := []) (ys := xs) (c := ch) ekStr ho163 (hb18.sl ekStr) (by first | omega | (simp; omega)) (k := fun A172 c173 w174 ho175 k176 n177 => ?_)
                        have ol178 := olink_step ol164 K n177
                        have n179 : ∀ i, blk Ah = some i → ¬ blk A172 = some i := fun i hi e => n177.elim (fun n => n165 i hi (n ▸ e)) (fun ⟨k, n, hk⟩ => by rw [n] at e; cases e; exact absurd (hb18.lt _ hi) (Nat.not_lt.2 hk))
                        have n180 : ∀ i, blk A54 = some i → ¬ blk A172 = some i := fun i hi e => n177.elim (fun n => n166 i hi (n ▸ e)) (fun ⟨k, n, hk⟩ => by rw [n] at e; cases e; exact absurd (ho57.lt _ hi) (Nat.not_lt.2 hk))
                        have n181 : ∀ i, blk A115 = some i → ¬ blk A172 = some i := fun i hi e => n177.elim (fun n => n167 i hi (n ▸ e)) (fun ⟨k, n, hk⟩ => by rw [n] at e; cases e; exact absurd (ho118.lt _ hi) (Nat.not_lt.2 hk))
                        have zc182 := olink_step zc168 KC n177
                        have n183 := fp_step n177 n169 hd120.lt
                        have n184 := off_step n177 n170 (lt_of_heap hb40)
                        have n185 := off_step n177 n171 (lt_of_heap hb117)
                        replace hd120 := hd120.keeps k176 (fun i hi e => n169 i e hi)
                        replace hb18 := hb18.keeps k176 n165
                        replace hb40 := k176.heap hb40 n170
                        replace hb117 := k176.heap hb117 n171
                        replace ho57 := ho57.keeps k176 n166
                        replace ho118 := ho118.keeps k176 n167
                        replace hs127 := SlAt.cutT (b := xs.length) (c := c116) (ho118.sl ekStr) (by omega) (by omega)
                        replace hs149 := SlAt.cutD (a := xs.length) (c := c116) (ho118.sl ekStr) (by omega) (by omega)
                        replace K := K.trans' k176 (fun i hi e => absurd hi (Nat.not_lt.2 (ol164 i e)))
                        replace KC := KC.trans' k176 (fun i hi e => absurd hi (Nat.not_lt.2 (zc168 i e)))
                        clear ho163
                        refine WL.nil ?_
                        refine WX.nxt KC ?_
                        refine WA.step 7 (hi := rfl) (k := ?_)
                        refine WL.append (d := 165) (T := 34) (cl := strC) (xs := [] ++ xs) (ys := List.drop xs.length ys106) (c := (c116 - xs.length)) ekStr ho175 hs149 (by first | omega | (simp; omega)) (k := fun A186 c187 w188 ho189 k190 n191 => ?_)
                        have ol192 := olink_step ol178 K n191
                        have n193 : ∀ i, blk Ah = some i → ¬ blk A186 = some i := fun i hi e => n191.elim (fun n => n179 i hi (n ▸ e)) (fun ⟨k, n, hk⟩ => by rw [n] at e; cases e; exact absurd (hb18.lt _ hi) (Nat.not_lt.2 hk))
                        have n194 : ∀ i, blk A54 = some i → ¬ blk A186 = some i := fun i hi e => n191.elim (fun n => n180 i hi (n ▸ e)) (fun ⟨k, n, hk⟩ => by rw [n] at e; cases e; exact absurd (ho57.lt _ hi) (Nat.not_lt.2 hk))
                        have n195 : ∀ i, blk A115 = some i → ¬ blk A186 = some i := fun i hi e => n191.elim (fun n => n181 i hi (n ▸ e)) (fun ⟨k, n, hk⟩ => by rw [n] at e; cases e; exact absurd (ho118.lt _ hi) (Nat.not_lt.2 hk))
                        have zc196 := olink_step zc182 KC n191
                        have n197 := fp_step n191 n183 hd120.lt
                        have n198 := off_step n191 n184 (lt_of_heap hb40)
                        have n199 := off_step n191 n185 (lt_of_heap hb117)
                        replace hd120 := hd120.keeps k190 (fun i hi e => n183 i e hi)
                        replace hb18 := hb18.keeps k190 n179
                        replace hb40 := k190.heap hb40 n184
                        replace hb117 := k190.heap hb117 n185
                        replace ho57 := ho57.keeps k190 n180
                        replace ho118 := ho118.keeps k190 n181
                        replace hs127 := SlAt.cutT (b := xs.length) (c := c116) (ho118.sl ekStr) (by omega) (by omega)
                        replace hs149 := SlAt.cutD (a := xs.length) (c := c116) (ho118.sl ekStr) (by omega) (by omega)
                        replace K := K.trans' k190 (fun i hi e => absurd hi (Nat.not_lt.2 (ol178 i e)))
                        replace KC := KC.trans' k190 (fun i hi e => absurd hi (Nat.not_lt.2 (zc182 i e)))
                        clear ho175
                        refine WL.nil ?_
                        refine WX.nxt KC ?_
                        refine WA.step 8 (hi := rfl) (k := ?_)
                        refine WL.op (d := 8) (.slice A186 (([] ++ xs ++ (List.drop xs.length ys106)).length) c187) (k := ?_)
                        refine WL.nil ?_
                        refine WX.nxtL ?_
                        refine WA.done (k := ?_)
                        clear KC
                        refine WX.blockN ?_
                        refine WX.seqN ?_
                        refine WC.region ?_
                        refine WL.op (d := 36) (.int .i64 i) (k := ?_)
                        refine WL.opE (d := 37) (.int .i64 (IntKind.i64.wrap (i + 1))) (v := .int .i64 (i + 1)) (congrArg (Value.int .i64) (IntWalk.i64_in _ (by omega))) (k := ?_)
                        refine WL.op (d := 9) (.int .i64 (i + 1)) (k := ?_)
                        refine WL.nil ?_
                        have e200 : [] ++ xs ++ (List.drop xs.length ys106) = ys106 := hy110.cat
                        rw [e200] at ho189
                        refine WX.rw (t := 8) (v := .slice A186 ((ys106).length) c187) (congrArg (fun l => Value.slice A186 (List.length l) c187) e200) (k := ?_)
                        refine WX.round (i + 1, ys106, A186, c187, sc107, r112, S97) (by show (10 - (i + 1)).toNat < (10 - i).toNat; omega) ⟨(by kernel_rfl), (by kernel_rfl), (by kernel_rfl), (by kernel_rfl), (by kernel_rfl), (by kernel_rfl), (by kernel_rfl), (by kernel_rfl), (by kernel_rfl), (by kernel_rfl), (by kernel_rfl), (by kernel_rfl), (by kernel_rfl), trivial⟩ ⟨K, hd120, lk105, n197, ho189, ol192, (by omega), (by omega), lay109⟩
                    · have ph133 := of_decide_eq_false h133
                      refine WL.rw (t := 140) (v := .bool false) (congrArg Value.bool h133) (k := ?_)
                      refine WL.skip (d := 141) (k := ?_)
                      refine WL.skip (d := 142) (k := ?_)
                      refine WL.skip (d := 143) (k := ?_)
                      refine WL.skip (d := 144) (k := ?_)
                      refine WL.skip (d := 145) (k := ?_)
                      refine WL.skip (d := 146) (k := ?_)
                      refine WL.skip (d := 147) (k := ?_)
                      refine WL.op (d := 148) (.bool false) (k := ?_)
                      refine WL.op (d := 149) (.bool false) (k := ?_)
                      refine WL.op (d := 150) (.bool false) (k := ?_)
                      refine WL.op (d := 151) (.int .i64 ev83) (k := ?_)
                      refine WL.op (d := 152) (.bool (ev83 == 22)) (k := ?_)
                      refine WL.op (d := 153) (.slice Ah xs.length ch) (k := ?_)
                      refine WL.op (d := 154) (.int .i64 (xs.length : Int)) (k := ?_)
                      refine WL.op (d := 155) (.bool ((xs.length : Int) == 8)) (k := ?_)
                      refine WL.op (d := 156) (.bool (!((ev83 == 22) == ((xs.length : Int) == 8)))) (k := ?_)
                      refine WL.op (d := 157) (.bool (!((ev83 == 22) == ((xs.length : Int) == 8)))) (k := ?_)
                      refine WL.nil ?_
                      refine WX.seqN ?_
                      refine WC.cond (b := !((ev83 == 22) == ((xs.length : Int) == 8))) (ht := fun h201 => ?_) (hf := fun h201 => ?_)
                      · have h202 : ((ev83 == 22) == ((xs.length : Int) == 8)) = false := Bool.not_inj (y := false) h201
                        have ph202 := ne_of_beq_false h202
                        refine WC.seq ?_
                        refine WC.region ?_
                        refine WL.op (d := 4) (.bool false) (k := ?_)
                        refine WL.nil ?_
                        refine WX.seqN ?_
                        refine WC.ret ?_
                        refine WX.seqR ?_
                        refine WX.blockR ?_
                        refine WX.seqR ?_
                        refine WX.seqR ?_
                        refine WX.blockR ?_
                        refine WX.seqR ?_
                        refine WX.ret (rs := [.tmp 4]) [.bool false] (.bool false) ⟨(by kernel_rfl), trivial⟩ (k := ?_)
                        by_cases c1_ : ev83 = 22 <;> by_cases c2_ : (xs.length : Int) = 8 <;> first | (exfalso; omega) | (rw [c1_, c2_] at h202; exact absurd h202 (by decide)) | (rw [beq_eq_false_iff_ne.2 c1_, beq_eq_false_iff_ne.2 c2_] at h202; exact absurd h202 (by decide))
                      · have h203 : ((ev83 == 22) == ((xs.length : Int) == 8)) = true := Bool.not_inj (y := true) h201
                        have ph203 := eq_of_beq h203
                        refine WC.skip ?_
                        refine WX.seqN ?_
                        refine WC.mixed (fun _ => False) 8 (k := fun w204 k205 => ?_)
                        replace hd120 := hd120.adds k205
                        replace hb18 := hb18.adds k205
                        replace hb40 := k205.heap hb40 id
                        replace hb117 := k205.heap hb117 id
                        replace ho57 := ho57.adds k205
                        replace ho118 := ho118.adds k205
                        replace hs127 := SlAt.cutT (b := xs.length) (c := c116) (ho118.sl ekStr) (by omega) (by omega)
                        replace K := K.trans (k205.any _)
                        have KC := Keeps.refl (fun _ => False) w204
                        have bh206 := hb40
                        have bh207 := hb117
                        have Kb := K
                        refine WA.quiet 1 (d := 159) (.slice Ah xs.length ch) KC (hi := rfl) (k := ?_)
                        refine WA.quiet 3 (d := 161) (.slice A115 (List.length ys106) c116) KC (hi := rfl) (k := ?_)
                        refine WA.quiet 4 (d := 162) (.slice Ah xs.length ch) KC (hi := rfl) (k := ?_)
                        refine WA.quiet 5 (d := 163) (.int .i64 (xs.length : Int)) KC (hi := rfl) (k := ?_)
                        have cl208 := OwAt.cap_le ho118
                        have hs209 := SlAt.cutD (a := xs.length) (c := c116) (ho118.sl ekStr) (by omega) (by omega)
                        refine WA.quietR 6 (d := 164) (.slice (cutA A115 c116 xs.length 1) ((List.drop xs.length ys106).length) (c116 - xs.length)) KC (exec_cut (vx := .slice A115 (List.length ys106) c116) (lo' := (some (.int .i64 (xs.length : Int)))) (hi' := none) (mx' := none) (fun _ => run_cutSl (a := xs.length) (b := (List.length ys106)) (c := c116) (m := 1) (E := 9) (by kernel_rfl) (by kernel_rfl) (.inl ⟨rfl, rfl⟩) (.inl ⟨rfl, rfl, rfl⟩) (.inr ⟨_, _, rfl, by omega⟩) (by omega) (by omega) rfl (by simp <;> omega) (by omega))) (hi := rfl) (k := ?_)
                        refine WA.step 0 (hi := rfl) (k := ?_)
                        refine WL.newF (d := 158) (T := 9) #[] (fun b => .slice (some ⟨b, 0, none⟩) 0 0) (k := fun b210 w211 g212 hb213 k214 => ?_)
                        have z215 := Nat.le_trans K.size g212
                        have zc216 := Nat.le_trans KC.size g212
                        have n217 : ¬ S97 b210 := fun h => absurd (hd120.lt _ h) (Nat.not_lt.2 g212)
                        have n218 := OwAt.off_new hb18 g212
                        have n219 : b31 ≠ b210 := Nat.ne_of_lt (Nat.lt_of_lt_of_le (lt_of_heap hb40) g212)
                        have n220 : b43 ≠ b210 := Nat.ne_of_lt (Nat.lt_of_lt_of_le (lt_of_heap hb117) g212)
                        have n221 := OwAt.off_new ho57 g212
                        have n222 := OwAt.off_new ho118 g212
                        replace hd120 := hd120.adds k214
                        replace hb18 := hb18.adds k214
                        replace hb40 := k214.heap hb40 id
                        replace hb117 := k214.heap hb117 id
                        replace ho57 := ho57.adds k214
                        replace ho118 := ho118.adds k214
                        replace hs127 := SlAt.cutT (b := xs.length) (c := c116) (ho118.sl ekStr) (by omega) (by omega)
                        replace hs209 := SlAt.cutD (a := xs.length) (c := c116) (ho118.sl ekStr) (by omega) (by omega)
                        replace K := K.trans (k214.any _)
                        replace KC := KC.trans (k214.any _)
                        refine WL.nil ?_
                        refine WX.nxt KC ?_
                        refine WA.step 2 (hi := rfl) (k := ?_)
                        have ho223 := OwAt.empty (cl := strC) (m := 1) hb213
                        have ol224 : ∀ i, blk (some ⟨b210, 0, none⟩) = some i → w.heap.size ≤ i := fun i e => by cases e; exact z215
                        have n225 : ∀ i, blk Ah = some i → ¬ blk (some ⟨b210, 0, none⟩) = some i := fun i hi e => by cases e; exact n218 hi
                        have n226 : ∀ i, blk A54 = some i → ¬ blk (some ⟨b210, 0, none⟩) = some i := fun i hi e => by cases e; exact n221 hi
                        have n227 : ∀ i, blk A115 = some i → ¬ blk (some ⟨b210, 0, none⟩) = some i := fun i hi e => by cases e; exact n222 hi
                        have zc228 : ∀ i, blk (some ⟨b210, 0, none⟩) = some i → w204.heap.size ≤ i := fun i e => by cases e; exact zc216
                        have n229 : ∀ i, blk (some ⟨b210, 0, none⟩) = some i → ¬ S97 i := fun i e => by cases e; exact n217
                        have n230 : ¬ blk (some ⟨b210, 0, none⟩) = some b31 := fun e => by cases e; exact n219 rfl
                        have n231 : ¬ blk (some ⟨b210, 0, none⟩) = some b43 := fun e => by cases e; exact n220 rfl
                        refine WL.append (d := 160) (T := 34) (cl := strC) (xs := []) (ys := xs) (c := ch) ekStr ho223 (hb18.sl ekStr) (by first | omega | (simp; omega)) (k := fun A232 c233 w234 ho235 k236 n237 => ?_)
                        have ol238 := olink_step ol224 K n237
                        have n239 : ∀ i, blk Ah = some i → ¬ blk A232 = some i := fun i hi e => n237.elim (fun n => n225 i hi (n ▸ e)) (fun ⟨k, n, hk⟩ => by rw [n] at e; cases e; exact absurd (hb18.lt _ hi) (Nat.not_lt.2 hk))
                        have n240 : ∀ i, blk A54 = some i → ¬ blk A232 = some i := fun i hi e => n237.elim (fun n => n226 i hi (n ▸ e)) (fun ⟨k, n, hk⟩ => by rw [n] at e; cases e; exact absurd (ho57.lt _ hi) (Nat.not_lt.2 hk))
                        have n241 : ∀ i, blk A115 = some i → ¬ blk A232 = some i := fun i hi e => n237.elim (fun n => n227 i hi (n ▸ e)) (fun ⟨k, n, hk⟩ => by rw [n] at e; cases e; exact absurd (ho118.lt _ hi) (Nat.not_lt.2 hk))
                        have zc242 := olink_step zc228 KC n237
                        have n243 := fp_step n237 n229 hd120.lt
                        have n244 := off_step n237 n230 (lt_of_heap hb40)
                        have n245 := off_step n237 n231 (lt_of_heap hb117)
                        replace hd120 := hd120.keeps k236 (fun i hi e => n229 i e hi)
                        replace hb18 := hb18.keeps k236 n225
                        replace hb40 := k236.heap hb40 n230
                        replace hb117 := k236.heap hb117 n231
                        replace ho57 := ho57.keeps k236 n226
                        replace ho118 := ho118.keeps k236 n227
                        replace hs127 := SlAt.cutT (b := xs.length) (c := c116) (ho118.sl ekStr) (by omega) (by omega)
                        replace hs209 := SlAt.cutD (a := xs.length) (c := c116) (ho118.sl ekStr) (by omega) (by omega)
                        replace K := K.trans' k236 (fun i hi e => absurd hi (Nat.not_lt.2 (ol224 i e)))
                        replace KC := KC.trans' k236 (fun i hi e => absurd hi (Nat.not_lt.2 (zc228 i e)))
                        clear ho223
                        refine WL.nil ?_
                        refine WX.nxt KC ?_
                        refine WA.step 7 (hi := rfl) (k := ?_)
                        refine WL.append (d := 165) (T := 34) (cl := strC) (xs := [] ++ xs) (ys := List.drop xs.length ys106) (c := (c116 - xs.length)) ekStr ho235 hs209 (by first | omega | (simp; omega)) (k := fun A246 c247 w248 ho249 k250 n251 => ?_)
                        have ol252 := olink_step ol238 K n251
                        have n253 : ∀ i, blk Ah = some i → ¬ blk A246 = some i := fun i hi e => n251.elim (fun n => n239 i hi (n ▸ e)) (fun ⟨k, n, hk⟩ => by rw [n] at e; cases e; exact absurd (hb18.lt _ hi) (Nat.not_lt.2 hk))
                        have n254 : ∀ i, blk A54 = some i → ¬ blk A246 = some i := fun i hi e => n251.elim (fun n => n240 i hi (n ▸ e)) (fun ⟨k, n, hk⟩ => by rw [n] at e; cases e; exact absurd (ho57.lt _ hi) (Nat.not_lt.2 hk))
                        have n255 : ∀ i, blk A115 = some i → ¬ blk A246 = some i := fun i hi e => n251.elim (fun n => n241 i hi (n ▸ e)) (fun ⟨k, n, hk⟩ => by rw [n] at e; cases e; exact absurd (ho118.lt _ hi) (Nat.not_lt.2 hk))
                        have zc256 := olink_step zc242 KC n251
                        have n257 := fp_step n251 n243 hd120.lt
                        have n258 := off_step n251 n244 (lt_of_heap hb40)
                        have n259 := off_step n251 n245 (lt_of_heap hb117)
                        replace hd120 := hd120.keeps k250 (fun i hi e => n243 i e hi)
                        replace hb18 := hb18.keeps k250 n239
                        replace hb40 := k250.heap hb40 n244
                        replace hb117 := k250.heap hb117 n245
                        replace ho57 := ho57.keeps k250 n240
                        replace ho118 := ho118.keeps k250 n241
                        replace hs127 := SlAt.cutT (b := xs.length) (c := c116) (ho118.sl ekStr) (by omega) (by omega)
                        replace hs209 := SlAt.cutD (a := xs.length) (c := c116) (ho118.sl ekStr) (by omega) (by omega)
                        replace K := K.trans' k250 (fun i hi e => absurd hi (Nat.not_lt.2 (ol238 i e)))
                        replace KC := KC.trans' k250 (fun i hi e => absurd hi (Nat.not_lt.2 (zc242 i e)))
                        clear ho235
                        refine WL.nil ?_
                        refine WX.nxt KC ?_
                        refine WA.step 8 (hi := rfl) (k := ?_)
                        refine WL.op (d := 8) (.slice A246 (([] ++ xs ++ (List.drop xs.length ys106)).length) c247) (k := ?_)
                        refine WL.nil ?_
                        refine WX.nxtL ?_
                        refine WA.done (k := ?_)
                        clear KC
                        refine WX.blockN ?_
                        refine WX.seqN ?_
                        refine WC.region ?_
                        refine WL.op (d := 36) (.int .i64 i) (k := ?_)
                        refine WL.opE (d := 37) (.int .i64 (IntKind.i64.wrap (i + 1))) (v := .int .i64 (i + 1)) (congrArg (Value.int .i64) (IntWalk.i64_in _ (by omega))) (k := ?_)
                        refine WL.op (d := 9) (.int .i64 (i + 1)) (k := ?_)
                        refine WL.nil ?_
                        have e260 : [] ++ xs ++ (List.drop xs.length ys106) = ys106 := hy110.cat
                        rw [e260] at ho249
                        refine WX.rw (t := 8) (v := .slice A246 ((ys106).length) c247) (congrArg (fun l => Value.slice A246 (List.length l) c247) e260) (k := ?_)
                        refine WX.round (i + 1, ys106, A246, c247, sc107, r112, S97) (by show (10 - (i + 1)).toNat < (10 - i).toNat; omega) ⟨(by kernel_rfl), (by kernel_rfl), (by kernel_rfl), (by kernel_rfl), (by kernel_rfl), (by kernel_rfl), (by kernel_rfl), (by kernel_rfl), (by kernel_rfl), (by kernel_rfl), (by kernel_rfl), (by kernel_rfl), (by kernel_rfl), trivial⟩ ⟨K, hd120, lk105, n257, ho249, ol252, (by omega), (by omega), lay109⟩
                · have ph131 := ne_of_beq_false h131
                  refine WL.rw (t := 125) (v := .bool false) (congrArg Value.bool h131) (k := ?_)
                  refine WL.skip (d := 126) (k := ?_)
                  refine WL.skip (d := 127) (k := ?_)
                  refine WL.skip (d := 128) (k := ?_)
                  refine WL.skip (d := 129) (k := ?_)
                  refine WL.skip (d := 130) (k := ?_)
                  refine WL.skip (d := 131) (k := ?_)
                  refine WL.op (d := 132) (.bool false) (k := ?_)
                  refine WL.op (d := 133) (.bool false) (k := ?_)
                  refine WL.op (d := 134) (.bool false) (k := ?_)
                  refine WL.op (d := 135) (.slice A115 (List.length ys106) c116) (k := ?_)
                  refine WL.op (d := 136) (.int .i64 ((List.length ys106) : Int)) (k := ?_)
                  refine WL.op (d := 137) (.slice Ah xs.length ch) (k := ?_)
                  refine WL.op (d := 138) (.int .i64 (xs.length : Int)) (k := ?_)
                  refine WL.op (d := 139) (.bool (decide (((List.length ys106) : Int) > (xs.length : Int)))) (k := ?_)
                  refine WL.op (d := 140) (.bool (decide (((List.length ys106) : Int) > (xs.length : Int)))) (k := ?_)
                  refine bsplit (decide (((List.length ys106) : Int) > (xs.length : Int))) (fun h261 => ?_) (fun h261 => ?_)
                  · have ph261 := of_decide_eq_true h261
                    refine WL.rw (t := 140) (v := .bool true) (congrArg Value.bool h261) (k := ?_)
                    refine WL.op (d := 141) (.slice A115 (List.length ys106) c116) (k := ?_)
                    refine WL.op (d := 142) (.slice Ah xs.length ch) (k := ?_)
                    refine WL.op (d := 143) (.int .i64 (xs.length : Int)) (k := ?_)
                    obtain ⟨b262, o263, r264, hr265, hA266, he267⟩ := SlAt.at (ho118.sl ekStr) (i := (xs.length : Int)) (by omega) (by omega)
                    refine WL.rw (t := 141) (v := .slice (some ⟨b262, o263, none⟩) (List.length ys106) c116) (congrArg (fun a => Value.slice a (List.length ys106) c116) hA266) (k := ?_)
                    have e_r264 : r264 = List.take 43 r24.t := hy110.last (by omega) hr265
                    have h268 : (decide (r264 = List.take 43 r24.t)) = true := decide_eq_true e_r264
                    have ph268 := of_decide_eq_true h268
                    refine WL.idx (T := 34) (E := 9) (m := 1) (b := b262) (o := o263) (len := (List.length ys106)) (cap := c116) (i := (xs.length : Int)) (kk := .i64) (d := 144) (by omega) (by omega) (k := ?_)
                    refine WL.rw (t := 141) (v := .slice A115 (List.length ys106) c116) (congrArg (fun a => Value.slice a (List.length ys106) c116) (Eq.symm hA266)) (k := ?_)
                    refine WL.load (v := .string ⟨(r264).toArray⟩) (he267.ld0 (T := 9)) (k := ?_)
                    refine WL.op (d := 146) (.string ⟨(List.take 43 r24.t).toArray⟩) (k := ?_)
                    refine WL.opE (d := 147) (.bool !(ByteArray.toList ⟨(r264).toArray⟩ == ByteArray.toList ⟨(List.take 43 r24.t).toArray⟩)) (v := .bool (!(decide (r264 = List.take 43 r24.t)))) (str_neq _ _) (k := ?_)
                    refine WL.op (d := 148) (.bool (!(decide (r264 = List.take 43 r24.t)))) (k := ?_)
                    refine WL.op (d := 149) (.bool (!(decide (r264 = List.take 43 r24.t)))) (k := ?_)
                    refine WL.op (d := 150) (.bool (!(decide (r264 = List.take 43 r24.t)))) (k := ?_)
                    refine WL.rw (t := 150) (v := .bool false) (congrArg Value.bool (congrArg Bool.not h268)) (k := ?_)
                    refine WL.op (d := 151) (.int .i64 ev83) (k := ?_)
                    refine WL.op (d := 152) (.bool (ev83 == 22)) (k := ?_)
                    refine WL.op (d := 153) (.slice Ah xs.length ch) (k := ?_)
                    refine WL.op (d := 154) (.int .i64 (xs.length : Int)) (k := ?_)
                    refine WL.op (d := 155) (.bool ((xs.length : Int) == 8)) (k := ?_)
                    refine WL.op (d := 156) (.bool (!((ev83 == 22) == ((xs.length : Int) == 8)))) (k := ?_)
                    refine WL.op (d := 157) (.bool (!((ev83 == 22) == ((xs.length : Int) == 8)))) (k := ?_)
                    refine WL.nil ?_
                    refine WX.seqN ?_
                    refine WC.cond (b := !((ev83 == 22) == ((xs.length : Int) == 8))) (ht := fun h269 => ?_) (hf := fun h269 => ?_)
                    · have h270 : ((ev83 == 22) == ((xs.length : Int) == 8)) = false := Bool.not_inj (y := false) h269
                      have ph270 := ne_of_beq_false h270
                      refine WC.seq ?_
                      refine WC.region ?_
                      refine WL.op (d := 4) (.bool false) (k := ?_)
                      refine WL.nil ?_
                      refine WX.seqN ?_
                      refine WC.ret ?_
                      refine WX.seqR ?_
                      refine WX.blockR ?_
                      refine WX.seqR ?_
                      refine WX.seqR ?_
                      refine WX.blockR ?_
                      refine WX.seqR ?_
                      refine WX.ret (rs := [.tmp 4]) [.bool false] (.bool false) ⟨(by kernel_rfl), trivial⟩ (k := ?_)
                      by_cases c1_ : ev83 = 22 <;> by_cases c2_ : (xs.length : Int) = 8 <;> first | (exfalso; omega) | (rw [c1_, c2_] at h270; exact absurd h270 (by decide)) | (rw [beq_eq_false_iff_ne.2 c1_, beq_eq_false_iff_ne.2 c2_] at h270; exact absurd h270 (by decide))
                    · have h271 : ((ev83 == 22) == ((xs.length : Int) == 8)) = true := Bool.not_inj (y := true) h269
                      have ph271 := eq_of_beq h271
                      refine WC.skip ?_
                      refine WX.seqN ?_
                      refine WC.mixed (fun _ => False) 8 (k := fun w272 k273 => ?_)
                      replace hd120 := hd120.adds k273
                      replace hb18 := hb18.adds k273
                      replace hb40 := k273.heap hb40 id
                      replace hb117 := k273.heap hb117 id
                      replace ho57 := ho57.adds k273
                      replace ho118 := ho118.adds k273
                      replace hs127 := SlAt.cutT (b := xs.length) (c := c116) (ho118.sl ekStr) (by omega) (by omega)
                      replace he267 := he267.adds k273
                      replace K := K.trans (k273.any _)
                      have KC := Keeps.refl (fun _ => False) w272
                      have bh274 := hb40
                      have bh275 := hb117
                      have Kb := K
                      refine WA.quiet 1 (d := 159) (.slice Ah xs.length ch) KC (hi := rfl) (k := ?_)
                      refine WA.quiet 3 (d := 161) (.slice A115 (List.length ys106) c116) KC (hi := rfl) (k := ?_)
                      refine WA.quiet 4 (d := 162) (.slice Ah xs.length ch) KC (hi := rfl) (k := ?_)
                      refine WA.quiet 5 (d := 163) (.int .i64 (xs.length : Int)) KC (hi := rfl) (k := ?_)
                      have cl276 := OwAt.cap_le ho118
                      have hs277 := SlAt.cutD (a := xs.length) (c := c116) (ho118.sl ekStr) (by omega) (by omega)
                      refine WA.quietR 6 (d := 164) (.slice (cutA A115 c116 xs.length 1) ((List.drop xs.length ys106).length) (c116 - xs.length)) KC (exec_cut (vx := .slice A115 (List.length ys106) c116) (lo' := (some (.int .i64 (xs.length : Int)))) (hi' := none) (mx' := none) (fun _ => run_cutSl (a := xs.length) (b := (List.length ys106)) (c := c116) (m := 1) (E := 9) (by kernel_rfl) (by kernel_rfl) (.inl ⟨rfl, rfl⟩) (.inl ⟨rfl, rfl, rfl⟩) (.inr ⟨_, _, rfl, by omega⟩) (by omega) (by omega) rfl (by simp <;> omega) (by omega))) (hi := rfl) (k := ?_)
                      refine WA.step 0 (hi := rfl) (k := ?_)
                      refine WL.newF (d := 158) (T := 9) #[] (fun b => .slice (some ⟨b, 0, none⟩) 0 0) (k := fun b278 w279 g280 hb281 k282 => ?_)
                      have z283 := Nat.le_trans K.size g280
                      have zc284 := Nat.le_trans KC.size g280
                      have n285 : ¬ S97 b278 := fun h => absurd (hd120.lt _ h) (Nat.not_lt.2 g280)
                      have n286 := OwAt.off_new hb18 g280
                      have n287 : b31 ≠ b278 := Nat.ne_of_lt (Nat.lt_of_lt_of_le (lt_of_heap hb40) g280)
                      have n288 : b43 ≠ b278 := Nat.ne_of_lt (Nat.lt_of_lt_of_le (lt_of_heap hb117) g280)
                      have n289 := OwAt.off_new ho57 g280
                      have n290 := OwAt.off_new ho118 g280
                      replace hd120 := hd120.adds k282
                      replace hb18 := hb18.adds k282
                      replace hb40 := k282.heap hb40 id
                      replace hb117 := k282.heap hb117 id
                      replace ho57 := ho57.adds k282
                      replace ho118 := ho118.adds k282
                      replace hs127 := SlAt.cutT (b := xs.length) (c := c116) (ho118.sl ekStr) (by omega) (by omega)
                      replace he267 := he267.adds k282
                      replace hs277 := SlAt.cutD (a := xs.length) (c := c116) (ho118.sl ekStr) (by omega) (by omega)
                      replace K := K.trans (k282.any _)
                      replace KC := KC.trans (k282.any _)
                      refine WL.nil ?_
                      refine WX.nxt KC ?_
                      refine WA.step 2 (hi := rfl) (k := ?_)
                      have ho291 := OwAt.empty (cl := strC) (m := 1) hb281
                      have ol292 : ∀ i, blk (some ⟨b278, 0, none⟩) = some i → w.heap.size ≤ i := fun i e => by cases e; exact z283
                      have n293 : ∀ i, blk Ah = some i → ¬ blk (some ⟨b278, 0, none⟩) = some i := fun i hi e => by cases e; exact n286 hi
                      have n294 : ∀ i, blk A54 = some i → ¬ blk (some ⟨b278, 0, none⟩) = some i := fun i hi e => by cases e; exact n289 hi
                      have n295 : ∀ i, blk A115 = some i → ¬ blk (some ⟨b278, 0, none⟩) = some i := fun i hi e => by cases e; exact n290 hi
                      have zc296 : ∀ i, blk (some ⟨b278, 0, none⟩) = some i → w272.heap.size ≤ i := fun i e => by cases e; exact zc284
                      have n297 : ∀ i, blk (some ⟨b278, 0, none⟩) = some i → ¬ S97 i := fun i e => by cases e; exact n285
                      have n298 : ¬ blk (some ⟨b278, 0, none⟩) = some b31 := fun e => by cases e; exact n287 rfl
                      have n299 : ¬ blk (some ⟨b278, 0, none⟩) = some b43 := fun e => by cases e; exact n288 rfl
                      refine WL.append (d := 160) (T := 34) (cl := strC) (xs := []) (ys := xs) (c := ch) ekStr ho291 (hb18.sl ekStr) (by first | omega | (simp; omega)) (k := fun A300 c301 w302 ho303 k304 n305 => ?_)
                      have ol306 := olink_step ol292 K n305
                      have n307 : ∀ i, blk Ah = some i → ¬ blk A300 = some i := fun i hi e => n305.elim (fun n => n293 i hi (n ▸ e)) (fun ⟨k, n, hk⟩ => by rw [n] at e; cases e; exact absurd (hb18.lt _ hi) (Nat.not_lt.2 hk))
                      have n308 : ∀ i, blk A54 = some i → ¬ blk A300 = some i := fun i hi e => n305.elim (fun n => n294 i hi (n ▸ e)) (fun ⟨k, n, hk⟩ => by rw [n] at e; cases e; exact absurd (ho57.lt _ hi) (Nat.not_lt.2 hk))
                      have n309 : ∀ i, blk A115 = some i → ¬ blk A300 = some i := fun i hi e => n305.elim (fun n => n295 i hi (n ▸ e)) (fun ⟨k, n, hk⟩ => by rw [n] at e; cases e; exact absurd (ho118.lt _ hi) (Nat.not_lt.2 hk))
                      have zc310 := olink_step zc296 KC n305
                      have n311 := fp_step n305 n297 hd120.lt
                      have n312 := off_step n305 n298 (lt_of_heap hb40)
                      have n313 := off_step n305 n299 (lt_of_heap hb117)
                      replace hd120 := hd120.keeps k304 (fun i hi e => n297 i e hi)
                      replace hb18 := hb18.keeps k304 n293
                      replace hb40 := k304.heap hb40 n298
                      replace hb117 := k304.heap hb117 n299
                      replace ho57 := ho57.keeps k304 n294
                      replace ho118 := ho118.keeps k304 n295
                      replace hs127 := SlAt.cutT (b := xs.length) (c := c116) (ho118.sl ekStr) (by omega) (by omega)
                      replace hs277 := SlAt.cutD (a := xs.length) (c := c116) (ho118.sl ekStr) (by omega) (by omega)
                      replace K := K.trans' k304 (fun i hi e => absurd hi (Nat.not_lt.2 (ol292 i e)))
                      replace KC := KC.trans' k304 (fun i hi e => absurd hi (Nat.not_lt.2 (zc296 i e)))
                      clear ho291
                      refine WL.nil ?_
                      refine WX.nxt KC ?_
                      refine WA.step 7 (hi := rfl) (k := ?_)
                      refine WL.append (d := 165) (T := 34) (cl := strC) (xs := [] ++ xs) (ys := List.drop xs.length ys106) (c := (c116 - xs.length)) ekStr ho303 hs277 (by first | omega | (simp; omega)) (k := fun A314 c315 w316 ho317 k318 n319 => ?_)
                      have ol320 := olink_step ol306 K n319
                      have n321 : ∀ i, blk Ah = some i → ¬ blk A314 = some i := fun i hi e => n319.elim (fun n => n307 i hi (n ▸ e)) (fun ⟨k, n, hk⟩ => by rw [n] at e; cases e; exact absurd (hb18.lt _ hi) (Nat.not_lt.2 hk))
                      have n322 : ∀ i, blk A54 = some i → ¬ blk A314 = some i := fun i hi e => n319.elim (fun n => n308 i hi (n ▸ e)) (fun ⟨k, n, hk⟩ => by rw [n] at e; cases e; exact absurd (ho57.lt _ hi) (Nat.not_lt.2 hk))
                      have n323 : ∀ i, blk A115 = some i → ¬ blk A314 = some i := fun i hi e => n319.elim (fun n => n309 i hi (n ▸ e)) (fun ⟨k, n, hk⟩ => by rw [n] at e; cases e; exact absurd (ho118.lt _ hi) (Nat.not_lt.2 hk))
                      have zc324 := olink_step zc310 KC n319
                      have n325 := fp_step n319 n311 hd120.lt
                      have n326 := off_step n319 n312 (lt_of_heap hb40)
                      have n327 := off_step n319 n313 (lt_of_heap hb117)
                      replace hd120 := hd120.keeps k318 (fun i hi e => n311 i e hi)
                      replace hb18 := hb18.keeps k318 n307
                      replace hb40 := k318.heap hb40 n312
                      replace hb117 := k318.heap hb117 n313
                      replace ho57 := ho57.keeps k318 n308
                      replace ho118 := ho118.keeps k318 n309
                      replace hs127 := SlAt.cutT (b := xs.length) (c := c116) (ho118.sl ekStr) (by omega) (by omega)
                      replace hs277 := SlAt.cutD (a := xs.length) (c := c116) (ho118.sl ekStr) (by omega) (by omega)
                      replace K := K.trans' k318 (fun i hi e => absurd hi (Nat.not_lt.2 (ol306 i e)))
                      replace KC := KC.trans' k318 (fun i hi e => absurd hi (Nat.not_lt.2 (zc310 i e)))
                      clear ho303
                      refine WL.nil ?_
                      refine WX.nxt KC ?_
                      refine WA.step 8 (hi := rfl) (k := ?_)
                      refine WL.op (d := 8) (.slice A314 (([] ++ xs ++ (List.drop xs.length ys106)).length) c315) (k := ?_)
                      refine WL.nil ?_
                      refine WX.nxtL ?_
                      refine WA.done (k := ?_)
                      clear KC
                      refine WX.blockN ?_
                      refine WX.seqN ?_
                      refine WC.region ?_
                      refine WL.op (d := 36) (.int .i64 i) (k := ?_)
                      refine WL.opE (d := 37) (.int .i64 (IntKind.i64.wrap (i + 1))) (v := .int .i64 (i + 1)) (congrArg (Value.int .i64) (IntWalk.i64_in _ (by omega))) (k := ?_)
                      refine WL.op (d := 9) (.int .i64 (i + 1)) (k := ?_)
                      refine WL.nil ?_
                      have e328 : [] ++ xs ++ (List.drop xs.length ys106) = ys106 := hy110.cat
                      rw [e328] at ho317
                      refine WX.rw (t := 8) (v := .slice A314 ((ys106).length) c315) (congrArg (fun l => Value.slice A314 (List.length l) c315) e328) (k := ?_)
                      refine WX.round (i + 1, ys106, A314, c315, sc107, r112, S97) (by show (10 - (i + 1)).toNat < (10 - i).toNat; omega) ⟨(by kernel_rfl), (by kernel_rfl), (by kernel_rfl), (by kernel_rfl), (by kernel_rfl), (by kernel_rfl), (by kernel_rfl), (by kernel_rfl), (by kernel_rfl), (by kernel_rfl), (by kernel_rfl), (by kernel_rfl), (by kernel_rfl), trivial⟩ ⟨K, hd120, lk105, n325, ho317, ol320, (by omega), (by omega), lay109⟩
                  · have ph261 := of_decide_eq_false h261
                    refine WL.rw (t := 140) (v := .bool false) (congrArg Value.bool h261) (k := ?_)
                    refine WL.skip (d := 141) (k := ?_)
                    refine WL.skip (d := 142) (k := ?_)
                    refine WL.skip (d := 143) (k := ?_)
                    refine WL.skip (d := 144) (k := ?_)
                    refine WL.skip (d := 145) (k := ?_)
                    refine WL.skip (d := 146) (k := ?_)
                    refine WL.skip (d := 147) (k := ?_)
                    refine WL.op (d := 148) (.bool false) (k := ?_)
                    refine WL.op (d := 149) (.bool false) (k := ?_)
                    refine WL.op (d := 150) (.bool false) (k := ?_)
                    refine WL.op (d := 151) (.int .i64 ev83) (k := ?_)
                    refine WL.op (d := 152) (.bool (ev83 == 22)) (k := ?_)
                    refine WL.op (d := 153) (.slice Ah xs.length ch) (k := ?_)
                    refine WL.op (d := 154) (.int .i64 (xs.length : Int)) (k := ?_)
                    refine WL.op (d := 155) (.bool ((xs.length : Int) == 8)) (k := ?_)
                    refine WL.op (d := 156) (.bool (!((ev83 == 22) == ((xs.length : Int) == 8)))) (k := ?_)
                    refine WL.op (d := 157) (.bool (!((ev83 == 22) == ((xs.length : Int) == 8)))) (k := ?_)
                    refine WL.nil ?_
                    refine WX.seqN ?_
                    refine WC.cond (b := !((ev83 == 22) == ((xs.length : Int) == 8))) (ht := fun h329 => ?_) (hf := fun h329 => ?_)
                    · have h330 : ((ev83 == 22) == ((xs.length : Int) == 8)) = false := Bool.not_inj (y := false) h329
                      have ph330 := ne_of_beq_false h330
                      refine WC.seq ?_
                      refine WC.region ?_
                      refine WL.op (d := 4) (.bool false) (k := ?_)
                      refine WL.nil ?_
                      refine WX.seqN ?_
                      refine WC.ret ?_
                      refine WX.seqR ?_
                      refine WX.blockR ?_
                      refine WX.seqR ?_
                      refine WX.seqR ?_
                      refine WX.blockR ?_
                      refine WX.seqR ?_
                      refine WX.ret (rs := [.tmp 4]) [.bool false] (.bool false) ⟨(by kernel_rfl), trivial⟩ (k := ?_)
                      by_cases c1_ : ev83 = 22 <;> by_cases c2_ : (xs.length : Int) = 8 <;> first | (exfalso; omega) | (rw [c1_, c2_] at h330; exact absurd h330 (by decide)) | (rw [beq_eq_false_iff_ne.2 c1_, beq_eq_false_iff_ne.2 c2_] at h330; exact absurd h330 (by decide))
                    · have h331 : ((ev83 == 22) == ((xs.length : Int) == 8)) = true := Bool.not_inj (y := true) h329
                      have ph331 := eq_of_beq h331
                      refine WC.skip ?_
                      refine WX.seqN ?_
                      refine WC.mixed (fun _ => False) 8 (k := fun w332 k333 => ?_)
                      replace hd120 := hd120.adds k333
                      replace hb18 := hb18.adds k333
                      replace hb40 := k333.heap hb40 id
                      replace hb117 := k333.heap hb117 id
                      replace ho57 := ho57.adds k333
                      replace ho118 := ho118.adds k333
                      replace hs127 := SlAt.cutT (b := xs.length) (c := c116) (ho118.sl ekStr) (by omega) (by omega)
                      replace K := K.trans (k333.any _)
                      have KC := Keeps.refl (fun _ => False) w332
                      have bh334 := hb40
                      have bh335 := hb117
                      have Kb := K
                      refine WA.quiet 1 (d := 159) (.slice Ah xs.length ch) KC (hi := rfl) (k := ?_)
                      refine WA.quiet 3 (d := 161) (.slice A115 (List.length ys106) c116) KC (hi := rfl) (k := ?_)
                      refine WA.quiet 4 (d := 162) (.slice Ah xs.length ch) KC (hi := rfl) (k := ?_)
                      refine WA.quiet 5 (d := 163) (.int .i64 (xs.length : Int)) KC (hi := rfl) (k := ?_)
                      have cl336 := OwAt.cap_le ho118
                      have hs337 := SlAt.cutD (a := xs.length) (c := c116) (ho118.sl ekStr) (by omega) (by omega)
                      refine WA.quietR 6 (d := 164) (.slice (cutA A115 c116 xs.length 1) ((List.drop xs.length ys106).length) (c116 - xs.length)) KC (exec_cut (vx := .slice A115 (List.length ys106) c116) (lo' := (some (.int .i64 (xs.length : Int)))) (hi' := none) (mx' := none) (fun _ => run_cutSl (a := xs.length) (b := (List.length ys106)) (c := c116) (m := 1) (E := 9) (by kernel_rfl) (by kernel_rfl) (.inl ⟨rfl, rfl⟩) (.inl ⟨rfl, rfl, rfl⟩) (.inr ⟨_, _, rfl, by omega⟩) (by omega) (by omega) rfl (by simp <;> omega) (by omega))) (hi := rfl) (k := ?_)
                      refine WA.step 0 (hi := rfl) (k := ?_)
                      refine WL.newF (d := 158) (T := 9) #[] (fun b => .slice (some ⟨b, 0, none⟩) 0 0) (k := fun b338 w339 g340 hb341 k342 => ?_)
                      have z343 := Nat.le_trans K.size g340
                      have zc344 := Nat.le_trans KC.size g340
                      have n345 : ¬ S97 b338 := fun h => absurd (hd120.lt _ h) (Nat.not_lt.2 g340)
                      have n346 := OwAt.off_new hb18 g340
                      have n347 : b31 ≠ b338 := Nat.ne_of_lt (Nat.lt_of_lt_of_le (lt_of_heap hb40) g340)
                      have n348 : b43 ≠ b338 := Nat.ne_of_lt (Nat.lt_of_lt_of_le (lt_of_heap hb117) g340)
                      have n349 := OwAt.off_new ho57 g340
                      have n350 := OwAt.off_new ho118 g340
                      replace hd120 := hd120.adds k342
                      replace hb18 := hb18.adds k342
                      replace hb40 := k342.heap hb40 id
                      replace hb117 := k342.heap hb117 id
                      replace ho57 := ho57.adds k342
                      replace ho118 := ho118.adds k342
                      replace hs127 := SlAt.cutT (b := xs.length) (c := c116) (ho118.sl ekStr) (by omega) (by omega)
                      replace hs337 := SlAt.cutD (a := xs.length) (c := c116) (ho118.sl ekStr) (by omega) (by omega)
                      replace K := K.trans (k342.any _)
                      replace KC := KC.trans (k342.any _)
                      refine WL.nil ?_
                      refine WX.nxt KC ?_
                      refine WA.step 2 (hi := rfl) (k := ?_)
                      have ho351 := OwAt.empty (cl := strC) (m := 1) hb341
                      have ol352 : ∀ i, blk (some ⟨b338, 0, none⟩) = some i → w.heap.size ≤ i := fun i e => by cases e; exact z343
                      have n353 : ∀ i, blk Ah = some i → ¬ blk (some ⟨b338, 0, none⟩) = some i := fun i hi e => by cases e; exact n346 hi
                      have n354 : ∀ i, blk A54 = some i → ¬ blk (some ⟨b338, 0, none⟩) = some i := fun i hi e => by cases e; exact n349 hi
                      have n355 : ∀ i, blk A115 = some i → ¬ blk (some ⟨b338, 0, none⟩) = some i := fun i hi e => by cases e; exact n350 hi
                      have zc356 : ∀ i, blk (some ⟨b338, 0, none⟩) = some i → w332.heap.size ≤ i := fun i e => by cases e; exact zc344
                      have n357 : ∀ i, blk (some ⟨b338, 0, none⟩) = some i → ¬ S97 i := fun i e => by cases e; exact n345
                      have n358 : ¬ blk (some ⟨b338, 0, none⟩) = some b31 := fun e => by cases e; exact n347 rfl
                      have n359 : ¬ blk (some ⟨b338, 0, none⟩) = some b43 := fun e => by cases e; exact n348 rfl
                      refine WL.append (d := 160) (T := 34) (cl := strC) (xs := []) (ys := xs) (c := ch) ekStr ho351 (hb18.sl ekStr) (by first | omega | (simp; omega)) (k := fun A360 c361 w362 ho363 k364 n365 => ?_)
                      have ol366 := olink_step ol352 K n365
                      have n367 : ∀ i, blk Ah = some i → ¬ blk A360 = some i := fun i hi e => n365.elim (fun n => n353 i hi (n ▸ e)) (fun ⟨k, n, hk⟩ => by rw [n] at e; cases e; exact absurd (hb18.lt _ hi) (Nat.not_lt.2 hk))
                      have n368 : ∀ i, blk A54 = some i → ¬ blk A360 = some i := fun i hi e => n365.elim (fun n => n354 i hi (n ▸ e)) (fun ⟨k, n, hk⟩ => by rw [n] at e; cases e; exact absurd (ho57.lt _ hi) (Nat.not_lt.2 hk))
                      have n369 : ∀ i, blk A115 = some i → ¬ blk A360 = some i := fun i hi e => n365.elim (fun n => n355 i hi (n ▸ e)) (fun ⟨k, n, hk⟩ => by rw [n] at e; cases e; exact absurd (ho118.lt _ hi) (Nat.not_lt.2 hk))
                      have zc370 := olink_step zc356 KC n365
                      have n371 := fp_step n365 n357 hd120.lt
                      have n372 := off_step n365 n358 (lt_of_heap hb40)
                      have n373 := off_step n365 n359 (lt_of_heap hb117)
                      replace hd120 := hd120.keeps k364 (fun i hi e => n357 i e hi)
                      replace hb18 := hb18.keeps k364 n353
                      replace hb40 := k364.heap hb40 n358
                      replace hb117 := k364.heap hb117 n359
                      replace ho57 := ho57.keeps k364 n354
                      replace ho118 := ho118.keeps k364 n355
                      replace hs127 := SlAt.cutT (b := xs.length) (c := c116) (ho118.sl ekStr) (by omega) (by omega)
                      replace hs337 := SlAt.cutD (a := xs.length) (c := c116) (ho118.sl ekStr) (by omega) (by omega)
                      replace K := K.trans' k364 (fun i hi e => absurd hi (Nat.not_lt.2 (ol352 i e)))
                      replace KC := KC.trans' k364 (fun i hi e => absurd hi (Nat.not_lt.2 (zc356 i e)))
                      clear ho351
                      refine WL.nil ?_
                      refine WX.nxt KC ?_
                      refine WA.step 7 (hi := rfl) (k := ?_)
                      refine WL.append (d := 165) (T := 34) (cl := strC) (xs := [] ++ xs) (ys := List.drop xs.length ys106) (c := (c116 - xs.length)) ekStr ho363 hs337 (by first | omega | (simp; omega)) (k := fun A374 c375 w376 ho377 k378 n379 => ?_)
                      have ol380 := olink_step ol366 K n379
                      have n381 : ∀ i, blk Ah = some i → ¬ blk A374 = some i := fun i hi e => n379.elim (fun n => n367 i hi (n ▸ e)) (fun ⟨k, n, hk⟩ => by rw [n] at e; cases e; exact absurd (hb18.lt _ hi) (Nat.not_lt.2 hk))
                      have n382 : ∀ i, blk A54 = some i → ¬ blk A374 = some i := fun i hi e => n379.elim (fun n => n368 i hi (n ▸ e)) (fun ⟨k, n, hk⟩ => by rw [n] at e; cases e; exact absurd (ho57.lt _ hi) (Nat.not_lt.2 hk))
                      have n383 : ∀ i, blk A115 = some i → ¬ blk A374 = some i := fun i hi e => n379.elim (fun n => n369 i hi (n ▸ e)) (fun ⟨k, n, hk⟩ => by rw [n] at e; cases e; exact absurd (ho118.lt _ hi) (Nat.not_lt.2 hk))
                      have zc384 := olink_step zc370 KC n379
                      have n385 := fp_step n379 n371 hd120.lt
                      have n386 := off_step n379 n372 (lt_of_heap hb40)
                      have n387 := off_step n379 n373 (lt_of_heap hb117)
                      replace hd120 := hd120.keeps k378 (fun i hi e => n371 i e hi)
                      replace hb18 := hb18.keeps k378 n367
                      replace hb40 := k378.heap hb40 n372
                      replace hb117 := k378.heap hb117 n373
                      replace ho57 := ho57.keeps k378 n368
                      replace ho118 := ho118.keeps k378 n369
                      replace hs127 := SlAt.cutT (b := xs.length) (c := c116) (ho118.sl ekStr) (by omega) (by omega)
                      replace hs337 := SlAt.cutD (a := xs.length) (c := c116) (ho118.sl ekStr) (by omega) (by omega)
                      replace K := K.trans' k378 (fun i hi e => absurd hi (Nat.not_lt.2 (ol366 i e)))
                      replace KC := KC.trans' k378 (fun i hi e => absurd hi (Nat.not_lt.2 (zc370 i e)))
                      clear ho363
                      refine WL.nil ?_
                      refine WX.nxt KC ?_
                      refine WA.step 8 (hi := rfl) (k := ?_)
                      refine WL.op (d := 8) (.slice A374 (([] ++ xs ++ (List.drop xs.length ys106)).length) c375) (k := ?_)
                      refine WL.nil ?_
                      refine WX.nxtL ?_
                      refine WA.done (k := ?_)
                      clear KC
                      refine WX.blockN ?_
                      refine WX.seqN ?_
                      refine WC.region ?_
                      refine WL.op (d := 36) (.int .i64 i) (k := ?_)
                      refine WL.opE (d := 37) (.int .i64 (IntKind.i64.wrap (i + 1))) (v := .int .i64 (i + 1)) (congrArg (Value.int .i64) (IntWalk.i64_in _ (by omega))) (k := ?_)
                      refine WL.op (d := 9) (.int .i64 (i + 1)) (k := ?_)
                      refine WL.nil ?_
                      have e388 : [] ++ xs ++ (List.drop xs.length ys106) = ys106 := hy110.cat
                      rw [e388] at ho377
                      refine WX.rw (t := 8) (v := .slice A374 ((ys106).length) c375) (congrArg (fun l => Value.slice A374 (List.length l) c375) e388) (k := ?_)
                      refine WX.round (i + 1, ys106, A374, c375, sc107, r112, S97) (by show (10 - (i + 1)).toNat < (10 - i).toNat; omega) ⟨(by kernel_rfl), (by kernel_rfl), (by kernel_rfl), (by kernel_rfl), (by kernel_rfl), (by kernel_rfl), (by kernel_rfl), (by kernel_rfl), (by kernel_rfl), (by kernel_rfl), (by kernel_rfl), (by kernel_rfl), (by kernel_rfl), trivial⟩ ⟨K, hd120, lk105, n385, ho377, ol380, (by omega), (by omega), lay109⟩
      · have ph21 := of_decide_eq_false h21
        refine WC.exit ?_
        refine WX.seqE ?_
        refine WX.seqE ?_
        refine WX.blockE ?_
        refine WX.seqN ?_
        refine WC.seq ?_
        refine WC.region ?_
        refine WL.op (d := 166) (.bool true) (k := ?_)
        refine WL.op (d := 4) (.bool true) (k := ?_)
        refine WL.nil ?_
        refine WX.seqN ?_
        refine WC.ret ?_
        refine WX.ret (rs := [.tmp 4]) [.bool true] (.bool true) ⟨(by kernel_rfl), trivial⟩ (k := ?_)
        exact ⟨rfl, K⟩
    · have ph20 := of_decide_eq_false h20
      refine WL.rw (t := 32) (v := .bool false) (congrArg Value.bool h20) (k := ?_)
      refine WL.skip (d := 33) (k := ?_)
      refine WL.skip (d := 34) (k := ?_)
      refine WL.op (d := 35) (.bool false) (k := ?_)
      refine WL.nil ?_
      refine WX.seqN ?_
      refine WC.condF (k := ?_)
      refine WC.exit ?_
      refine WX.seqE ?_
      refine WX.seqE ?_
      refine WX.blockE ?_
      refine WX.seqN ?_
      refine WC.seq ?_
      refine WC.region ?_
      refine WL.op (d := 166) (.bool true) (k := ?_)
      refine WL.op (d := 4) (.bool true) (k := ?_)
      refine WL.nil ?_
      refine WX.seqN ?_
      refine WC.ret ?_
      refine WX.ret (rs := [.tmp 4]) [.bool true] (.bool true) ⟨(by kernel_rfl), trivial⟩ (k := ?_)
      exact ⟨rfl, K⟩
  · refine WC.seq ?_
    refine WC.region ?_
    refine WL.op (d := 24) (.int .u64 (ep.toNat : Int)) (k := ?_)
    refine WL.op (d := 25) (.bool ((ep.toNat : Int) == 0)) (k := ?_)
    refine WL.nil ?_
    refine WX.seqN ?_
    refine WC.cond (b := (ep.toNat : Int) == 0) (ht := fun h389 => ?_) (hf := fun h389 => ?_)
    · have ph389 := eq_of_beq h389
      refine WC.region ?_
      refine WL.op (d := 7) (.int .u64 1) (k := ?_)
      refine WL.nil ?_
      exact WX.joinN (1) ⟨(by omega), (by omega)⟩ ⟨(by kernel_rfl), (by kernel_rfl), (by kernel_rfl), (by kernel_rfl), (by kernel_rfl), (by kernel_rfl), (by kernel_rfl), (by kernel_rfl), (by kernel_rfl), (by kernel_rfl), trivial⟩
    · have ph389 := ne_of_beq_false h389
      refine WC.skip ?_
      exact WX.joinN (ep.toNat) ⟨(by omega), (by omega)⟩ ⟨(by kernel_rfl), (by kernel_rfl), (by kernel_rfl), (by kernel_rfl), (by kernel_rfl), (by kernel_rfl), (by kernel_rfl), (by kernel_rfl), (by kernel_rfl), (by kernel_rfl), trivial⟩

end Go.Proofs.YtdoenmokahbeaaaGreatDoor
