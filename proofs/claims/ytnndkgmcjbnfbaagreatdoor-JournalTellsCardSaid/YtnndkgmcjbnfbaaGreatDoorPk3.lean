/- SvA: one behind the other. -/
import Derived.Test.YtnndkgmcjbnfbaaGreatDoorPk2
namespace Go.Proofs.YtnndkgmcjbnfbaaGreatDoor
open Go.RowKit
set_option linter.unusedVariables false
set_option linter.unusedSimpArgs false
instance (s : List UInt8) (e i : Nat) : Decidable (recS s e i) := inferInstanceAs (Decidable (isCell s ∧ rdE s = e ∧ rdN s = i))
structure SvR where
  is : Bool
  ep : Nat
  dt : List UInt8
  nw : Nat
  d : GDisk
  bad : Int
def ep1 (i : Nat) (x : List UInt8) (ep : Nat) : Nat := if i = 0 then tgE x else ep
def slotGo (a : Int) : Nat → Nat → Bool → Nat → List UInt8 → Nat → GDisk → SvR
  | 0, _, is, ep, dt, nw, d => ⟨is, ep, dt, nw, d, 0⟩
  | f + 1, i, is, ep, dt, nw, d => if d.readE (a + (i : Int)) = 0 then slotGo a f (i + 1) (is && decide (recS (d.readT (a + (i : Int))) (ep1 i (d.readT (a + (i : Int))) ep) i)) (ep1 i (d.readT (a + (i : Int))) ep) (dt ++ rdP (d.readT (a + (i : Int)))) (max nw (tgE (d.readT (a + (i : Int))))) (d.readD (a + (i : Int)))
    else ⟨is, ep, dt, nw, d.readD (a + (i : Int)), d.readE (a + (i : Int))⟩
section
variable {a k : Int} {i : Nat} {is : Bool} {ep nw : Nat} {dt : List UInt8} {d : GDisk} {R : SvR}
theorem slot_end (h : R = slotGo a (k.toNat - i) i is ep dt nw d) (hl : k ≤ (i : Int)) : R = ⟨is, ep, dt, nw, d, 0⟩ := by
  rw [h, show k.toNat - i = 0 by omega]; rfl
theorem slot_stop (h : R = slotGo a (k.toNat - i) i is ep dt nw d) (hl : (i : Int) < k) (hr : ¬ d.readE (a + (i : Int)) = 0) : R = ⟨is, ep, dt, nw, d.readD (a + (i : Int)), d.readE (a + (i : Int))⟩ := by
  obtain ⟨m, hm⟩ : ∃ m, k.toNat - i = m + 1 := ⟨k.toNat - i - 1, by omega⟩
  rw [h, hm, slotGo, if_neg hr]
theorem slot_go (h : R = slotGo a (k.toNat - i) i is ep dt nw d) (hl : (i : Int) < k) (hr : d.readE (a + (i : Int)) = 0) : R = slotGo a (k.toNat - (i + 1)) (i + 1) (is && decide (recS (d.readT (a + (i : Int))) (ep1 i (d.readT (a + (i : Int))) ep) i)) (ep1 i (d.readT (a + (i : Int))) ep) (dt ++ rdP (d.readT (a + (i : Int)))) (max nw (tgE (d.readT (a + (i : Int))))) (d.readD (a + (i : Int))) := by
  obtain ⟨m, hm⟩ : ∃ m, k.toNat - i = m + 1 := ⟨k.toNat - i - 1, by omega⟩
  rw [h, hm, slotGo, if_pos hr, show k.toNat - (i + 1) = m by omega]
end
namespace SvR
def ok (r : SvR) : Prop := r.is = true ∧ r.bad = 0 ∧ ¬ r.ep = 0
instance (r : SvR) : Decidable r.ok := by unfold ok; infer_instance
def e (r : SvR) : Nat := if r.ok then r.ep else 0
def t (r : SvR) : List UInt8 := if r.ok then r.dt else []
theorem e_ok {r : SvR} (h : r.ok) : r.e = r.ep ∧ r.t = r.dt := ⟨if_pos h, if_pos h⟩
theorem e_no {r : SvR} (h : ¬ r.ok) : r.e = 0 ∧ r.t = [] := ⟨if_neg h, if_neg h⟩
end SvR
def pickE (p q : SvR) : Nat := if ¬ q.e = 0 ∧ p.e ≤ q.e then q.e else p.e
def pickT (p q : SvR) : List UInt8 := if ¬ q.e = 0 ∧ p.e ≤ q.e then q.t else p.t
def pickL (p q : SvR) : Int := if ¬ q.e = 0 ∧ p.e ≤ q.e then 1 else if ¬ p.e = 0 then 0 else -1
theorem SvR.t_nil {r : SvR} (h : r.e = 0) : r.t = [] := by
  unfold SvR.e at h
  by_cases k : r.ok
  · rw [if_pos k] at h; exact absurd h k.2.2
  · exact if_neg k
theorem pick_r1 {p q : SvR} (h : ¬ q.e = 0) (h2 : p.e ≤ q.e) : pickE p q = q.e ∧ pickT p q = q.t ∧ pickL p q = 1 := ⟨if_pos ⟨h, h2⟩, if_pos ⟨h, h2⟩, if_pos ⟨h, h2⟩⟩
theorem pick_r0 {p q : SvR} (h : ¬ p.e = 0) (h2 : q.e = 0 ∨ q.e < p.e) : pickE p q = p.e ∧ pickT p q = p.t ∧ pickL p q = 0 := by
  have hn : ¬ (¬ q.e = 0 ∧ p.e ≤ q.e) := by omega
  exact ⟨if_neg hn, if_neg hn, by rw [pickL, if_neg hn, if_pos h]⟩
theorem pick_no {p q : SvR} (h : p.e = 0) (h2 : q.e = 0) : pickE p q = 0 ∧ pickT p q = [] ∧ pickL p q = -1 := by
  have hn : ¬ (¬ q.e = 0 ∧ p.e ≤ q.e) := by omega
  exact ⟨by rw [pickE, if_neg hn, h], by rw [pickT, if_neg hn, SvR.t_nil h], by rw [pickL, if_neg hn, if_neg (fun k => k h)]⟩
theorem slot_lt {a : Int} : ∀ (f i : Nat) (is : Bool) (ep nw : Nat) (dt : List UInt8) (d : GDisk), ep < 18446744073709551616 → nw < 18446744073709551616 → dt.length ≤ 43 * i →
    (slotGo a f i is ep dt nw d).ep < 18446744073709551616 ∧ (slotGo a f i is ep dt nw d).nw < 18446744073709551616 ∧ (slotGo a f i is ep dt nw d).dt.length ≤ 43 * (i + f)
  | 0, i, is, ep, nw, dt, d, h1, h2, h3 => ⟨h1, h2, h3⟩
  | f + 1, i, is, ep, nw, dt, d, h1, h2, h3 => by
    unfold slotGo
    split
    · have ht := tgE_lt (d.readT (a + (i : Int)))
      have hl := rdP_len (d.readT (a + (i : Int)))
      obtain ⟨q1, q2, q3⟩ := slot_lt (a := a) f (i + 1) (is && decide (recS (d.readT (a + (i : Int))) (ep1 i (d.readT (a + (i : Int))) ep) i)) (ep1 i (d.readT (a + (i : Int))) ep) (max nw (tgE (d.readT (a + (i : Int))))) (dt ++ rdP (d.readT (a + (i : Int)))) (d.readD (a + (i : Int))) (by unfold ep1; split <;> omega) (by omega) (by rw [List.length_append]; omega)
      exact ⟨q1, q2, by omega⟩
    · exact ⟨h1, h2, by show dt.length ≤ _; omega⟩
theorem SvR.e_lt {a : Int} {k nw : Nat} {d : GDisk} {r : SvR} (hnw : nw < 18446744073709551616) (h : slotGo a k 0 true 0 [] nw d = r) : r.e < 18446744073709551616 ∧ r.nw < 18446744073709551616 ∧ r.t.length ≤ 43 * k := by
  obtain ⟨h1, h2, h3⟩ := slot_lt (a := a) k 0 true 0 nw [] d (by omega) hnw (by simp)
  rw [h] at h1 h2 h3
  refine ⟨?_, h2, ?_⟩
  · unfold SvR.e; split <;> omega
  · unfold SvR.t; split
    · omega
    · simp
def slotA (la k : Int) : Int := if la = 0 then k else 0
def slotN (la : Int) : Int := if la = 0 then 1 else 0
def putX (c : List (List UInt8)) (e i : Nat) : List UInt8 := makeS (c.getD i []) e i
def putsGo (a : Int) (c : List (List UInt8)) (e : Nat) : Nat → Nat → GDisk → Int × GDisk
  | 0, _, d => (d.flushE, d.flushD)
  | f + 1, i, d => if d.writeE (a + (i : Int)) (putX c e i) = 0 then putsGo a c e f (i + 1) (d.writeD (a + (i : Int)) (putX c e i)) else (d.writeE (a + (i : Int)) (putX c e i), d.writeD (a + (i : Int)) (putX c e i))
section
variable {a k : Int} {c : List (List UInt8)} {i e : Nat} {d : GDisk} {R : Int × GDisk}
theorem puts_end (h : R = putsGo a c e (k.toNat - i) i d) (hl : k ≤ (i : Int)) : R = (d.flushE, d.flushD) := by
  rw [h, show k.toNat - i = 0 by omega]; rfl
theorem puts_stop (h : R = putsGo a c e (k.toNat - i) i d) (hl : (i : Int) < k) (hr : ¬ d.writeE (a + (i : Int)) (putX c e i) = 0) : R = (d.writeE (a + (i : Int)) (putX c e i), d.writeD (a + (i : Int)) (putX c e i)) := by
  obtain ⟨m, hm⟩ : ∃ m, k.toNat - i = m + 1 := ⟨k.toNat - i - 1, by omega⟩
  rw [h, hm, putsGo, if_neg hr]
theorem puts_go (h : R = putsGo a c e (k.toNat - i) i d) (hl : (i : Int) < k) (hr : d.writeE (a + (i : Int)) (putX c e i) = 0) : R = putsGo a c e (k.toNat - (i + 1)) (i + 1) (d.writeD (a + (i : Int)) (putX c e i)) := by
  obtain ⟨m, hm⟩ : ∃ m, k.toNat - i = m + 1 := ⟨k.toNat - i - 1, by omega⟩
  rw [h, hm, putsGo, if_pos hr, show k.toNat - (i + 1) = m by omega]
theorem writeD_opn (x : List UInt8) : (d.writeD a x).opn.length ≤ d.opn.length + 1 := by
  unfold GDisk.writeD GDisk.tick; split
  · omega
  · split <;> simp
end
end Go.Proofs.YtnndkgmcjbnfbaaGreatDoor
namespace Go.Proofs.YtnndkgmcjbnfbaaGreatDoor
open Go.RowKit
set_option linter.unusedVariables false
set_option linter.unusedSimpArgs false
namespace GDisk
end GDisk
def slV : Nat → Bool → Nat → List UInt8 → Nat → List (List UInt8) → Bool × Nat × List UInt8 × Nat
  | _, is, ep, dt, nw, [] => (is, ep, dt, nw)
  | i, is, ep, dt, nw, x :: xs => slV (i + 1) (is && decide (recS x (ep1 i x ep) i)) (ep1 i x ep) (dt ++ rdP x) (max nw (tgE x)) xs
theorem tgE_mk {p : List UInt8} {e n : Nat} (hp : p.length ≤ 43) (he : e < 18446744073709551616) : tgE (makeS p e n) = e := by
  rw [tgE, if_pos (makeS_len hp e n), make_ep hp he]
theorem slV_mk {p : List UInt8} {e n i ep nw : Nat} {is : Bool} {dt : List UInt8} {xs : List (List UInt8)} (hp : p.length ≤ 43) (he : e < 18446744073709551616) (hn : n < 18446744073709551616) :
    slV i is ep dt nw (makeS p e n :: xs) = slV (i + 1) (is && decide (e = (if i = 0 then e else ep) ∧ n = i)) (if i = 0 then e else ep) (dt ++ p) (max nw e) xs := by
  rw [slV, ep1, tgE_mk hp he, (rd_mk hp he hn).1]
  congr 2
  rw [decide_eq_decide]; exact recS_mk hp he hn
theorem slV_put {c : List (List UInt8)} {e : Nat} (hc : ∀ x ∈ c, x.length ≤ 43) (he : e < 18446744073709551616) : ∀ (f i : Nat) (dt : List UInt8) (nw : Nat), 0 < i → i + f < 18446744073709551616 →
    slV i true e dt nw ((List.range' i f).map (putX c e)) = (true, e, dt ++ (List.range' i f).flatMap (fun j => c.getD j []), if f = 0 then nw else max nw e)
  | 0, i, dt, nw, _, _ => by simp [slV]
  | f + 1, i, dt, nw, h0, h1 => by
    have hp : (c.getD i []).length ≤ 43 := by
      rw [List.getD_eq_getElem?_getD]
      cases h : c[i]? with
      | none => simp
      | some x => exact hc x (List.mem_of_getElem? h)
    rw [List.range'_succ, List.map_cons, putX, slV_mk hp he (by omega), if_neg (by omega), show (true && decide (e = e ∧ i = i)) = true by simp, slV_put hc he f (i + 1) _ _ (by omega) (by omega)]
    simp only [List.flatMap_cons, List.append_assoc]
    by_cases hf : f = 0
    · subst hf; simp
    · rw [if_neg hf, if_neg (by omega), Nat.max_assoc, Nat.max_self]
theorem getD_flat : ∀ (c : List (List UInt8)) (k : Nat), c.length ≤ k → (List.range' 0 k).flatMap (fun j => c.getD j []) = c.flatten
  | c, k, h => by
    rw [← List.range_eq_range', show (List.range k).flatMap (fun j => c.getD j []) = ((List.range k).map (fun j => c.getD j [])).flatten from rfl]
    have : (List.range k).map (fun j => c.getD j []) = c ++ List.replicate (k - c.length) [] := by
      apply List.ext_getElem
      · simp; omega
      · intro i h1 h2
        simp only [List.getElem_map, List.getElem_range, List.getElem_append, List.getD_eq_getElem?_getD]
        split
        · next h3 => rw [List.getElem?_eq_getElem h3]; rfl
        · next h3 => rw [List.getElem?_eq_none (by omega)]; simp
    rw [this]; simp
def slotL (k e : Nat) (t : List UInt8) : List (List UInt8) := (List.range' 0 k).map (putX (chunks t) e)
theorem slV_slot {k e nw : Nat} {t : List UInt8} (hk : 0 < k) (hk2 : k ≤ 64) (hc : (chunks t).length ≤ k) (he : e < 18446744073709551616) : slV 0 true 0 [] nw (slotL k e t) = (true, e, t, max nw e) := by
  obtain ⟨f, rfl⟩ : ∃ f, k = f + 1 := ⟨k - 1, by omega⟩
  have hm : ∀ x ∈ chunks t, x.length ≤ 43 := fun x hx => chunks_mem hx
  have hp : ((chunks t).getD 0 []).length ≤ 43 := by
    rw [List.getD_eq_getElem?_getD]
    cases h : (chunks t)[0]? with
    | none => simp
    | some x => exact hm x (List.mem_of_getElem? h)
  rw [slotL, List.range'_succ, List.map_cons, putX, slV_mk hp he (by omega), if_pos rfl, show (true && decide (e = e ∧ 0 = 0)) = true by simp, slV_put hm he f _ _ _ (by omega) (by omega)]
  have e1 := getD_flat (chunks t) (f + 1) hc
  rw [List.range'_succ, List.flatMap_cons, chunks_flat] at e1
  rw [show (if f = 0 then max nw e else max (max nw e) e) = max nw e by split <;> simp [Nat.max_assoc], List.nil_append, e1]
def putsW (a : Int) (c : List (List UInt8)) (e i f : Nat) : List (Int × List UInt8) := (List.range' i f).map fun j : Nat => (a + (j : Int), putX c e j)
theorem putX_len {c : List (List UInt8)} (hc : ∀ x ∈ c, x.length ≤ 43) (e i : Nat) : (putX c e i).length = 64 := by
  refine makeS_len ?_ e i
  rw [List.getD_eq_getElem?_getD]
  cases h : c[i]? with
  | none => simp
  | some x => exact hc x (List.mem_of_getElem? h)
theorem puts_calm {a : Int} {c : List (List UInt8)} {e : Nat} (hc : ∀ x ∈ c, x.length ≤ 43) : ∀ (f i : Nat) (d : GDisk), d.fail = 0 → (∀ j : Nat, i ≤ j → j < i + f → d.has (a + (j : Int))) →
    putsGo a c e f i d = (0, ⟨(d.opn ++ putsW a c e i f).foldl GDisk.put d.secs, [], 0, d.reads⟩)
  | 0, i, d, hf, _ => by
    obtain ⟨e1, e2⟩ := GDisk.flush_ok (d := d) (by omega)
    rw [putsGo, e1, e2, hf]; simp [putsW, tickF]
  | f + 1, i, d, hf, ha => by
    obtain ⟨e1, e2⟩ := GDisk.write_ok (d := d) (a := a + (i : Int)) (l := putX c e i) ⟨ha i (Nat.le_refl _) (by omega), putX_len hc e i⟩ (by omega)
    rw [putsGo, if_pos e1, e2, puts_calm hc f (i + 1) ⟨d.secs, d.opn ++ [(a + (i : Int), putX c e i)], tickF d.fail, d.reads⟩ (by simp [hf, tickF]) (fun j h1 h2 => ha j (by omega) (by omega))]
    simp [putsW, List.range'_succ]
theorem puts_fail {a : Int} {c : List (List UInt8)} {e : Nat} (hc : ∀ x ∈ c, x.length ≤ 43) : ∀ (f i : Nat) (d : GDisk), 1 ≤ d.fail → d.fail ≤ (f : Int) + 1 → (∀ j : Nat, i ≤ j → j < i + f → d.has (a + (j : Int))) →
    putsGo a c e f i d = (18, ⟨d.secs, d.opn ++ putsW a c e i (d.fail - 1).toNat, 0, d.reads⟩)
  | 0, i, d, h1, h2, _ => by
    obtain ⟨e1, e2⟩ := GDisk.flush_io (d := d) (by omega)
    rw [putsGo, e1, e2, show d.fail = 1 by omega]; simp [putsW, tickF]
  | f + 1, i, d, h1, h2, ha => by
    have hw := And.intro (ha i (Nat.le_refl _) (by omega)) (putX_len hc e i)
    by_cases hf : d.fail = 1
    · obtain ⟨e1, e2⟩ := GDisk.write_io hw hf
      rw [putsGo, if_neg (by rw [e1]; decide), e1, e2, hf]; simp [putsW, tickF]
    · obtain ⟨e1, e2⟩ := GDisk.write_ok hw hf
      have ht : tickF d.fail = d.fail - 1 := if_neg (by omega)
      rw [putsGo, if_pos e1, e2, ht, puts_fail hc f (i + 1) ⟨d.secs, d.opn ++ [(a + (i : Int), putX c e i)], d.fail - 1, d.reads⟩ (by show 1 ≤ d.fail - 1; omega) (by show d.fail - 1 ≤ _; omega) (fun j h1 h2 => ha j (by omega) (by omega))]
      show (18, (⟨d.secs, d.opn ++ [(a + (i : Int), putX c e i)] ++ putsW a c e (i + 1) (d.fail - 1 - 1).toNat, 0, d.reads⟩ : GDisk)) = _
      have : (d.fail - 1).toNat = (d.fail - 1 - 1).toNat + 1 := by omega
      rw [this]; simp [putsW, List.range'_succ]
end Go.Proofs.YtnndkgmcjbnfbaaGreatDoor
namespace Go.Proofs.YtnndkgmcjbnfbaaGreatDoor
open Go.RowKit
set_option linter.unusedVariables false
set_option linter.unusedSimpArgs false
set_option maxRecDepth 100000 in
set_option maxHeartbeats 4000000 in
theorem svNew_ok {S : Nat → Prop} {dk : Nat} {d : GDisk} {at_ k : Int} {w : World} (hd : DiskAt S dk d w) (z0 : -9223372036854775808 ≤ at_ ∧ at_ ≤ 9223372036854775807) (z1 : -9223372036854775808 ≤ k ∧ k ≤ 9223372036854775807) (hc : 0 ≤ at_ ∧ 1 ≤ k ∧ k ≤ 64 ∧ at_ ≤ (d.secs.length : Int) - 2 * k) : Calls Tryz.prog 34 #[.pointer (some ⟨dk, 0, none⟩), .int .i64 at_, .int .i64 k] w fun e w' => ∃ b, e = .returned (.pointer (some ⟨b, 0, none⟩)) ∧ w.heap.size ≤ b ∧ w'.heap[b]? = some (.cells #[.pointer (some ⟨dk, 0, none⟩), .int .i64 at_, .int .i64 k, .bool false, .int .u64 0, .int .i64 (-1)] 81 (0, 0)) ∧ Adds w w' := by
  have K : Keeps (fun _ => False) w w := Keeps.refl _ w
  have lk0 : ∀ k, S k → S k ∨ w.heap.size ≤ k := fun k h => .inl h
  have dl_ := hd.ok.2.2.2.2.1
  refine Calls.start Tryz.func34 rfl (by kernel_rfl) ?_
  refine WC.seq ?_
  refine WC.region ?_
  refine WL.op (d := 6) (.pointer none) (k := ?_)
  refine WL.nil ?_
  refine WX.seqN ?_
  refine WC.seq ?_
  refine WC.seq ?_
  refine WC.region ?_
  refine WL.op (d := 7) (.int .i64 at_) (k := ?_)
  refine WL.op (d := 8) (.bool (decide (at_ < 0))) (k := ?_)
  refine WL.op (d := 9) (.bool (decide (at_ < 0))) (k := ?_)
  refine bsplit (decide (at_ < 0)) (fun h1 => ?_) (fun h1 => ?_)
  · have ph1 := of_decide_eq_true h1
    refine WL.rw (t := 9) (v := .bool true) (congrArg Value.bool h1) (k := ?_)
    refine WL.skip (d := 10) (k := ?_)
    refine WL.skip (d := 11) (k := ?_)
    refine WL.op (d := 12) (.bool true) (k := ?_)
    refine WL.op (d := 13) (.bool true) (k := ?_)
    refine WL.skip (d := 14) (k := ?_)
    refine WL.skip (d := 15) (k := ?_)
    refine WL.op (d := 16) (.bool true) (k := ?_)
    refine WL.op (d := 17) (.bool true) (k := ?_)
    refine WL.skip (d := 18) (k := ?_)
    refine WL.skip (d := 19) (k := ?_)
    refine WL.skip (d := 20) (k := ?_)
    refine WL.skip (d := 21) (k := ?_)
    refine WL.skip (d := 22) (k := ?_)
    refine WL.skip (d := 23) (k := ?_)
    refine WL.skip (d := 24) (k := ?_)
    refine WL.op (d := 25) (.bool true) (k := ?_)
    refine WL.nil ?_
    refine WX.seqN ?_
    refine WC.condT (k := ?_)
    refine WC.seq ?_
    refine WC.region ?_
    refine WL.op (d := 6) (.pointer none) (k := ?_)
    refine WL.nil ?_
    refine WX.seqN ?_
    refine WC.ret ?_
    refine WX.seqR ?_
    refine WX.ret (rs := [.tmp 6]) [.pointer none] (.pointer none) ⟨(by kernel_rfl), trivial⟩ (k := ?_)
    exfalso; omega
  · have ph1 := of_decide_eq_false h1
    refine WL.rw (t := 9) (v := .bool false) (congrArg Value.bool h1) (k := ?_)
    refine WL.op (d := 10) (.int .i64 k) (k := ?_)
    refine WL.op (d := 11) (.bool (decide (k < 1))) (k := ?_)
    refine WL.op (d := 12) (.bool (decide (k < 1))) (k := ?_)
    refine WL.op (d := 13) (.bool (decide (k < 1))) (k := ?_)
    refine bsplit (decide (k < 1)) (fun h2 => ?_) (fun h2 => ?_)
    · have ph2 := of_decide_eq_true h2
      refine WL.rw (t := 13) (v := .bool true) (congrArg Value.bool h2) (k := ?_)
      refine WL.skip (d := 14) (k := ?_)
      refine WL.skip (d := 15) (k := ?_)
      refine WL.op (d := 16) (.bool true) (k := ?_)
      refine WL.op (d := 17) (.bool true) (k := ?_)
      refine WL.skip (d := 18) (k := ?_)
      refine WL.skip (d := 19) (k := ?_)
      refine WL.skip (d := 20) (k := ?_)
      refine WL.skip (d := 21) (k := ?_)
      refine WL.skip (d := 22) (k := ?_)
      refine WL.skip (d := 23) (k := ?_)
      refine WL.skip (d := 24) (k := ?_)
      refine WL.op (d := 25) (.bool true) (k := ?_)
      refine WL.nil ?_
      refine WX.seqN ?_
      refine WC.condT (k := ?_)
      refine WC.seq ?_
      refine WC.region ?_
      refine WL.op (d := 6) (.pointer none) (k := ?_)
      refine WL.nil ?_
      refine WX.seqN ?_
      refine WC.ret ?_
      refine WX.seqR ?_
      refine WX.ret (rs := [.tmp 6]) [.pointer none] (.pointer none) ⟨(by kernel_rfl), trivial⟩ (k := ?_)
      exfalso; omega
    · have ph2 := of_decide_eq_false h2
      refine WL.rw (t := 13) (v := .bool false) (congrArg Value.bool h2) (k := ?_)
      refine WL.op (d := 14) (.int .i64 k) (k := ?_)
      refine WL.op (d := 15) (.bool (decide (k > 64))) (k := ?_)
      refine WL.op (d := 16) (.bool (decide (k > 64))) (k := ?_)
      refine WL.op (d := 17) (.bool (decide (k > 64))) (k := ?_)
      refine bsplit (decide (k > 64)) (fun h3 => ?_) (fun h3 => ?_)
      · have ph3 := of_decide_eq_true h3
        refine WL.rw (t := 17) (v := .bool true) (congrArg Value.bool h3) (k := ?_)
        refine WL.skip (d := 18) (k := ?_)
        refine WL.skip (d := 19) (k := ?_)
        refine WL.skip (d := 20) (k := ?_)
        refine WL.skip (d := 21) (k := ?_)
        refine WL.skip (d := 22) (k := ?_)
        refine WL.skip (d := 23) (k := ?_)
        refine WL.skip (d := 24) (k := ?_)
        refine WL.op (d := 25) (.bool true) (k := ?_)
        refine WL.nil ?_
        refine WX.seqN ?_
        refine WC.condT (k := ?_)
        refine WC.seq ?_
        refine WC.region ?_
        refine WL.op (d := 6) (.pointer none) (k := ?_)
        refine WL.nil ?_
        refine WX.seqN ?_
        refine WC.ret ?_
        refine WX.seqR ?_
        refine WX.ret (rs := [.tmp 6]) [.pointer none] (.pointer none) ⟨(by kernel_rfl), trivial⟩ (k := ?_)
        exfalso; omega
      · have ph3 := of_decide_eq_false h3
        refine WL.rw (t := 17) (v := .bool false) (congrArg Value.bool h3) (k := ?_)
        refine WL.op (d := 18) (.int .i64 at_) (k := ?_)
        refine WL.op (d := 19) (.pointer (some ⟨dk, 0, none⟩)) (k := ?_)
        refine WL.callG (d := 20) (f := 36) (args := #[.pointer (some ⟨dk, 0, none⟩)]) (dLen_d hd) (k := fun e_ w4 h_ => ⟨.int .i64 ((GDisk.secs d).length : Int), h_.1, ?_⟩)
        have k5 := h_.2; clear h_
        replace hd := hd.adds k5
        replace K := K.trans (k5.any _)
        refine WL.op (d := 21) (.int .i64 k) (k := ?_)
        refine WL.opE (d := 22) (.int .i64 (IntKind.i64.wrap (2 * k))) (v := .int .i64 (2 * k)) (congrArg (Value.int .i64) (IntWalk.i64_in _ (by omega))) (k := ?_)
        refine WL.opE (d := 23) (.int .i64 (IntKind.i64.wrap (((GDisk.secs d).length : Int) - (2 * k)))) (v := .int .i64 (((GDisk.secs d).length : Int) - (2 * k))) (congrArg (Value.int .i64) (IntWalk.i64_in _ (by omega))) (k := ?_)
        refine WL.op (d := 24) (.bool (decide (at_ > (((GDisk.secs d).length : Int) - (2 * k))))) (k := ?_)
        refine WL.op (d := 25) (.bool (decide (at_ > (((GDisk.secs d).length : Int) - (2 * k))))) (k := ?_)
        refine WL.nil ?_
        refine WX.seqN ?_
        refine WC.cond (b := decide (at_ > (((GDisk.secs d).length : Int) - (2 * k)))) (ht := fun h6 => ?_) (hf := fun h6 => ?_)
        · have ph6 := of_decide_eq_true h6
          refine WC.seq ?_
          refine WC.region ?_
          refine WL.op (d := 6) (.pointer none) (k := ?_)
          refine WL.nil ?_
          refine WX.seqN ?_
          refine WC.ret ?_
          refine WX.seqR ?_
          refine WX.ret (rs := [.tmp 6]) [.pointer none] (.pointer none) ⟨(by kernel_rfl), trivial⟩ (k := ?_)
          exfalso; omega
        · have ph6 := of_decide_eq_false h6
          refine WC.skip ?_
          refine WX.seqN ?_
          refine WC.seq ?_
          refine WC.region ?_
          refine WL.op (d := 26) (.pointer (some ⟨dk, 0, none⟩)) (k := ?_)
          refine WL.op (d := 27) (.int .i64 at_) (k := ?_)
          refine WL.op (d := 28) (.int .i64 k) (k := ?_)
          refine WL.op (d := 29) (.agg #[.pointer (some ⟨dk, 0, none⟩), .int .i64 at_, .int .i64 k, .bool false, .int .u64 0, .int .i64 (-1)]) (k := ?_)
          refine WL.new (d := 30) (T := 81) #[.pointer (some ⟨dk, 0, none⟩), .int .i64 at_, .int .i64 k, .bool false, .int .u64 0, .int .i64 (-1)] (k := fun b7 w8 g9 hb10 k11 => ?_)
          have z12 := Nat.le_trans K.size g9
          have n13 : ¬ S b7 := fun h => absurd (hd.lt _ h) (Nat.not_lt.2 g9)
          replace hd := hd.adds k11
          replace K := K.trans (k11.any _)
          refine WL.op (d := 6) (.pointer (some ⟨b7, 0, none⟩)) (k := ?_)
          refine WL.nil ?_
          refine WX.seqN ?_
          refine WC.ret ?_
          refine WX.ret (rs := [.tmp 6]) [.pointer (some ⟨b7, 0, none⟩)] (.pointer (some ⟨b7, 0, none⟩)) ⟨(by kernel_rfl), trivial⟩ (k := ?_)
          exact ⟨_, rfl, z12, hb10, K⟩
set_option maxRecDepth 100000 in
set_option maxHeartbeats 4000000 in
theorem svNew_no {S : Nat → Prop} {dk : Nat} {d : GDisk} {at_ k : Int} {w : World} (hd : DiskAt S dk d w) (z0 : -9223372036854775808 ≤ at_ ∧ at_ ≤ 9223372036854775807) (z1 : -9223372036854775808 ≤ k ∧ k ≤ 9223372036854775807) (hc : ¬ (0 ≤ at_ ∧ 1 ≤ k ∧ k ≤ 64 ∧ at_ ≤ (d.secs.length : Int) - 2 * k)) : Calls Tryz.prog 34 #[.pointer (some ⟨dk, 0, none⟩), .int .i64 at_, .int .i64 k] w fun e w' => e = .returned (.pointer none) ∧ Adds w w' := by
  have K : Keeps (fun _ => False) w w := Keeps.refl _ w
  have lk0 : ∀ k, S k → S k ∨ w.heap.size ≤ k := fun k h => .inl h
  have dl_ := hd.ok.2.2.2.2.1
  refine Calls.start Tryz.func34 rfl (by kernel_rfl) ?_
  refine WC.seq ?_
  refine WC.region ?_
  refine WL.op (d := 6) (.pointer none) (k := ?_)
  refine WL.nil ?_
  refine WX.seqN ?_
  refine WC.seq ?_
  refine WC.seq ?_
  refine WC.region ?_
  refine WL.op (d := 7) (.int .i64 at_) (k := ?_)
  refine WL.op (d := 8) (.bool (decide (at_ < 0))) (k := ?_)
  refine WL.op (d := 9) (.bool (decide (at_ < 0))) (k := ?_)
  refine bsplit (decide (at_ < 0)) (fun h1 => ?_) (fun h1 => ?_)
  · have ph1 := of_decide_eq_true h1
    refine WL.rw (t := 9) (v := .bool true) (congrArg Value.bool h1) (k := ?_)
    refine WL.skip (d := 10) (k := ?_)
    refine WL.skip (d := 11) (k := ?_)
    refine WL.op (d := 12) (.bool true) (k := ?_)
    refine WL.op (d := 13) (.bool true) (k := ?_)
    refine WL.skip (d := 14) (k := ?_)
    refine WL.skip (d := 15) (k := ?_)
    refine WL.op (d := 16) (.bool true) (k := ?_)
    refine WL.op (d := 17) (.bool true) (k := ?_)
    refine WL.skip (d := 18) (k := ?_)
    refine WL.skip (d := 19) (k := ?_)
    refine WL.skip (d := 20) (k := ?_)
    refine WL.skip (d := 21) (k := ?_)
    refine WL.skip (d := 22) (k := ?_)
    refine WL.skip (d := 23) (k := ?_)
    refine WL.skip (d := 24) (k := ?_)
    refine WL.op (d := 25) (.bool true) (k := ?_)
    refine WL.nil ?_
    refine WX.seqN ?_
    refine WC.condT (k := ?_)
    refine WC.seq ?_
    refine WC.region ?_
    refine WL.op (d := 6) (.pointer none) (k := ?_)
    refine WL.nil ?_
    refine WX.seqN ?_
    refine WC.ret ?_
    refine WX.seqR ?_
    refine WX.ret (rs := [.tmp 6]) [.pointer none] (.pointer none) ⟨(by kernel_rfl), trivial⟩ (k := ?_)
    exact ⟨rfl, K⟩
  · have ph1 := of_decide_eq_false h1
    refine WL.rw (t := 9) (v := .bool false) (congrArg Value.bool h1) (k := ?_)
    refine WL.op (d := 10) (.int .i64 k) (k := ?_)
    refine WL.op (d := 11) (.bool (decide (k < 1))) (k := ?_)
    refine WL.op (d := 12) (.bool (decide (k < 1))) (k := ?_)
    refine WL.op (d := 13) (.bool (decide (k < 1))) (k := ?_)
    refine bsplit (decide (k < 1)) (fun h2 => ?_) (fun h2 => ?_)
    · have ph2 := of_decide_eq_true h2
      refine WL.rw (t := 13) (v := .bool true) (congrArg Value.bool h2) (k := ?_)
      refine WL.skip (d := 14) (k := ?_)
      refine WL.skip (d := 15) (k := ?_)
      refine WL.op (d := 16) (.bool true) (k := ?_)
      refine WL.op (d := 17) (.bool true) (k := ?_)
      refine WL.skip (d := 18) (k := ?_)
      refine WL.skip (d := 19) (k := ?_)
      refine WL.skip (d := 20) (k := ?_)
      refine WL.skip (d := 21) (k := ?_)
      refine WL.skip (d := 22) (k := ?_)
      refine WL.skip (d := 23) (k := ?_)
      refine WL.skip (d := 24) (k := ?_)
      refine WL.op (d := 25) (.bool true) (k := ?_)
      refine WL.nil ?_
      refine WX.seqN ?_
      refine WC.condT (k := ?_)
      refine WC.seq ?_
      refine WC.region ?_
      refine WL.op (d := 6) (.pointer none) (k := ?_)
      refine WL.nil ?_
      refine WX.seqN ?_
      refine WC.ret ?_
      refine WX.seqR ?_
      refine WX.ret (rs := [.tmp 6]) [.pointer none] (.pointer none) ⟨(by kernel_rfl), trivial⟩ (k := ?_)
      exact ⟨rfl, K⟩
    · have ph2 := of_decide_eq_false h2
      refine WL.rw (t := 13) (v := .bool false) (congrArg Value.bool h2) (k := ?_)
      refine WL.op (d := 14) (.int .i64 k) (k := ?_)
      refine WL.op (d := 15) (.bool (decide (k > 64))) (k := ?_)
      refine WL.op (d := 16) (.bool (decide (k > 64))) (k := ?_)
      refine WL.op (d := 17) (.bool (decide (k > 64))) (k := ?_)
      refine bsplit (decide (k > 64)) (fun h3 => ?_) (fun h3 => ?_)
      · have ph3 := of_decide_eq_true h3
        refine WL.rw (t := 17) (v := .bool true) (congrArg Value.bool h3) (k := ?_)
        refine WL.skip (d := 18) (k := ?_)
        refine WL.skip (d := 19) (k := ?_)
        refine WL.skip (d := 20) (k := ?_)
        refine WL.skip (d := 21) (k := ?_)
        refine WL.skip (d := 22) (k := ?_)
        refine WL.skip (d := 23) (k := ?_)
        refine WL.skip (d := 24) (k := ?_)
        refine WL.op (d := 25) (.bool true) (k := ?_)
        refine WL.nil ?_
        refine WX.seqN ?_
        refine WC.condT (k := ?_)
        refine WC.seq ?_
        refine WC.region ?_
        refine WL.op (d := 6) (.pointer none) (k := ?_)
        refine WL.nil ?_
        refine WX.seqN ?_
        refine WC.ret ?_
        refine WX.seqR ?_
        refine WX.ret (rs := [.tmp 6]) [.pointer none] (.pointer none) ⟨(by kernel_rfl), trivial⟩ (k := ?_)
        exact ⟨rfl, K⟩
      · have ph3 := of_decide_eq_false h3
        refine WL.rw (t := 17) (v := .bool false) (congrArg Value.bool h3) (k := ?_)
        refine WL.op (d := 18) (.int .i64 at_) (k := ?_)
        refine WL.op (d := 19) (.pointer (some ⟨dk, 0, none⟩)) (k := ?_)
        refine WL.callG (d := 20) (f := 36) (args := #[.pointer (some ⟨dk, 0, none⟩)]) (dLen_d hd) (k := fun e_ w4 h_ => ⟨.int .i64 ((GDisk.secs d).length : Int), h_.1, ?_⟩)
        have k5 := h_.2; clear h_
        replace hd := hd.adds k5
        replace K := K.trans (k5.any _)
        refine WL.op (d := 21) (.int .i64 k) (k := ?_)
        refine WL.opE (d := 22) (.int .i64 (IntKind.i64.wrap (2 * k))) (v := .int .i64 (2 * k)) (congrArg (Value.int .i64) (IntWalk.i64_in _ (by omega))) (k := ?_)
        refine WL.opE (d := 23) (.int .i64 (IntKind.i64.wrap (((GDisk.secs d).length : Int) - (2 * k)))) (v := .int .i64 (((GDisk.secs d).length : Int) - (2 * k))) (congrArg (Value.int .i64) (IntWalk.i64_in _ (by omega))) (k := ?_)
        refine WL.op (d := 24) (.bool (decide (at_ > (((GDisk.secs d).length : Int) - (2 * k))))) (k := ?_)
        refine WL.op (d := 25) (.bool (decide (at_ > (((GDisk.secs d).length : Int) - (2 * k))))) (k := ?_)
        refine WL.nil ?_
        refine WX.seqN ?_
        refine WC.cond (b := decide (at_ > (((GDisk.secs d).length : Int) - (2 * k)))) (ht := fun h6 => ?_) (hf := fun h6 => ?_)
        · have ph6 := of_decide_eq_true h6
          refine WC.seq ?_
          refine WC.region ?_
          refine WL.op (d := 6) (.pointer none) (k := ?_)
          refine WL.nil ?_
          refine WX.seqN ?_
          refine WC.ret ?_
          refine WX.seqR ?_
          refine WX.ret (rs := [.tmp 6]) [.pointer none] (.pointer none) ⟨(by kernel_rfl), trivial⟩ (k := ?_)
          exact ⟨rfl, K⟩
        · have ph6 := of_decide_eq_false h6
          refine WC.skip ?_
          refine WX.seqN ?_
          refine WC.seq ?_
          refine WC.region ?_
          refine WL.op (d := 26) (.pointer (some ⟨dk, 0, none⟩)) (k := ?_)
          refine WL.op (d := 27) (.int .i64 at_) (k := ?_)
          refine WL.op (d := 28) (.int .i64 k) (k := ?_)
          refine WL.op (d := 29) (.agg #[.pointer (some ⟨dk, 0, none⟩), .int .i64 at_, .int .i64 k, .bool false, .int .u64 0, .int .i64 (-1)]) (k := ?_)
          refine WL.new (d := 30) (T := 81) #[.pointer (some ⟨dk, 0, none⟩), .int .i64 at_, .int .i64 k, .bool false, .int .u64 0, .int .i64 (-1)] (k := fun b7 w8 g9 hb10 k11 => ?_)
          have z12 := Nat.le_trans K.size g9
          have n13 : ¬ S b7 := fun h => absurd (hd.lt _ h) (Nat.not_lt.2 g9)
          replace hd := hd.adds k11
          replace K := K.trans (k11.any _)
          refine WL.op (d := 6) (.pointer (some ⟨b7, 0, none⟩)) (k := ?_)
          refine WL.nil ?_
          refine WX.seqN ?_
          refine WC.ret ?_
          refine WX.ret (rs := [.tmp 6]) [.pointer (some ⟨b7, 0, none⟩)] (.pointer (some ⟨b7, 0, none⟩)) ⟨(by kernel_rfl), trivial⟩ (k := ?_)
          exfalso; omega
set_option maxRecDepth 100000 in
set_option maxHeartbeats 4000000 in
theorem svNew_nil {at_ k : Int} (z1 : 0 ≤ at_) (z2 : 1 ≤ k) (w : World) : Calls Tryz.prog 34 #[.pointer none, .int .i64 at_, .int .i64 k] w fun e w' => e = .returned (.pointer none) ∧ Adds w w' := by
  have K : Keeps (fun _ => False) w w := Keeps.refl _ w
  refine Calls.start Tryz.func34 rfl (by kernel_rfl) ?_
  refine WC.seq ?_
  refine WC.region ?_
  refine WL.op (d := 6) (.pointer none) (k := ?_)
  refine WL.nil ?_
  refine WX.seqN ?_
  refine WC.seq ?_
  refine WC.seq ?_
  refine WC.region ?_
  refine WL.op (d := 7) (.int .i64 at_) (k := ?_)
  refine WL.op (d := 8) (.bool (decide (at_ < 0))) (k := ?_)
  refine WL.op (d := 9) (.bool (decide (at_ < 0))) (k := ?_)
  refine bsplit (decide (at_ < 0)) (fun h1 => ?_) (fun h1 => ?_)
  · have ph1 := of_decide_eq_true h1
    refine WL.rw (t := 9) (v := .bool true) (congrArg Value.bool h1) (k := ?_)
    refine WL.skip (d := 10) (k := ?_)
    refine WL.skip (d := 11) (k := ?_)
    refine WL.op (d := 12) (.bool true) (k := ?_)
    refine WL.op (d := 13) (.bool true) (k := ?_)
    refine WL.skip (d := 14) (k := ?_)
    refine WL.skip (d := 15) (k := ?_)
    refine WL.op (d := 16) (.bool true) (k := ?_)
    refine WL.op (d := 17) (.bool true) (k := ?_)
    refine WL.skip (d := 18) (k := ?_)
    refine WL.skip (d := 19) (k := ?_)
    refine WL.skip (d := 20) (k := ?_)
    refine WL.skip (d := 21) (k := ?_)
    refine WL.skip (d := 22) (k := ?_)
    refine WL.skip (d := 23) (k := ?_)
    refine WL.skip (d := 24) (k := ?_)
    refine WL.op (d := 25) (.bool true) (k := ?_)
    refine WL.nil ?_
    refine WX.seqN ?_
    refine WC.condT (k := ?_)
    refine WC.seq ?_
    refine WC.region ?_
    refine WL.op (d := 6) (.pointer none) (k := ?_)
    refine WL.nil ?_
    refine WX.seqN ?_
    refine WC.ret ?_
    refine WX.seqR ?_
    refine WX.ret (rs := [.tmp 6]) [.pointer none] (.pointer none) ⟨(by kernel_rfl), trivial⟩ (k := ?_)
    exact ⟨rfl, K⟩
  · have ph1 := of_decide_eq_false h1
    refine WL.rw (t := 9) (v := .bool false) (congrArg Value.bool h1) (k := ?_)
    refine WL.op (d := 10) (.int .i64 k) (k := ?_)
    refine WL.op (d := 11) (.bool (decide (k < 1))) (k := ?_)
    refine WL.op (d := 12) (.bool (decide (k < 1))) (k := ?_)
    refine WL.op (d := 13) (.bool (decide (k < 1))) (k := ?_)
    refine bsplit (decide (k < 1)) (fun h2 => ?_) (fun h2 => ?_)
    · have ph2 := of_decide_eq_true h2
      refine WL.rw (t := 13) (v := .bool true) (congrArg Value.bool h2) (k := ?_)
      refine WL.skip (d := 14) (k := ?_)
      refine WL.skip (d := 15) (k := ?_)
      refine WL.op (d := 16) (.bool true) (k := ?_)
      refine WL.op (d := 17) (.bool true) (k := ?_)
      refine WL.skip (d := 18) (k := ?_)
      refine WL.skip (d := 19) (k := ?_)
      refine WL.skip (d := 20) (k := ?_)
      refine WL.skip (d := 21) (k := ?_)
      refine WL.skip (d := 22) (k := ?_)
      refine WL.skip (d := 23) (k := ?_)
      refine WL.skip (d := 24) (k := ?_)
      refine WL.op (d := 25) (.bool true) (k := ?_)
      refine WL.nil ?_
      refine WX.seqN ?_
      refine WC.condT (k := ?_)
      refine WC.seq ?_
      refine WC.region ?_
      refine WL.op (d := 6) (.pointer none) (k := ?_)
      refine WL.nil ?_
      refine WX.seqN ?_
      refine WC.ret ?_
      refine WX.seqR ?_
      refine WX.ret (rs := [.tmp 6]) [.pointer none] (.pointer none) ⟨(by kernel_rfl), trivial⟩ (k := ?_)
      exact ⟨rfl, K⟩
    · have ph2 := of_decide_eq_false h2
      refine WL.rw (t := 13) (v := .bool false) (congrArg Value.bool h2) (k := ?_)
      refine WL.op (d := 14) (.int .i64 k) (k := ?_)
      refine WL.op (d := 15) (.bool (decide (k > 64))) (k := ?_)
      refine WL.op (d := 16) (.bool (decide (k > 64))) (k := ?_)
      refine WL.op (d := 17) (.bool (decide (k > 64))) (k := ?_)
      refine bsplit (decide (k > 64)) (fun h3 => ?_) (fun h3 => ?_)
      · have ph3 := of_decide_eq_true h3
        refine WL.rw (t := 17) (v := .bool true) (congrArg Value.bool h3) (k := ?_)
        refine WL.skip (d := 18) (k := ?_)
        refine WL.skip (d := 19) (k := ?_)
        refine WL.skip (d := 20) (k := ?_)
        refine WL.skip (d := 21) (k := ?_)
        refine WL.skip (d := 22) (k := ?_)
        refine WL.skip (d := 23) (k := ?_)
        refine WL.skip (d := 24) (k := ?_)
        refine WL.op (d := 25) (.bool true) (k := ?_)
        refine WL.nil ?_
        refine WX.seqN ?_
        refine WC.condT (k := ?_)
        refine WC.seq ?_
        refine WC.region ?_
        refine WL.op (d := 6) (.pointer none) (k := ?_)
        refine WL.nil ?_
        refine WX.seqN ?_
        refine WC.ret ?_
        refine WX.seqR ?_
        refine WX.ret (rs := [.tmp 6]) [.pointer none] (.pointer none) ⟨(by kernel_rfl), trivial⟩ (k := ?_)
        exact ⟨rfl, K⟩
      · have ph3 := of_decide_eq_false h3
        refine WL.rw (t := 17) (v := .bool false) (congrArg Value.bool h3) (k := ?_)
        refine WL.op (d := 18) (.int .i64 at_) (k := ?_)
        refine WL.op (d := 19) (.pointer none) (k := ?_)
        refine WL.callG (d := 20) (f := 36) (args := #[.pointer none]) (dLen_nil w) (k := fun e_ w4 h_ => ⟨.int .i64 0, h_.1, ?_⟩)
        have k5 := h_.2; clear h_
        replace K := K.trans (k5.any _)
        refine WL.op (d := 21) (.int .i64 k) (k := ?_)
        refine WL.opE (d := 22) (.int .i64 (IntKind.i64.wrap (2 * k))) (v := .int .i64 (2 * k)) (congrArg (Value.int .i64) (IntWalk.i64_in _ (by omega))) (k := ?_)
        refine WL.opE (d := 23) (.int .i64 (IntKind.i64.wrap (0 - (2 * k)))) (v := .int .i64 (0 - (2 * k))) (congrArg (Value.int .i64) (IntWalk.i64_in _ (by omega))) (k := ?_)
        refine WL.op (d := 24) (.bool (decide (at_ > (0 - (2 * k))))) (k := ?_)
        refine WL.op (d := 25) (.bool (decide (at_ > (0 - (2 * k))))) (k := ?_)
        refine WL.nil ?_
        refine WX.seqN ?_
        refine WC.cond (b := decide (at_ > (0 - (2 * k)))) (ht := fun h6 => ?_) (hf := fun h6 => ?_)
        · have ph6 := of_decide_eq_true h6
          refine WC.seq ?_
          refine WC.region ?_
          refine WL.op (d := 6) (.pointer none) (k := ?_)
          refine WL.nil ?_
          refine WX.seqN ?_
          refine WC.ret ?_
          refine WX.seqR ?_
          refine WX.ret (rs := [.tmp 6]) [.pointer none] (.pointer none) ⟨(by kernel_rfl), trivial⟩ (k := ?_)
          exact ⟨rfl, K⟩
        · have ph6 := of_decide_eq_false h6
          refine WC.skip ?_
          refine WX.seqN ?_
          refine WC.seq ?_
          refine WC.region ?_
          refine WL.op (d := 26) (.pointer none) (k := ?_)
          refine WL.op (d := 27) (.int .i64 at_) (k := ?_)
          refine WL.op (d := 28) (.int .i64 k) (k := ?_)
          refine WL.op (d := 29) (.agg #[.pointer none, .int .i64 at_, .int .i64 k, .bool false, .int .u64 0, .int .i64 (-1)]) (k := ?_)
          refine WL.new (d := 30) (T := 81) #[.pointer none, .int .i64 at_, .int .i64 k, .bool false, .int .u64 0, .int .i64 (-1)] (k := fun b7 w8 g9 hb10 k11 => ?_)
          have z12 := Nat.le_trans K.size g9
          replace K := K.trans (k11.any _)
          refine WL.op (d := 6) (.pointer (some ⟨b7, 0, none⟩)) (k := ?_)
          refine WL.nil ?_
          refine WX.seqN ?_
          refine WC.ret ?_
          refine WX.ret (rs := [.tmp 6]) [.pointer (some ⟨b7, 0, none⟩)] (.pointer (some ⟨b7, 0, none⟩)) ⟨(by kernel_rfl), trivial⟩ (k := ?_)
          exfalso; omega
set_option maxRecDepth 100000 in
set_option maxHeartbeats 4000000 in
theorem svRoom_b {b : Nat} {v0 v1 v3 v5 : Value} {k : Int} {nw : Nat} {w : World} (hb : w.heap[b]? = some (.cells #[v0, v1, .int .i64 k, v3, .int .u64 (nw : Int), v5] 81 (0, 0))) (k0 : 0 ≤ k) (k1 : k ≤ 64) : Calls Tryz.prog 31 #[.pointer (some ⟨b, 0, none⟩)] w fun e w' => e = .returned (.int .i64 (k * 43)) ∧ Adds w w' := by
  have K : Keeps (fun _ => False) w w := Keeps.refl _ w
  refine Calls.start Tryz.func31 rfl (by kernel_rfl) ?_
  refine WC.seq ?_
  refine WC.region ?_
  refine WL.op (d := 2) (.int .i64 0) (k := ?_)
  refine WL.nil ?_
  refine WX.seqN ?_
  refine WC.seq ?_
  refine WC.seq ?_
  refine WC.region ?_
  refine WL.op (d := 3) (.pointer (some ⟨b, 0, none⟩)) (k := ?_)
  refine WL.op (d := 4) (.bool false) (k := ?_)
  refine WL.nil ?_
  refine WX.seqN ?_
  refine WC.condF (k := ?_)
  refine WC.skip ?_
  refine WX.seqN ?_
  refine WC.seq ?_
  refine WC.region ?_
  refine WL.op (d := 5) (.pointer (some ⟨b, 0, none⟩)) (k := ?_)
  refine WL.op (d := 6) (.pointer (some ⟨b, 0, none⟩)) (k := ?_)
  refine WL.op (d := 7) (.pointer (some ⟨b, 2, none⟩)) (k := ?_)
  refine WL.load (v := .int .i64 k) (ld1 (T := 3) (i := 2) hb) (k := ?_)
  refine WL.opE (d := 9) (.int .i64 (IntKind.i64.wrap (k * 43))) (v := .int .i64 (k * 43)) (congrArg (Value.int .i64) (IntWalk.i64_in _ (by omega))) (k := ?_)
  refine WL.op (d := 2) (.int .i64 (k * 43)) (k := ?_)
  refine WL.nil ?_
  refine WX.seqN ?_
  refine WC.ret ?_
  refine WX.ret (rs := [.tmp 2]) [.int .i64 (k * 43)] (.int .i64 (k * 43)) ⟨(by kernel_rfl), trivial⟩ (k := ?_)
  exact ⟨rfl, K⟩
set_option maxRecDepth 100000 in
set_option maxHeartbeats 4000000 in
theorem svSectors_c {b : Nat} {slot : Int} (w : World) : Calls Tryz.prog 46 #[.pointer (some ⟨b, 0, none⟩), .int .i64 slot] w fun e w' => ∃ b1 b2, e = .returned (.func (.func 54) #[] #[.pointer (some ⟨b1, 0, none⟩), .pointer (some ⟨b2, 0, none⟩)]) ∧ w.heap.size ≤ b1 ∧ w.heap.size ≤ b2 ∧ b1 ≠ b2 ∧ w'.heap[b1]? = some (.cells #[.pointer (some ⟨b, 0, none⟩)] 60 (0, 0)) ∧ w'.heap[b2]? = some (.cells #[.int .i64 slot] 3 (0, 0)) ∧ Adds w w' := by
  have K : Keeps (fun _ => False) w w := Keeps.refl _ w
  refine Calls.start Tryz.func46 rfl (by kernel_rfl) ?_
  refine WC.seq ?_
  refine WC.region ?_
  refine WL.new (d := 2) (T := 60) #[.pointer (some ⟨b, 0, none⟩)] (k := fun b1 w2 g3 hb4 k5 => ?_)
  have z6 := Nat.le_trans K.size g3
  replace K := K.trans (k5.any _)
  refine WL.new (d := 3) (T := 3) #[.int .i64 slot] (k := fun b7 w8 g9 hb10 k11 => ?_)
  have z12 := Nat.le_trans K.size g9
  have n13 : b1 ≠ b7 := Nat.ne_of_lt (Nat.lt_of_lt_of_le (lt_of_heap hb4) g9)
  replace hb4 := k11.heap hb4 id
  replace K := K.trans (k11.any _)
  refine WL.op (d := 4) (.nilFunc) (k := ?_)
  refine WL.nil ?_
  refine WX.seqN ?_
  refine WC.seq ?_
  refine WC.region ?_
  refine WL.op (d := 5) (.func (.func 54) #[] #[.pointer (some ⟨b1, 0, none⟩), .pointer (some ⟨b7, 0, none⟩)]) (k := ?_)
  refine WL.op (d := 4) (.func (.func 54) #[] #[.pointer (some ⟨b1, 0, none⟩), .pointer (some ⟨b7, 0, none⟩)]) (k := ?_)
  refine WL.nil ?_
  refine WX.seqN ?_
  refine WC.ret ?_
  refine WX.ret (rs := [.tmp 4]) [.func (.func 54) #[] #[.pointer (some ⟨b1, 0, none⟩), .pointer (some ⟨b7, 0, none⟩)]] (.func (.func 54) #[] #[.pointer (some ⟨b1, 0, none⟩), .pointer (some ⟨b7, 0, none⟩)]) ⟨(by kernel_rfl), trivial⟩ (k := ?_)
  exact ⟨_, _, rfl, z6, z12, n13, hb4, hb10, K⟩
set_option maxRecDepth 100000 in
set_option maxHeartbeats 4000000 in
theorem svIter_c {σ : Type} {C : Nat → GDisk → σ → World → Prop} {X : World → Prop} {S : Nat → Prop} {b dk b1 b2 l : Nat} {at_ k slot sk : Int} {d : GDisk} {x : σ} {w : World} (hsk : slot * k = sk) (s0 : 0 ≤ sk) (s1 : sk ≤ 64) (a0 : 0 ≤ at_) (a1 : at_ ≤ 1024) (k0 : 0 ≤ k) (k1 : k ≤ 64) (hC : ∀ i d x W W', C i d x W → Keeps S W W' → C i d x W') (hB : ∀ i d x W, C i d x W → (∃ v3 v4 v5, W.heap[b]? = some (.cells #[.pointer (some ⟨dk, 0, none⟩), .int .i64 at_, .int .i64 k, v3, v4, v5] 81 (0, 0))) ∧ W.heap[b1]? = some (.cells #[.pointer (some ⟨b, 0, none⟩)] 60 (0, 0)) ∧ W.heap[b2]? = some (.cells #[.int .i64 slot] 3 (0, 0))) (hY : ∀ (i : Nat) d x W, C i d x W → (i : Int) < k → DiskAt S dk (d.readD (at_ + sk + (i : Int))) W → Ylds Tryz.prog l #[.string ⟨(d.readT (at_ + sk + (i : Int))).toArray⟩, .int .i64 (d.readE (at_ + sk + (i : Int)))] W fun e W' => (e = .returned (.bool true) ∧ (∃ x', C (i + 1) (d.readD (at_ + sk + (i : Int))) x' W') ∧ DiskAt S dk (d.readD (at_ + sk + (i : Int))) W' ∧ Keeps (fun _ => True) W W') ∨ (e = .returned (.bool false) ∧ X W' ∧ Keeps (fun _ => True) W W')) (h0 : C 0 d x w) (hd : DiskAt S dk d w) (nb : ¬ S b) (n1 : ¬ S b1) (n2 : ¬ S b2) : Calls Tryz.prog 54 #[.func (.yield l) #[] #[], .pointer (some ⟨b1, 0, none⟩), .pointer (some ⟨b2, 0, none⟩)] w fun e w' => e = .returned (.tuple #[]) ∧ ((∃ (i : Nat) (d : GDisk) (x : σ), k ≤ (i : Int) ∧ C i d x w' ∧ DiskAt S dk d w') ∨ X w') := by
  have K : Keeps (fun _ => True) w w := Keeps.refl _ w
  have lk0 : ∀ k, S k → S k ∨ w.heap.size ≤ k := fun k h => .inl h
  obtain ⟨⟨v3, v4, v5, hb_⟩, hb1_, hb2_⟩ := hB _ _ _ _ h0
  refine Calls.start Tryz.func54 rfl (by kernel_rfl) ?_
  refine WC.seq ?_
  refine WC.region ?_
  refine WL.load (v := .pointer (some ⟨b, 0, none⟩)) (ld1 (T := 60) (i := 0) hb1_) (k := ?_)
  refine WL.op (d := 6) (.pointer (some ⟨b, 0, none⟩)) (k := ?_)
  refine WL.op (d := 7) (.pointer (some ⟨b, 2, none⟩)) (k := ?_)
  refine WL.load (v := .int .i64 k) (ld1 (T := 3) (i := 2) hb_) (k := ?_)
  refine WL.op (d := 9) (.int .i64 0) (k := ?_)
  refine WL.nil ?_
  refine WX.seqN ?_
  refine WC.block ?_
  refine WC.loop (ι := Nat × GDisk × σ) (fun (⟨i, di, xi⟩ : Nat × GDisk × σ) => [(0, .func (.yield l) #[] #[]), (1, .pointer (some ⟨b1, 0, none⟩)), (2, .pointer (some ⟨b2, 0, none⟩)), (5, .pointer (some ⟨b, 0, none⟩)), (6, .pointer (some ⟨b, 0, none⟩)), (7, .pointer (some ⟨b, 2, none⟩)), (8, .int .i64 k), (9, .int .i64 (i : Int))]) (fun (⟨i, di, xi⟩ : Nat × GDisk × σ) (w_ : World) => (Keeps (fun _ => True) w w_) ∧ (DiskAt S dk di w_) ∧ (∀ k, S k → S k ∨ w.heap.size ≤ k) ∧ (C i di xi w_)) (fun (⟨i, di, xi⟩ : Nat × GDisk × σ) => (k.toNat - i)) (0, d, x) ⟨(by kernel_rfl), (by kernel_rfl), (by kernel_rfl), (by kernel_rfl), (by kernel_rfl), (by kernel_rfl), (by kernel_rfl), (by kernel_rfl), trivial⟩ ⟨K, hd, lk0, h0⟩ ?_
  rintro ⟨i, di, xi⟩ w1 ⟨K, hb2, lk3, hc⟩
  obtain ⟨⟨v3, v4, v5, hb_⟩, hb1_, hb2_⟩ := hB _ _ _ _ hc
  refine WC.seq ?_
  refine WC.region ?_
  refine WL.op (d := 10) (.bool (decide ((i : Int) < k))) (k := ?_)
  refine WL.nil ?_
  refine WX.seqN ?_
  refine WC.seq ?_
  refine WC.cond (b := decide ((i : Int) < k)) (ht := fun h4 => ?_) (hf := fun h4 => ?_)
  · have ph4 := of_decide_eq_true h4
    refine WC.skip ?_
    refine WX.seqN ?_
    refine WC.seq ?_
    refine WC.block ?_
    refine WC.seq ?_
    refine WC.region ?_
    refine WL.op (d := 11) (.int .i64 (i : Int)) (k := ?_)
    refine WL.op (d := 4) (.int .i64 (i : Int)) (k := ?_)
    refine WL.nil ?_
    refine WX.seqN ?_
    refine WC.seq ?_
    refine WC.mixed (fun k => S k) 21 (k := fun w5 k6 => ?_)
    replace hb2 := hb2.adds k6
    replace hb_ := k6.heap hb_ id
    replace hb1_ := k6.heap hb1_ id
    replace hb2_ := k6.heap hb2_ id
    replace hc := hC _ _ _ _ _ hc (k6.any _)
    replace K := K.trans (k6.any _)
    have KC := Keeps.refl (fun k => S k) w5
    have bh7 := hb_
    have bh8 := hb1_
    have bh9 := hb2_
    have Kb := K
    refine WA.quietT 0 (d := 12) (.func (.yield l) #[] #[]) KC (hi := rfl) (k := ?_)
    refine WA.quietRT 1 (d := 13) (.pointer (some ⟨b, 0, none⟩)) KC (exec_load (fun w_ k_ => ld1 (T := 60) (i := 0) (k_.heap bh8 n1))) (hi := rfl) (k := ?_)
    refine WA.quietT 2 (d := 14) (.pointer (some ⟨b, 0, none⟩)) KC (hi := rfl) (k := ?_)
    refine WA.quietT 3 (d := 15) (.pointer (some ⟨b, 0, none⟩)) KC (hi := rfl) (k := ?_)
    refine WA.quietRT 4 (d := 16) (.pointer (some ⟨dk, 0, none⟩)) KC (exec_load (fun w_ k_ => ld1 (T := 23) (i := 0) (k_.heap bh7 nb))) (hi := rfl) (k := ?_)
    refine WA.quietRT 5 (d := 17) (.pointer (some ⟨b, 0, none⟩)) KC (exec_load (fun w_ k_ => ld1 (T := 60) (i := 0) (k_.heap bh8 n1))) (hi := rfl) (k := ?_)
    refine WA.quietT 6 (d := 18) (.pointer (some ⟨b, 0, none⟩)) KC (hi := rfl) (k := ?_)
    refine WA.quietT 7 (d := 19) (.pointer (some ⟨b, 1, none⟩)) KC (hi := rfl) (k := ?_)
    refine WA.quietRT 8 (d := 20) (.int .i64 at_) KC (exec_load (fun w_ k_ => ld1 (T := 3) (i := 1) (k_.heap bh7 nb))) (hi := rfl) (k := ?_)
    refine WA.quietRT 9 (d := 21) (.int .i64 slot) KC (exec_load (fun w_ k_ => ld1 (T := 3) (i := 0) (k_.heap bh9 n2))) (hi := rfl) (k := ?_)
    refine WA.quietRT 10 (d := 22) (.pointer (some ⟨b, 0, none⟩)) KC (exec_load (fun w_ k_ => ld1 (T := 60) (i := 0) (k_.heap bh8 n1))) (hi := rfl) (k := ?_)
    refine WA.quietT 11 (d := 23) (.pointer (some ⟨b, 0, none⟩)) KC (hi := rfl) (k := ?_)
    refine WA.quietT 12 (d := 24) (.pointer (some ⟨b, 2, none⟩)) KC (hi := rfl) (k := ?_)
    refine WA.quietRT 13 (d := 25) (.int .i64 k) KC (exec_load (fun w_ k_ => ld1 (T := 3) (i := 2) (k_.heap bh7 nb))) (hi := rfl) (k := ?_)
    refine WA.quietT 14 (d := 26) (.int .i64 (IntKind.i64.wrap (slot * k))) KC (hi := rfl) (k := ?_)
    refine WA.rw (t := 26) (v := .int .i64 sk) (congrArg (Value.int .i64) ((IntWalk.i64_in _ (by omega)).trans hsk)) (k := ?_)
    refine WA.quietT 15 (d := 27) (.int .i64 (IntKind.i64.wrap (at_ + sk))) KC (hi := rfl) (k := ?_)
    refine WA.rw (t := 27) (v := .int .i64 (at_ + sk)) (congrArg (Value.int .i64) (IntWalk.i64_in _ (by omega))) (k := ?_)
    refine WA.quietT 16 (d := 28) (.int .i64 (i : Int)) KC (hi := rfl) (k := ?_)
    refine WA.quietT 17 (d := 29) (.int .i64 (IntKind.i64.wrap ((at_ + sk) + (i : Int)))) KC (hi := rfl) (k := ?_)
    refine WA.rw (t := 29) (v := .int .i64 ((at_ + sk) + (i : Int))) (congrArg (Value.int .i64) (IntWalk.i64_in _ (by omega))) (k := ?_)
    refine WA.step 18 (hi := rfl) (k := ?_)
    refine WL.callG (d := 30) (f := 53) (args := #[.pointer (some ⟨dk, 0, none⟩), .int .i64 ((at_ + sk) + (i : Int))]) (dRead_c (a := (at_ + sk) + (i : Int)) hb2) (k := fun e_ w10 h_ => ?_)
    obtain ⟨rfl, hd11, k12⟩ := h_
    refine ⟨_, rfl, ?_⟩
    replace hb_ := k12.heap hb_ nb
    replace hb1_ := k12.heap hb1_ n1
    replace hb2_ := k12.heap hb2_ n2
    replace hc := hC _ _ _ _ _ hc k12
    replace K := K.trans' k12 (fun i hi e => (lk3 i e).elim (fun h => trivial) (fun h => absurd hi (Nat.not_lt.2 h)))
    replace KC := KC.trans' k12 (fun i hi e => e)
    clear hb2
    refine WL.nil ?_
    refine WX.nxt KC ?_
    refine WA.quietT 19 (d := 31) (.string ⟨(GDisk.readT di ((at_ + sk) + (i : Int))).toArray⟩) KC (hi := rfl) (k := ?_)
    refine WA.quietT 20 (d := 32) (.int .i64 (GDisk.readE di ((at_ + sk) + (i : Int)))) KC (hi := rfl) (k := ?_)
    refine WA.step 21 (hi := rfl) (k := ?_)
    refine WL.yield (d := 33) (hY _ _ _ _ hc (by omega) hd11) (k := fun e_ w13 h_ => ?_)
    rcases h_ with ⟨rfl, ⟨x14, hc15⟩, hd16, ky17⟩ | ⟨rfl, hx18, ky17⟩
    · refine ⟨_, rfl, ?_⟩
      replace K := K.trans' ky17 (fun _ _ _ => trivial)
      refine WL.nil ?_
      refine WX.nxtL ?_
      refine WA.step 22 (hi := rfl) (k := ?_)
      refine WL.op (d := 34) (.bool false) (k := ?_)
      refine WL.nil ?_
      refine WX.nxtB (k := ?_)
      refine WA.done (k := ?_)
      clear KC
      refine WX.seqN ?_
      refine WC.condF (k := ?_)
      refine WC.skip ?_
      refine WX.blockN ?_
      refine WX.seqN ?_
      refine WC.region ?_
      refine WL.opE (d := 35) (.int .i64 (IntKind.i64.wrap ((i : Int) + 1))) (v := .int .i64 ((i + 1 : Nat) : Int)) (congrArg (Value.int .i64) (by rw [IntWalk.i64_in _ (by omega)]; omega)) (k := ?_)
      refine WL.op (d := 9) (.int .i64 ((i + 1 : Nat) : Int)) (k := ?_)
      refine WL.nil ?_
      refine WX.round ((i + 1), GDisk.readD di ((at_ + sk) + (i : Int)), x14) (by show (k.toNat - (i + 1)) < (k.toNat - i); omega) ⟨(by kernel_rfl), (by kernel_rfl), (by kernel_rfl), (by kernel_rfl), (by kernel_rfl), (by kernel_rfl), (by kernel_rfl), (by kernel_rfl), trivial⟩ ⟨K, hd16, lk3, hc15⟩
    · refine ⟨_, rfl, ?_⟩
      replace K := K.trans' ky17 (fun _ _ _ => trivial)
      refine WL.nil ?_
      refine WX.nxtL ?_
      refine WA.step 22 (hi := rfl) (k := ?_)
      refine WL.op (d := 34) (.bool true) (k := ?_)
      refine WL.nil ?_
      refine WX.nxtB (k := ?_)
      refine WA.done (k := ?_)
      clear KC
      refine WX.seqN ?_
      refine WC.condT (k := ?_)
      refine WC.ret ?_
      refine WX.blockR ?_
      refine WX.seqR ?_
      refine WX.seqR ?_
      refine WX.blockR ?_
      refine WX.ret (rs := []) [] (.tuple #[]) trivial (k := ?_)
      exact ⟨rfl, .inr hx18⟩
  · have ph4 := of_decide_eq_false h4
    refine WC.exit ?_
    refine WX.seqE ?_
    refine WX.seqE ?_
    refine WX.blockE ?_
    refine WX.end (rs := []) [] (.tuple #[]) trivial (k := ?_)
    exact ⟨rfl, .inl ⟨i, di, xi, by omega, hc, hb2⟩⟩
theorem readT_len2 {d : GDisk} {a : Int} (h : (d.readD a).ok) : (d.readT a).length ≤ 64 := by
  unfold GDisk.readT; split
  · next k =>
    have e : d.at_ a = (d.readD a).at_ a := by unfold GDisk.at_; rw [GDisk.readD_opn, GDisk.readD_secs]
    rw [e, GDisk.at_len h (by have := k.1; unfold GDisk.has at *; rw [GDisk.readD_secs]; exact this)]; exact Nat.le_refl _
  · simp
theorem max_ite (a b : Nat) : (if (b : Int) > (a : Int) then (b : Int) else (a : Int)) = ((max a b : Nat) : Int) := by
  split <;> omega
set_option maxRecDepth 100000 in
set_option maxHeartbeats 4000000 in
theorem svSlot_c {S : Nat → Prop} {b dk : Nat} {d : GDisk} {at_ k slot sk : Int} {rv lv : Value} {nw : Nat} {w : World} (hsk : slot * k = sk) (s0 : 0 ≤ sk) (s1 : sk ≤ 64) (a0 : 0 ≤ at_) (a1 : at_ ≤ 1024) (k0 : 0 ≤ k) (k1 : k ≤ 64) (hb : w.heap[b]? = some (.cells #[.pointer (some ⟨dk, 0, none⟩), .int .i64 at_, .int .i64 k, rv, .int .u64 (nw : Int), lv] 81 (0, 0))) (hd : DiskAt S dk d w) (hnb : ¬ S b) (hnw : nw < 18446744073709551616) : Calls Tryz.prog 37 #[.pointer (some ⟨b, 0, none⟩), .int .i64 slot] w fun e w' => e = .returned (.tuple #[.agg #[.int .u64 ((SvR.e (slotGo (at_ + sk) k.toNat 0 true 0 [] nw d) : Nat) : Int), .string ⟨(SvR.t (slotGo (at_ + sk) k.toNat 0 true 0 [] nw d)).toArray⟩], .int .i64 (SvR.bad (slotGo (at_ + sk) k.toNat 0 true 0 [] nw d))]) ∧ w'.heap[b]? = some (.cells #[.pointer (some ⟨dk, 0, none⟩), .int .i64 at_, .int .i64 k, rv, .int .u64 ((SvR.nw (slotGo (at_ + sk) k.toNat 0 true 0 [] nw d) : Nat) : Int), lv] 81 (0, 0)) ∧ DiskAt S dk (SvR.d (slotGo (at_ + sk) k.toNat 0 true 0 [] nw d)) w' ∧ Keeps (fun k => k = b ∨ S k) w w' := by
  have K : Keeps (fun k => k = b ∨ S k) w w := Keeps.refl _ w
  have lk0 : ∀ k, S k → S k ∨ w.heap.size ≤ k := fun k h => .inl h
  refine Calls.startM Tryz.func37 rfl (by kernel_rfl) ?_
  refine WC.seq ?_
  refine WC.region ?_
  refine WL.new (d := 2) (T := 60) #[.pointer (some ⟨b, 0, none⟩)] (k := fun b1 w2 g3 hb4 k5 => ?_)
  have z6 := Nat.le_trans K.size g3
  have n7 : b ≠ b1 := Nat.ne_of_lt (Nat.lt_of_lt_of_le (lt_of_heap hb) g3)
  have n8 : ¬ S b1 := fun h => absurd (hd.lt _ h) (Nat.not_lt.2 g3)
  replace hb := k5.heap hb id
  replace hd := hd.adds k5
  replace K := K.trans (k5.any _)
  refine WL.new (d := 4) (T := 55) #[.int .u64 0, .string ⟨#[]⟩] (k := fun b9 w10 g11 hb12 k13 => ?_)
  have z14 := Nat.le_trans K.size g11
  have n15 : b ≠ b9 := Nat.ne_of_lt (Nat.lt_of_lt_of_le (lt_of_heap hb) g11)
  have n16 : ¬ S b9 := fun h => absurd (hd.lt _ h) (Nat.not_lt.2 g11)
  have n17 : b1 ≠ b9 := Nat.ne_of_lt (Nat.lt_of_lt_of_le (lt_of_heap hb4) g11)
  replace hb := k13.heap hb id
  replace hd := hd.adds k13
  replace hb4 := k13.heap hb4 id
  replace K := K.trans (k13.any _)
  refine WL.op (d := 5) (.int .i64 0) (k := ?_)
  refine WL.nil ?_
  refine WX.seqN ?_
  refine WC.scope ?_
  refine WC.seq ?_
  refine WC.region ?_
  refine WL.new (d := 6) (T := 55) #[.int .u64 0, .string ⟨#[]⟩] (k := fun b18 w19 g20 hb21 k22 => ?_)
  have z23 := Nat.le_trans K.size g20
  have n24 : b ≠ b18 := Nat.ne_of_lt (Nat.lt_of_lt_of_le (lt_of_heap hb) g20)
  have n25 : ¬ S b18 := fun h => absurd (hd.lt _ h) (Nat.not_lt.2 g20)
  have n26 : b1 ≠ b18 := Nat.ne_of_lt (Nat.lt_of_lt_of_le (lt_of_heap hb4) g20)
  have n27 : b9 ≠ b18 := Nat.ne_of_lt (Nat.lt_of_lt_of_le (lt_of_heap hb12) g20)
  replace hb := k22.heap hb id
  replace hd := hd.adds k22
  replace hb4 := k22.heap hb4 id
  replace hb12 := k22.heap hb12 id
  replace K := K.trans (k22.any _)
  refine WL.nil ?_
  refine WX.seqN ?_
  refine WC.seq ?_
  refine WC.region ?_
  refine WL.new (d := 7) (T := 4) #[.bool false] (k := fun b28 w29 g30 hb31 k32 => ?_)
  have z33 := Nat.le_trans K.size g30
  have n34 : b ≠ b28 := Nat.ne_of_lt (Nat.lt_of_lt_of_le (lt_of_heap hb) g30)
  have n35 : ¬ S b28 := fun h => absurd (hd.lt _ h) (Nat.not_lt.2 g30)
  have n36 : b1 ≠ b28 := Nat.ne_of_lt (Nat.lt_of_lt_of_le (lt_of_heap hb4) g30)
  have n37 : b9 ≠ b28 := Nat.ne_of_lt (Nat.lt_of_lt_of_le (lt_of_heap hb12) g30)
  have n38 : b18 ≠ b28 := Nat.ne_of_lt (Nat.lt_of_lt_of_le (lt_of_heap hb21) g30)
  replace hb := k32.heap hb id
  replace hd := hd.adds k32
  replace hb4 := k32.heap hb4 id
  replace hb12 := k32.heap hb12 id
  replace hb21 := k32.heap hb21 id
  replace K := K.trans (k32.any _)
  refine WL.new (d := 8) (T := 41) #[.int .u64 0] (k := fun b39 w40 g41 hb42 k43 => ?_)
  have z44 := Nat.le_trans K.size g41
  have n45 : b ≠ b39 := Nat.ne_of_lt (Nat.lt_of_lt_of_le (lt_of_heap hb) g41)
  have n46 : ¬ S b39 := fun h => absurd (hd.lt _ h) (Nat.not_lt.2 g41)
  have n47 : b1 ≠ b39 := Nat.ne_of_lt (Nat.lt_of_lt_of_le (lt_of_heap hb4) g41)
  have n48 : b9 ≠ b39 := Nat.ne_of_lt (Nat.lt_of_lt_of_le (lt_of_heap hb12) g41)
  have n49 : b18 ≠ b39 := Nat.ne_of_lt (Nat.lt_of_lt_of_le (lt_of_heap hb21) g41)
  have n50 : b28 ≠ b39 := Nat.ne_of_lt (Nat.lt_of_lt_of_le (lt_of_heap hb31) g41)
  replace hb := k43.heap hb id
  replace hd := hd.adds k43
  replace hb4 := k43.heap hb4 id
  replace hb12 := k43.heap hb12 id
  replace hb21 := k43.heap hb21 id
  replace hb31 := k43.heap hb31 id
  replace K := K.trans (k43.any _)
  refine WL.store (v := .bool true) (i := 0) (cs' := #[.bool true]) hb31 (k := fun w51 hb52 k53 => ?_)
  replace hb := k53.heap hb n34
  replace hd := hd.keeps k53 (fun i hi e => n35 (e ▸ hi))
  replace hb4 := k53.heap hb4 n36
  replace hb12 := k53.heap hb12 n37
  replace hb21 := k53.heap hb21 n38
  replace hb42 := k53.heap hb42 (Ne.symm n50)
  replace K := K.trans' k53 (fun i hi e => absurd (e ▸ hi) (Nat.not_lt.2 z33))
  clear hb31
  refine WL.store (v := .int .u64 0) (i := 0) (cs' := #[.int .u64 0]) hb42 (k := fun w54 hb55 k56 => ?_)
  replace hb := k56.heap hb n45
  replace hd := hd.keeps k56 (fun i hi e => n46 (e ▸ hi))
  replace hb4 := k56.heap hb4 n47
  replace hb12 := k56.heap hb12 n48
  replace hb21 := k56.heap hb21 n49
  replace hb52 := k56.heap hb52 n50
  replace K := K.trans' k56 (fun i hi e => absurd (e ▸ hi) (Nat.not_lt.2 z44))
  clear hb42
  refine WL.nil ?_
  refine WX.seqN ?_
  refine WC.seq ?_
  refine WC.region ?_
  refine WL.new (d := 9) (T := 26) #[.int .i64 0] (k := fun b57 w58 g59 hb60 k61 => ?_)
  have z62 := Nat.le_trans K.size g59
  have n63 : b ≠ b57 := Nat.ne_of_lt (Nat.lt_of_lt_of_le (lt_of_heap hb) g59)
  have n64 : ¬ S b57 := fun h => absurd (hd.lt _ h) (Nat.not_lt.2 g59)
  have n65 : b1 ≠ b57 := Nat.ne_of_lt (Nat.lt_of_lt_of_le (lt_of_heap hb4) g59)
  have n66 : b9 ≠ b57 := Nat.ne_of_lt (Nat.lt_of_lt_of_le (lt_of_heap hb12) g59)
  have n67 : b18 ≠ b57 := Nat.ne_of_lt (Nat.lt_of_lt_of_le (lt_of_heap hb21) g59)
  have n68 : b28 ≠ b57 := Nat.ne_of_lt (Nat.lt_of_lt_of_le (lt_of_heap hb52) g59)
  have n69 : b39 ≠ b57 := Nat.ne_of_lt (Nat.lt_of_lt_of_le (lt_of_heap hb55) g59)
  replace hb := k61.heap hb id
  replace hd := hd.adds k61
  replace hb4 := k61.heap hb4 id
  replace hb12 := k61.heap hb12 id
  replace hb21 := k61.heap hb21 id
  replace hb52 := k61.heap hb52 id
  replace hb55 := k61.heap hb55 id
  replace K := K.trans (k61.any _)
  refine WL.store (v := .int .i64 0) (i := 0) (cs' := #[.int .i64 0]) hb60 (k := fun w70 hb71 k72 => ?_)
  replace hb := k72.heap hb n63
  replace hd := hd.keeps k72 (fun i hi e => n64 (e ▸ hi))
  replace hb4 := k72.heap hb4 n65
  replace hb12 := k72.heap hb12 n66
  replace hb21 := k72.heap hb21 n67
  replace hb52 := k72.heap hb52 n68
  replace hb55 := k72.heap hb55 n69
  replace K := K.trans' k72 (fun i hi e => absurd (e ▸ hi) (Nat.not_lt.2 z62))
  clear hb60
  refine WL.nil ?_
  refine WX.seqN ?_
  refine WC.seq ?_
  refine WC.label ?_
  refine WX.seqN ?_
  refine WC.seq ?_
  refine WC.seq ?_
  refine WC.region ?_
  refine WL.load (v := .pointer (some ⟨b, 0, none⟩)) (ld1 (T := 60) (i := 0) hb4) (k := ?_)
  refine WL.op (d := 18) (.int .i64 slot) (k := ?_)
  refine WL.callG (d := 19) (f := 46) (args := #[.pointer (some ⟨b, 0, none⟩), .int .i64 slot]) (svSectors_c (b := b) (slot := slot) w70) (k := fun e_ w73 h_ => ?_)
  obtain ⟨b74, b75, rfl, g76, g77, n78, hb79, hb80, k81⟩ := h_
  refine ⟨_, rfl, ?_⟩
  have z82 := Nat.le_trans K.size g76
  have n83 : b ≠ b74 := Nat.ne_of_lt (Nat.lt_of_lt_of_le (lt_of_heap hb) g76)
  have n84 : ¬ S b74 := fun h => absurd (hd.lt _ h) (Nat.not_lt.2 g76)
  have n85 : b1 ≠ b74 := Nat.ne_of_lt (Nat.lt_of_lt_of_le (lt_of_heap hb4) g76)
  have n86 : b9 ≠ b74 := Nat.ne_of_lt (Nat.lt_of_lt_of_le (lt_of_heap hb12) g76)
  have n87 : b18 ≠ b74 := Nat.ne_of_lt (Nat.lt_of_lt_of_le (lt_of_heap hb21) g76)
  have n88 : b28 ≠ b74 := Nat.ne_of_lt (Nat.lt_of_lt_of_le (lt_of_heap hb52) g76)
  have n89 : b39 ≠ b74 := Nat.ne_of_lt (Nat.lt_of_lt_of_le (lt_of_heap hb55) g76)
  have n90 : b57 ≠ b74 := Nat.ne_of_lt (Nat.lt_of_lt_of_le (lt_of_heap hb71) g76)
  have z91 := Nat.le_trans K.size g77
  have n92 : b ≠ b75 := Nat.ne_of_lt (Nat.lt_of_lt_of_le (lt_of_heap hb) g77)
  have n93 : ¬ S b75 := fun h => absurd (hd.lt _ h) (Nat.not_lt.2 g77)
  have n94 : b1 ≠ b75 := Nat.ne_of_lt (Nat.lt_of_lt_of_le (lt_of_heap hb4) g77)
  have n95 : b9 ≠ b75 := Nat.ne_of_lt (Nat.lt_of_lt_of_le (lt_of_heap hb12) g77)
  have n96 : b18 ≠ b75 := Nat.ne_of_lt (Nat.lt_of_lt_of_le (lt_of_heap hb21) g77)
  have n97 : b28 ≠ b75 := Nat.ne_of_lt (Nat.lt_of_lt_of_le (lt_of_heap hb52) g77)
  have n98 : b39 ≠ b75 := Nat.ne_of_lt (Nat.lt_of_lt_of_le (lt_of_heap hb55) g77)
  have n99 : b57 ≠ b75 := Nat.ne_of_lt (Nat.lt_of_lt_of_le (lt_of_heap hb71) g77)
  replace hb := k81.heap hb id
  replace hd := hd.adds k81
  replace hb4 := k81.heap hb4 id
  replace hb12 := k81.heap hb12 id
  replace hb21 := k81.heap hb21 id
  replace hb52 := k81.heap hb52 id
  replace hb55 := k81.heap hb55 id
  replace hb71 := k81.heap hb71 id
  replace K := K.trans (k81.any _)
  refine WL.nil ?_
  refine WX.seqN ?_
  refine WC.block ?_
  refine WC.range (gf := 54) (lb := #[.pointer (some ⟨b74, 0, none⟩), .pointer (some ⟨b75, 0, none⟩)]) (he := fun _ _ => by kernel_rfl) (h := fun fn100 ts101 rec102 l103 D104 w105 hr106 g107 g108 ne109 k110 hF111 hD112 hl113 => ?_)
  have z114 := Nat.le_trans K.size g107
  have n115 : b ≠ D104 := Nat.ne_of_lt (Nat.lt_of_lt_of_le (lt_of_heap hb) g107)
  have n116 : ¬ S D104 := fun h => absurd (hd.lt _ h) (Nat.not_lt.2 g107)
  have n117 : b1 ≠ D104 := Nat.ne_of_lt (Nat.lt_of_lt_of_le (lt_of_heap hb4) g107)
  have n118 : b9 ≠ D104 := Nat.ne_of_lt (Nat.lt_of_lt_of_le (lt_of_heap hb12) g107)
  have n119 : b18 ≠ D104 := Nat.ne_of_lt (Nat.lt_of_lt_of_le (lt_of_heap hb21) g107)
  have n120 : b28 ≠ D104 := Nat.ne_of_lt (Nat.lt_of_lt_of_le (lt_of_heap hb52) g107)
  have n121 : b39 ≠ D104 := Nat.ne_of_lt (Nat.lt_of_lt_of_le (lt_of_heap hb55) g107)
  have n122 : b57 ≠ D104 := Nat.ne_of_lt (Nat.lt_of_lt_of_le (lt_of_heap hb71) g107)
  have n123 : b74 ≠ D104 := Nat.ne_of_lt (Nat.lt_of_lt_of_le (lt_of_heap hb79) g107)
  have n124 : b75 ≠ D104 := Nat.ne_of_lt (Nat.lt_of_lt_of_le (lt_of_heap hb80) g107)
  have z125 := Nat.le_trans K.size g108
  have n126 : b ≠ l103 := Nat.ne_of_lt (Nat.lt_of_lt_of_le (lt_of_heap hb) g108)
  have n127 : ¬ S l103 := fun h => absurd (hd.lt _ h) (Nat.not_lt.2 g108)
  have n128 : b1 ≠ l103 := Nat.ne_of_lt (Nat.lt_of_lt_of_le (lt_of_heap hb4) g108)
  have n129 : b9 ≠ l103 := Nat.ne_of_lt (Nat.lt_of_lt_of_le (lt_of_heap hb12) g108)
  have n130 : b18 ≠ l103 := Nat.ne_of_lt (Nat.lt_of_lt_of_le (lt_of_heap hb21) g108)
  have n131 : b28 ≠ l103 := Nat.ne_of_lt (Nat.lt_of_lt_of_le (lt_of_heap hb52) g108)
  have n132 : b39 ≠ l103 := Nat.ne_of_lt (Nat.lt_of_lt_of_le (lt_of_heap hb55) g108)
  have n133 : b57 ≠ l103 := Nat.ne_of_lt (Nat.lt_of_lt_of_le (lt_of_heap hb71) g108)
  have n134 : b74 ≠ l103 := Nat.ne_of_lt (Nat.lt_of_lt_of_le (lt_of_heap hb79) g108)
  have n135 : b75 ≠ l103 := Nat.ne_of_lt (Nat.lt_of_lt_of_le (lt_of_heap hb80) g108)
  replace hb := k110.heap hb id
  replace hd := hd.adds k110
  replace hb4 := k110.heap hb4 id
  replace hb12 := k110.heap hb12 id
  replace hb21 := k110.heap hb21 id
  replace hb52 := k110.heap hb52 id
  replace hb55 := k110.heap hb55 id
  replace hb71 := k110.heap hb71 id
  replace hb79 := k110.heap hb79 id
  replace hb80 := k110.heap hb80 id
  replace K := K.trans (k110.any _)
  refine (svIter_c (C := (fun (i : Nat) (di : GDisk) (⟨is_, ep, dt, nv⟩ : Bool × Nat × (List UInt8) × Nat) (w_ : World) => (Keeps (fun k => k = b ∨ S k) w w_) ∧ (w_.heap[b]? = some (.cells #[.pointer (some ⟨dk, 0, none⟩), .int .i64 at_, .int .i64 k, rv, .int .u64 ((nv : Nat) : Int), lv] 81 (0, 0))) ∧ (w_.heap[b1]? = some (.cells #[.pointer (some ⟨b, 0, none⟩)] 60 (0, 0))) ∧ (w_.heap[b9]? = some (.cells #[.int .u64 0, .string ⟨#[]⟩] 55 (0, 0))) ∧ (w_.heap[b18]? = some (.cells #[.int .u64 ((ep : Nat) : Int), .string ⟨(dt).toArray⟩] 55 (0, 0))) ∧ (w_.heap[b28]? = some (.cells #[.bool is_] 4 (0, 0))) ∧ (w_.heap[b39]? = some (.cells #[.int .u64 ((i : Nat) : Int)] 41 (0, 0))) ∧ (w_.heap[b57]? = some (.cells #[.int .i64 0] 26 (0, 0))) ∧ (w_.heap[b74]? = some (.cells #[.pointer (some ⟨b, 0, none⟩)] 60 (0, 0))) ∧ (w_.heap[b75]? = some (.cells #[.int .i64 slot] 3 (0, 0))) ∧ (w_.heap[D104]? = some (.deferred (some []))) ∧ (w_.heap[l103]? = some (rec102 .ready none)) ∧ (slotGo (at_ + sk) k.toNat 0 true 0 [] nw d = slotGo (at_ + sk) (k.toNat - i) i is_ ep dt nv di) ∧ (ep < 18446744073709551616) ∧ (nv < 18446744073709551616) ∧ (dt.length ≤ 43 * i))) (X := (fun (w_ : World) => ∃ (i : Nat) (di : GDisk) (is_ : Bool) (ep : Nat) (dt : List UInt8) (nv : Nat), (Keeps (fun k => k = b ∨ S k) w w_) ∧ (w_.heap[b]? = some (.cells #[.pointer (some ⟨dk, 0, none⟩), .int .i64 at_, .int .i64 k, rv, .int .u64 ((nv : Nat) : Int), lv] 81 (0, 0))) ∧ (w_.heap[b1]? = some (.cells #[.pointer (some ⟨b, 0, none⟩)] 60 (0, 0))) ∧ (w_.heap[b9]? = some (.cells #[.int .u64 0, .string ⟨#[]⟩] 55 (0, 0))) ∧ (w_.heap[b18]? = some (.cells #[.int .u64 ((ep : Nat) : Int), .string ⟨(dt).toArray⟩] 55 (0, 0))) ∧ (w_.heap[b28]? = some (.cells #[.bool is_] 4 (0, 0))) ∧ (w_.heap[b39]? = some (.cells #[.int .u64 ((i : Nat) : Int)] 41 (0, 0))) ∧ (w_.heap[b57]? = some (.cells #[.int .i64 (GDisk.readE di (at_ + sk + (i : Int)))] 26 (0, 0))) ∧ (w_.heap[b74]? = some (.cells #[.pointer (some ⟨b, 0, none⟩)] 60 (0, 0))) ∧ (w_.heap[b75]? = some (.cells #[.int .i64 slot] 3 (0, 0))) ∧ (w_.heap[D104]? = some (.deferred (some []))) ∧ (w_.heap[l103]? = some (rec102 .done (some (.exit 0)))) ∧ ((i : Int) < k) ∧ (¬ GDisk.readE di (at_ + sk + (i : Int)) = 0) ∧ (slotGo (at_ + sk) k.toNat 0 true 0 [] nw d = slotGo (at_ + sk) (k.toNat - i) i is_ ep dt nv di) ∧ (ep < 18446744073709551616) ∧ (nv < 18446744073709551616) ∧ (dt.length ≤ 43 * i) ∧ (DiskAt S dk (GDisk.readD di (at_ + sk + (i : Int))) w_))) (b := b) (x := (true, 0, [], nw)) (at_ := at_) (k := k) (sk := sk) (slot := slot) hsk (by omega) (by omega) (by omega) (by omega) (by omega) (by omega) ?_ ?_ ?_ ⟨K, hb, hb4, hb12, hb21, hb52, hb55, hb71, hb79, hb80, hD112, hl113, rfl, (by omega), hnw, (by simp)⟩ hd hnb n84 n93).mono ?_
  · rintro i di ⟨is_, ep, dt, nv⟩ W_ W2_ ⟨K, hb136, hb137, hb138, hb139, hb140, hb141, hb142, hb143, hb144, hb145, hb146, hg, he, hn, hdt⟩ k_
    replace hb136 := k_.heap hb136 hnb
    replace hb137 := k_.heap hb137 n8
    replace hb138 := k_.heap hb138 n16
    replace hb139 := k_.heap hb139 n25
    replace hb140 := k_.heap hb140 n35
    replace hb141 := k_.heap hb141 n46
    replace hb142 := k_.heap hb142 n64
    replace hb143 := k_.heap hb143 n84
    replace hb144 := k_.heap hb144 n93
    replace hb145 := k_.heap hb145 n116
    replace hb146 := k_.heap hb146 n127
    replace K := K.trans' k_ (fun i hi e => (lk0 i e).elim (fun h => .inr h) (fun h => absurd hi (Nat.not_lt.2 h)))
    exact ⟨K, hb136, hb137, hb138, hb139, hb140, hb141, hb142, hb143, hb144, hb145, hb146, hg, he, hn, hdt⟩
  · rintro i di ⟨is_, ep, dt, nv⟩ W_ ⟨K, hb147, hb148, hb149, hb150, hb151, hb152, hb153, hb154, hb155, hb156, hb157, hg, he, hn, hdt⟩
    exact ⟨⟨_, _, _, hb147⟩, hb154, hb155⟩
  · rintro i di ⟨is_, ep, dt, nv⟩ w169 ⟨K, hb158, hb159, hb160, hb161, hb162, hb163, hb164, hb165, hb166, hb167, hb168, hg, he, hn, hdt⟩ hlt_ hd170
    have Kr_ := Keeps.refl (fun _ => True) w169
    have rtl_ := readT_len2 hd170.ok
    have tl_ := tgE_lt (GDisk.readT di (at_ + sk + (i : Int)))
    refine Ylds.mk hr106 hb168 hF111 (k := ?_)
    refine WC.seq ?_
    refine WC.region ?_
    refine WL.op (d := 10) (.string ⟨(GDisk.readT di (at_ + sk + (i : Int))).toArray⟩) (k := ?_)
    refine WL.nil ?_
    refine WX.seqN ?_
    refine WC.region ?_
    refine WL.op (d := 11) (.int .i64 (GDisk.readE di (at_ + sk + (i : Int)))) (k := ?_)
    refine WL.nil ?_
    refine WX.begin hr106 hb168 (fun w171 hl172 k173 => ?_)
    replace hb158 := k173.heap hb158 n126
    replace hd170 := hd170.keeps k173 (fun i hi e => n127 (e ▸ hi))
    replace hb159 := k173.heap hb159 n128
    replace hb160 := k173.heap hb160 n129
    replace hb161 := k173.heap hb161 n130
    replace hb162 := k173.heap hb162 n131
    replace hb163 := k173.heap hb163 n132
    replace hb164 := k173.heap hb164 n133
    replace hb165 := k173.heap hb165 n134
    replace hb166 := k173.heap hb166 n135
    replace hb167 := k173.heap hb167 ne109
    replace Kr_ := Kr_.trans' k173 (fun _ _ _ => trivial)
    replace K := K.trans' k173 (fun i hi e => absurd (e ▸ hi) (Nat.not_lt.2 z125))
    clear hb168
    refine WC.block ?_
    refine WC.seq ?_
    refine WC.seq ?_
    refine WC.region ?_
    refine WL.op (d := 22) (.int .i64 (GDisk.readE di (at_ + sk + (i : Int)))) (k := ?_)
    refine WL.op (d := 23) (.bool ((GDisk.readE di (at_ + sk + (i : Int))) != 0)) (k := ?_)
    refine WL.nil ?_
    refine WX.seqN ?_
    refine WC.cond (b := (GDisk.readE di (at_ + sk + (i : Int))) != 0) (ht := fun h174 => ?_) (hf := fun h174 => ?_)
    · have ph174 := bne_iff_ne.1 h174
      refine WC.seq ?_
      refine WC.region ?_
      refine WL.op (d := 24) (.int .i64 (GDisk.readE di (at_ + sk + (i : Int)))) (k := ?_)
      refine WL.store (v := .int .i64 (GDisk.readE di (at_ + sk + (i : Int)))) (i := 0) (cs' := #[.int .i64 (GDisk.readE di (at_ + sk + (i : Int)))]) hb164 (k := fun w175 hb176 k177 => ?_)
      replace hb158 := k177.heap hb158 n63
      replace hd170 := hd170.keeps k177 (fun i hi e => n64 (e ▸ hi))
      replace hb159 := k177.heap hb159 n65
      replace hb160 := k177.heap hb160 n66
      replace hb161 := k177.heap hb161 n67
      replace hb162 := k177.heap hb162 n68
      replace hb163 := k177.heap hb163 n69
      replace hb165 := k177.heap hb165 (Ne.symm n90)
      replace hb166 := k177.heap hb166 (Ne.symm n99)
      replace hb167 := k177.heap hb167 (Ne.symm n122)
      replace hl172 := k177.heap hl172 (Ne.symm n133)
      replace Kr_ := Kr_.trans' k177 (fun _ _ _ => trivial)
      replace K := K.trans' k177 (fun i hi e => absurd (e ▸ hi) (Nat.not_lt.2 z62))
      clear hb164
      refine WL.nil ?_
      refine WX.seqN ?_
      refine WC.exit ?_
      refine WX.seqE ?_
      refine WX.blockO (by kernel_rfl) ?_
      refine WX.roundX hr106 hl172 (fun w178 hl179 k180 => ?_)
      replace hb158 := k180.heap hb158 n126
      replace hd170 := hd170.keeps k180 (fun i hi e => n127 (e ▸ hi))
      replace hb159 := k180.heap hb159 n128
      replace hb160 := k180.heap hb160 n129
      replace hb161 := k180.heap hb161 n130
      replace hb162 := k180.heap hb162 n131
      replace hb163 := k180.heap hb163 n132
      replace hb176 := k180.heap hb176 n133
      replace hb165 := k180.heap hb165 n134
      replace hb166 := k180.heap hb166 n135
      replace hb167 := k180.heap hb167 ne109
      replace Kr_ := Kr_.trans' k180 (fun _ _ _ => trivial)
      replace K := K.trans' k180 (fun i hi e => absurd (e ▸ hi) (Nat.not_lt.2 z125))
      clear hl172
      exact .inr ⟨rfl, ⟨i, di, is_, ep, dt, nv, K, hb158, hb159, hb160, hb161, hb162, hb163, hb176, hb165, hb166, hb167, hl179, (by omega), ph174, hg, he, hn, hdt, hd170⟩, Kr_⟩
    · have ph174 := of_bne_false h174
      refine WC.skip ?_
      refine WX.seqN ?_
      refine WC.seq ?_
      refine WC.region ?_
      refine WL.op (d := 26) (.string ⟨(GDisk.readT di (at_ + sk + (i : Int))).toArray⟩) (k := ?_)
      refine WL.callG (d := 27) (f := 47) (args := #[.string ⟨(GDisk.readT di (at_ + sk + (i : Int))).toArray⟩]) (fTag_c (l := GDisk.readT di (at_ + sk + (i : Int))) (by show List.length (GDisk.readT di (at_ + sk + (i : Int))) ≤ _; first | omega | (simp; done) | (simp; omega)) w171) (k := fun e_ w183 h_ => ⟨.tuple #[.int .u64 ((tgE (GDisk.readT di (at_ + sk + (i : Int))) : Nat) : Int), .int .u64 ((tgN (GDisk.readT di (at_ + sk + (i : Int))) : Nat) : Int), .bool (decide (List.length (GDisk.readT di (at_ + sk + (i : Int))) = 64))], h_.1, ?_⟩)
      have k184 := h_.2; clear h_
      replace hb158 := k184.heap hb158 id
      replace hd170 := hd170.adds k184
      replace hb159 := k184.heap hb159 id
      replace hb160 := k184.heap hb160 id
      replace hb161 := k184.heap hb161 id
      replace hb162 := k184.heap hb162 id
      replace hb163 := k184.heap hb163 id
      replace hb164 := k184.heap hb164 id
      replace hb165 := k184.heap hb165 id
      replace hb166 := k184.heap hb166 id
      replace hb167 := k184.heap hb167 id
      replace hl172 := k184.heap hl172 id
      replace Kr_ := Kr_.trans (k184.any _)
      replace K := K.trans (k184.any _)
      have te181 := tgE_lt (GDisk.readT di (at_ + sk + (i : Int)))
      have te182 := tgN_lt (GDisk.readT di (at_ + sk + (i : Int)))
      refine WL.op (d := 25) (.tuple #[.int .u64 ((tgE (GDisk.readT di (at_ + sk + (i : Int))) : Nat) : Int), .int .u64 ((tgN (GDisk.readT di (at_ + sk + (i : Int))) : Nat) : Int), .bool (decide (List.length (GDisk.readT di (at_ + sk + (i : Int))) = 64))]) (k := ?_)
      refine WL.op (d := 28) (.int .u64 ((tgE (GDisk.readT di (at_ + sk + (i : Int))) : Nat) : Int)) (k := ?_)
      refine WL.op (d := 29) (.int .u64 ((tgN (GDisk.readT di (at_ + sk + (i : Int))) : Nat) : Int)) (k := ?_)
      refine WL.op (d := 30) (.bool (decide (List.length (GDisk.readT di (at_ + sk + (i : Int))) = 64))) (k := ?_)
      refine WL.op (d := 12) (.int .u64 ((tgE (GDisk.readT di (at_ + sk + (i : Int))) : Nat) : Int)) (k := ?_)
      refine WL.op (d := 13) (.int .u64 ((tgN (GDisk.readT di (at_ + sk + (i : Int))) : Nat) : Int)) (k := ?_)
      refine WL.op (d := 14) (.bool (decide (List.length (GDisk.readT di (at_ + sk + (i : Int))) = 64))) (k := ?_)
      refine WL.nil ?_
      refine WX.seqN ?_
      refine WC.seq ?_
      refine WC.tail 9 (k := ?_)
      refine WQ.load (v := .pointer (some ⟨b, 0, none⟩)) (fun w_ k_ => ld1 (T := 60) (i := 0) (k_.heap hb159 id)) (k := ?_)
      refine WQ.load (v := .pointer (some ⟨b, 0, none⟩)) (fun w_ k_ => ld1 (T := 60) (i := 0) (k_.heap hb159 id)) (k := ?_)
      refine WQ.op (d := 33) (.pointer (some ⟨b, 0, none⟩)) (k := ?_)
      refine WQ.op (d := 34) (.pointer (some ⟨b, 4, none⟩)) (k := ?_)
      refine WQ.load (v := .int .u64 ((nv : Nat) : Int)) (fun w_ k_ => ld1 (T := 41) (i := 4) (k_.heap hb158 id)) (k := ?_)
      refine WQ.op (d := 36) (.int .u64 ((tgE (GDisk.readT di (at_ + sk + (i : Int))) : Nat) : Int)) (k := ?_)
      refine WQ.opE (d := 37) (.int .u64 (if ((tgE (GDisk.readT di (at_ + sk + (i : Int))) : Nat) : Int) > ((nv : Nat) : Int) then ((tgE (GDisk.readT di (at_ + sk + (i : Int))) : Nat) : Int) else ((nv : Nat) : Int))) (v := .int .u64 ((max nv (tgE (GDisk.readT di (at_ + sk + (i : Int)))) : Nat) : Int)) (congrArg (Value.int .u64) (max_ite nv (tgE (GDisk.readT di (at_ + sk + (i : Int)))))) (k := ?_)
      refine WQ.op (d := 38) (.pointer (some ⟨b, 0, none⟩)) (k := ?_)
      refine WQ.op (d := 39) (.pointer (some ⟨b, 4, none⟩)) (k := ?_)
      refine WQ.nilL (fun w185 k186 => ?_)
      replace hb158 := k186.heap hb158 id
      replace hd170 := hd170.adds k186
      replace hb159 := k186.heap hb159 id
      replace hb160 := k186.heap hb160 id
      replace hb161 := k186.heap hb161 id
      replace hb162 := k186.heap hb162 id
      replace hb163 := k186.heap hb163 id
      replace hb164 := k186.heap hb164 id
      replace hb165 := k186.heap hb165 id
      replace hb166 := k186.heap hb166 id
      replace hb167 := k186.heap hb167 id
      replace hl172 := k186.heap hl172 id
      replace Kr_ := Kr_.trans (k186.any _)
      replace K := K.trans (k186.any _)
      refine WL.store (v := .int .u64 ((max nv (tgE (GDisk.readT di (at_ + sk + (i : Int)))) : Nat) : Int)) (i := 4) (cs' := #[.pointer (some ⟨dk, 0, none⟩), .int .i64 at_, .int .i64 k, rv, .int .u64 ((max nv (tgE (GDisk.readT di (at_ + sk + (i : Int)))) : Nat) : Int), lv]) hb158 (k := fun w187 hb188 k189 => ?_)
      replace hd170 := hd170.keeps k189 (fun i hi e => hnb (e ▸ hi))
      replace hb159 := k189.heap hb159 (Ne.symm n7)
      replace hb160 := k189.heap hb160 (Ne.symm n15)
      replace hb161 := k189.heap hb161 (Ne.symm n24)
      replace hb162 := k189.heap hb162 (Ne.symm n34)
      replace hb163 := k189.heap hb163 (Ne.symm n45)
      replace hb164 := k189.heap hb164 (Ne.symm n63)
      replace hb165 := k189.heap hb165 (Ne.symm n83)
      replace hb166 := k189.heap hb166 (Ne.symm n92)
      replace hb167 := k189.heap hb167 (Ne.symm n115)
      replace hl172 := k189.heap hl172 (Ne.symm n126)
      replace Kr_ := Kr_.trans' k189 (fun _ _ _ => trivial)
      replace K := K.trans' k189 (fun i hi e => .inl e)
      clear hb158
      refine WL.nil ?_
      refine WX.seqN ?_
      refine WC.seq ?_
      refine WC.seq ?_
      refine WC.region ?_
      refine WL.load (v := .int .u64 ((i : Nat) : Int)) (ld1 (T := 41) (i := 0) hb163) (k := ?_)
      refine WL.op (d := 41) (.bool (((i : Nat) : Int) == 0)) (k := ?_)
      refine WL.nil ?_
      refine WX.seqN ?_
      refine WC.cond (b := ((i : Nat) : Int) == 0) (ht := fun h190 => ?_) (hf := fun h190 => ?_)
      · have ph190 := eq_of_beq h190
        refine WC.region ?_
        refine WL.op (d := 42) (.int .u64 ((tgE (GDisk.readT di (at_ + sk + (i : Int))) : Nat) : Int)) (k := ?_)
        refine WL.op (d := 43) (.pointer (some ⟨b18, 0, none⟩)) (k := ?_)
        refine WL.store (v := .int .u64 ((tgE (GDisk.readT di (at_ + sk + (i : Int))) : Nat) : Int)) (i := 0) (cs' := #[.int .u64 ((tgE (GDisk.readT di (at_ + sk + (i : Int))) : Nat) : Int), .string ⟨(dt).toArray⟩]) hb161 (k := fun w191 hb192 k193 => ?_)
        replace hb188 := k193.heap hb188 n24
        replace hd170 := hd170.keeps k193 (fun i hi e => n25 (e ▸ hi))
        replace hb159 := k193.heap hb159 n26
        replace hb160 := k193.heap hb160 n27
        replace hb162 := k193.heap hb162 (Ne.symm n38)
        replace hb163 := k193.heap hb163 (Ne.symm n49)
        replace hb164 := k193.heap hb164 (Ne.symm n67)
        replace hb165 := k193.heap hb165 (Ne.symm n87)
        replace hb166 := k193.heap hb166 (Ne.symm n96)
        replace hb167 := k193.heap hb167 (Ne.symm n119)
        replace hl172 := k193.heap hl172 (Ne.symm n130)
        replace Kr_ := Kr_.trans' k193 (fun _ _ _ => trivial)
        replace K := K.trans' k193 (fun i hi e => absurd (e ▸ hi) (Nat.not_lt.2 z23))
        clear hb161
        refine WL.nil ?_
        refine WX.seqN ?_
        refine WC.seq ?_
        refine WC.region ?_
        refine WL.op (d := 45) (.string ⟨(GDisk.readT di (at_ + sk + (i : Int))).toArray⟩) (k := ?_)
        refine WL.callG (d := 46) (f := 48) (args := #[.string ⟨(GDisk.readT di (at_ + sk + (i : Int))).toArray⟩]) (fRead_c (l := GDisk.readT di (at_ + sk + (i : Int))) (by show List.length (GDisk.readT di (at_ + sk + (i : Int))) ≤ _; first | omega | (simp; done) | (simp; omega)) w191) (k := fun e_ w197 h_ => ⟨.tuple #[.agg #[.string ⟨(rdP (GDisk.readT di (at_ + sk + (i : Int)))).toArray⟩, .int .u64 ((rdE (GDisk.readT di (at_ + sk + (i : Int))) : Nat) : Int), .int .u64 ((rdN (GDisk.readT di (at_ + sk + (i : Int))) : Nat) : Int)], .bool (decide (isCell (GDisk.readT di (at_ + sk + (i : Int)))))], h_.1, ?_⟩)
        have k198 := h_.2; clear h_
        replace hb188 := k198.heap hb188 id
        replace hd170 := hd170.adds k198
        replace hb159 := k198.heap hb159 id
        replace hb160 := k198.heap hb160 id
        replace hb192 := k198.heap hb192 id
        replace hb162 := k198.heap hb162 id
        replace hb163 := k198.heap hb163 id
        replace hb164 := k198.heap hb164 id
        replace hb165 := k198.heap hb165 id
        replace hb166 := k198.heap hb166 id
        replace hb167 := k198.heap hb167 id
        replace hl172 := k198.heap hl172 id
        replace Kr_ := Kr_.trans (k198.any _)
        replace K := K.trans (k198.any _)
        have te194 := rdE_lt (GDisk.readT di (at_ + sk + (i : Int)))
        have te195 := rdN_lt (GDisk.readT di (at_ + sk + (i : Int)))
        have te196 := rdP_len (GDisk.readT di (at_ + sk + (i : Int)))
        refine WL.op (d := 44) (.tuple #[.agg #[.string ⟨(rdP (GDisk.readT di (at_ + sk + (i : Int)))).toArray⟩, .int .u64 ((rdE (GDisk.readT di (at_ + sk + (i : Int))) : Nat) : Int), .int .u64 ((rdN (GDisk.readT di (at_ + sk + (i : Int))) : Nat) : Int)], .bool (decide (isCell (GDisk.readT di (at_ + sk + (i : Int)))))]) (k := ?_)
        refine WL.op (d := 47) (.agg #[.string ⟨(rdP (GDisk.readT di (at_ + sk + (i : Int)))).toArray⟩, .int .u64 ((rdE (GDisk.readT di (at_ + sk + (i : Int))) : Nat) : Int), .int .u64 ((rdN (GDisk.readT di (at_ + sk + (i : Int))) : Nat) : Int)]) (k := ?_)
        refine WL.op (d := 48) (.bool (decide (isCell (GDisk.readT di (at_ + sk + (i : Int)))))) (k := ?_)
        refine WL.new (d := 15) (T := 104) #[.string ⟨#[]⟩, .int .u64 0, .int .u64 0] (k := fun b199 w200 g201 hb202 k203 => ?_)
        have z204 := Nat.le_trans K.size g201
        have n205 : b ≠ b199 := Nat.ne_of_lt (Nat.lt_of_lt_of_le (lt_of_heap hb188) g201)
        have n206 : ¬ S b199 := fun h => absurd (hd170.lt _ h) (Nat.not_lt.2 g201)
        have n207 : b1 ≠ b199 := Nat.ne_of_lt (Nat.lt_of_lt_of_le (lt_of_heap hb159) g201)
        have n208 : b9 ≠ b199 := Nat.ne_of_lt (Nat.lt_of_lt_of_le (lt_of_heap hb160) g201)
        have n209 : b18 ≠ b199 := Nat.ne_of_lt (Nat.lt_of_lt_of_le (lt_of_heap hb192) g201)
        have n210 : b28 ≠ b199 := Nat.ne_of_lt (Nat.lt_of_lt_of_le (lt_of_heap hb162) g201)
        have n211 : b39 ≠ b199 := Nat.ne_of_lt (Nat.lt_of_lt_of_le (lt_of_heap hb163) g201)
        have n212 : b57 ≠ b199 := Nat.ne_of_lt (Nat.lt_of_lt_of_le (lt_of_heap hb164) g201)
        have n213 : b74 ≠ b199 := Nat.ne_of_lt (Nat.lt_of_lt_of_le (lt_of_heap hb165) g201)
        have n214 : b75 ≠ b199 := Nat.ne_of_lt (Nat.lt_of_lt_of_le (lt_of_heap hb166) g201)
        have n215 : D104 ≠ b199 := Nat.ne_of_lt (Nat.lt_of_lt_of_le (lt_of_heap hb167) g201)
        have n216 : l103 ≠ b199 := Nat.ne_of_lt (Nat.lt_of_lt_of_le (lt_of_heap hl172) g201)
        replace hb188 := k203.heap hb188 id
        replace hd170 := hd170.adds k203
        replace hb159 := k203.heap hb159 id
        replace hb160 := k203.heap hb160 id
        replace hb192 := k203.heap hb192 id
        replace hb162 := k203.heap hb162 id
        replace hb163 := k203.heap hb163 id
        replace hb164 := k203.heap hb164 id
        replace hb165 := k203.heap hb165 id
        replace hb166 := k203.heap hb166 id
        replace hb167 := k203.heap hb167 id
        replace hl172 := k203.heap hl172 id
        replace Kr_ := Kr_.trans (k203.any _)
        replace K := K.trans (k203.any _)
        refine WL.store (v := .agg #[.string ⟨(rdP (GDisk.readT di (at_ + sk + (i : Int)))).toArray⟩, .int .u64 ((rdE (GDisk.readT di (at_ + sk + (i : Int))) : Nat) : Int), .int .u64 ((rdN (GDisk.readT di (at_ + sk + (i : Int))) : Nat) : Int)]) (i := 0) (cs' := #[.string ⟨(rdP (GDisk.readT di (at_ + sk + (i : Int)))).toArray⟩, .int .u64 ((rdE (GDisk.readT di (at_ + sk + (i : Int))) : Nat) : Int), .int .u64 ((rdN (GDisk.readT di (at_ + sk + (i : Int))) : Nat) : Int)]) hb202 (k := fun w217 hb218 k219 => ?_)
        replace hb188 := k219.heap hb188 n205
        replace hd170 := hd170.keeps k219 (fun i hi e => n206 (e ▸ hi))
        replace hb159 := k219.heap hb159 n207
        replace hb160 := k219.heap hb160 n208
        replace hb192 := k219.heap hb192 n209
        replace hb162 := k219.heap hb162 n210
        replace hb163 := k219.heap hb163 n211
        replace hb164 := k219.heap hb164 n212
        replace hb165 := k219.heap hb165 n213
        replace hb166 := k219.heap hb166 n214
        replace hb167 := k219.heap hb167 n215
        replace hl172 := k219.heap hl172 n216
        replace Kr_ := Kr_.trans' k219 (fun _ _ _ => trivial)
        replace K := K.trans' k219 (fun i hi e => absurd (e ▸ hi) (Nat.not_lt.2 z204))
        clear hb202
        refine WL.op (d := 16) (.bool (decide (isCell (GDisk.readT di (at_ + sk + (i : Int)))))) (k := ?_)
        refine WL.nil ?_
        refine WX.seqN ?_
        refine WC.seq ?_
        refine WC.region ?_
        refine WL.load (v := .bool is_) (ld1 (T := 4) (i := 0) hb162) (k := ?_)
        refine WL.op (d := 50) (.bool is_) (k := ?_)
        refine bsplit is_ (fun h220 => ?_) (fun h220 => ?_)
        · refine WL.rw (t := 50) (v := .bool true) (congrArg Value.bool h220) (k := ?_)
          refine WL.op (d := 51) (.string ⟨(GDisk.readT di (at_ + sk + (i : Int))).toArray⟩) (k := ?_)
          refine WL.op (d := 52) (.pointer (some ⟨b18, 0, none⟩)) (k := ?_)
          refine WL.load (v := .int .u64 ((tgE (GDisk.readT di (at_ + sk + (i : Int))) : Nat) : Int)) (ld1 (T := 41) (i := 0) hb192) (k := ?_)
          refine WL.load (v := .int .u64 ((i : Nat) : Int)) (ld1 (T := 41) (i := 0) hb163) (k := ?_)
          refine WL.callG (d := 55) (f := 49) (args := #[.string ⟨(GDisk.readT di (at_ + sk + (i : Int))).toArray⟩, .int .u64 ((tgE (GDisk.readT di (at_ + sk + (i : Int))) : Nat) : Int), .int .u64 ((i : Nat) : Int)]) (fWhole_c (l := GDisk.readT di (at_ + sk + (i : Int))) (e := tgE (GDisk.readT di (at_ + sk + (i : Int)))) (n := i) (by show List.length (GDisk.readT di (at_ + sk + (i : Int))) ≤ _; first | omega | (simp; done) | (simp; omega)) w217) (k := fun e_ w221 h_ => ⟨.bool (decide (isCell (GDisk.readT di (at_ + sk + (i : Int))) ∧ rdE (GDisk.readT di (at_ + sk + (i : Int))) = tgE (GDisk.readT di (at_ + sk + (i : Int))) ∧ rdN (GDisk.readT di (at_ + sk + (i : Int))) = i)), h_.1, ?_⟩)
          have k222 := h_.2; clear h_
          replace hb188 := k222.heap hb188 id
          replace hd170 := hd170.adds k222
          replace hb159 := k222.heap hb159 id
          replace hb160 := k222.heap hb160 id
          replace hb192 := k222.heap hb192 id
          replace hb162 := k222.heap hb162 id
          replace hb163 := k222.heap hb163 id
          replace hb164 := k222.heap hb164 id
          replace hb165 := k222.heap hb165 id
          replace hb166 := k222.heap hb166 id
          replace hb167 := k222.heap hb167 id
          replace hl172 := k222.heap hl172 id
          replace hb218 := k222.heap hb218 id
          replace Kr_ := Kr_.trans (k222.any _)
          replace K := K.trans (k222.any _)
          refine WL.op (d := 56) (.bool (decide (isCell (GDisk.readT di (at_ + sk + (i : Int))) ∧ rdE (GDisk.readT di (at_ + sk + (i : Int))) = tgE (GDisk.readT di (at_ + sk + (i : Int))) ∧ rdN (GDisk.readT di (at_ + sk + (i : Int))) = i))) (k := ?_)
          refine WL.store (v := .bool (decide (isCell (GDisk.readT di (at_ + sk + (i : Int))) ∧ rdE (GDisk.readT di (at_ + sk + (i : Int))) = tgE (GDisk.readT di (at_ + sk + (i : Int))) ∧ rdN (GDisk.readT di (at_ + sk + (i : Int))) = i))) (i := 0) (cs' := #[.bool (decide (isCell (GDisk.readT di (at_ + sk + (i : Int))) ∧ rdE (GDisk.readT di (at_ + sk + (i : Int))) = tgE (GDisk.readT di (at_ + sk + (i : Int))) ∧ rdN (GDisk.readT di (at_ + sk + (i : Int))) = i))]) hb162 (k := fun w223 hb224 k225 => ?_)
          replace hb188 := k225.heap hb188 n34
          replace hd170 := hd170.keeps k225 (fun i hi e => n35 (e ▸ hi))
          replace hb159 := k225.heap hb159 n36
          replace hb160 := k225.heap hb160 n37
          replace hb192 := k225.heap hb192 n38
          replace hb163 := k225.heap hb163 (Ne.symm n50)
          replace hb164 := k225.heap hb164 (Ne.symm n68)
          replace hb165 := k225.heap hb165 (Ne.symm n88)
          replace hb166 := k225.heap hb166 (Ne.symm n97)
          replace hb167 := k225.heap hb167 (Ne.symm n120)
          replace hl172 := k225.heap hl172 (Ne.symm n131)
          replace hb218 := k225.heap hb218 (Ne.symm n210)
          replace Kr_ := Kr_.trans' k225 (fun _ _ _ => trivial)
          replace K := K.trans' k225 (fun i hi e => absurd (e ▸ hi) (Nat.not_lt.2 z33))
          clear hb162
          refine WL.nil ?_
          refine WX.seqN ?_
          refine WC.seq ?_
          refine WC.region ?_
          refine WL.op (d := 57) (.pointer (some ⟨b18, 1, none⟩)) (k := ?_)
          refine WL.load (v := .string ⟨(dt).toArray⟩) (ld1 (T := 9) (i := 1) hb192) (k := ?_)
          refine WL.op (d := 59) (.pointer (some ⟨b199, 0, none⟩)) (k := ?_)
          refine WL.load (v := .string ⟨(rdP (GDisk.readT di (at_ + sk + (i : Int)))).toArray⟩) (ld1 (T := 9) (i := 0) hb218) (k := ?_)
          refine WL.bin (d := 61) (v := .string ⟨(dt ++ (rdP (GDisk.readT di (at_ + sk + (i : Int))))).toArray⟩) (cat_run (by omega)) (k := ?_)
          refine WL.op (d := 62) (.pointer (some ⟨b18, 1, none⟩)) (k := ?_)
          refine WL.store (v := .string ⟨(dt ++ (rdP (GDisk.readT di (at_ + sk + (i : Int))))).toArray⟩) (i := 1) (cs' := #[.int .u64 ((tgE (GDisk.readT di (at_ + sk + (i : Int))) : Nat) : Int), .string ⟨(dt ++ (rdP (GDisk.readT di (at_ + sk + (i : Int))))).toArray⟩]) hb192 (k := fun w226 hb227 k228 => ?_)
          replace hb188 := k228.heap hb188 n24
          replace hd170 := hd170.keeps k228 (fun i hi e => n25 (e ▸ hi))
          replace hb159 := k228.heap hb159 n26
          replace hb160 := k228.heap hb160 n27
          replace hb224 := k228.heap hb224 (Ne.symm n38)
          replace hb163 := k228.heap hb163 (Ne.symm n49)
          replace hb164 := k228.heap hb164 (Ne.symm n67)
          replace hb165 := k228.heap hb165 (Ne.symm n87)
          replace hb166 := k228.heap hb166 (Ne.symm n96)
          replace hb167 := k228.heap hb167 (Ne.symm n119)
          replace hl172 := k228.heap hl172 (Ne.symm n130)
          replace hb218 := k228.heap hb218 (Ne.symm n209)
          replace Kr_ := Kr_.trans' k228 (fun _ _ _ => trivial)
          replace K := K.trans' k228 (fun i hi e => absurd (e ▸ hi) (Nat.not_lt.2 z23))
          clear hb192
          refine WL.nil ?_
          refine WX.seqN ?_
          refine WC.region ?_
          refine WL.load (v := .int .u64 ((i : Nat) : Int)) (ld1 (T := 41) (i := 0) hb163) (k := ?_)
          refine WL.opE (d := 64) (.int .u64 (IntKind.u64.wrap (((i : Nat) : Int) + 1))) (v := .int .u64 ((i + 1 : Nat) : Int)) (congrArg (Value.int .u64) (add64 (a := i) (b := 1) (by omega))) (k := ?_)
          refine WL.store (v := .int .u64 ((i + 1 : Nat) : Int)) (i := 0) (cs' := #[.int .u64 ((i + 1 : Nat) : Int)]) hb163 (k := fun w229 hb230 k231 => ?_)
          replace hb188 := k231.heap hb188 n45
          replace hd170 := hd170.keeps k231 (fun i hi e => n46 (e ▸ hi))
          replace hb159 := k231.heap hb159 n47
          replace hb160 := k231.heap hb160 n48
          replace hb227 := k231.heap hb227 n49
          replace hb224 := k231.heap hb224 n50
          replace hb164 := k231.heap hb164 (Ne.symm n69)
          replace hb165 := k231.heap hb165 (Ne.symm n89)
          replace hb166 := k231.heap hb166 (Ne.symm n98)
          replace hb167 := k231.heap hb167 (Ne.symm n121)
          replace hl172 := k231.heap hl172 (Ne.symm n132)
          replace hb218 := k231.heap hb218 (Ne.symm n211)
          replace Kr_ := Kr_.trans' k231 (fun _ _ _ => trivial)
          replace K := K.trans' k231 (fun i hi e => absurd (e ▸ hi) (Nat.not_lt.2 z44))
          clear hb163
          refine WL.nil ?_
          refine WX.blockN ?_
          refine WX.roundN hr106 hl172 (fun w232 hl233 k234 => ?_)
          replace hb188 := k234.heap hb188 n126
          replace hd170 := hd170.keeps k234 (fun i hi e => n127 (e ▸ hi))
          replace hb159 := k234.heap hb159 n128
          replace hb160 := k234.heap hb160 n129
          replace hb227 := k234.heap hb227 n130
          replace hb224 := k234.heap hb224 n131
          replace hb230 := k234.heap hb230 n132
          replace hb164 := k234.heap hb164 n133
          replace hb165 := k234.heap hb165 n134
          replace hb166 := k234.heap hb166 n135
          replace hb167 := k234.heap hb167 ne109
          replace hb218 := k234.heap hb218 (Ne.symm n216)
          replace Kr_ := Kr_.trans' k234 (fun _ _ _ => trivial)
          replace K := K.trans' k234 (fun i hi e => absurd (e ▸ hi) (Nat.not_lt.2 z125))
          clear hl172
          have e1_ : tgE (GDisk.readT di (at_ + sk + (i : Int))) = (ep1 i (GDisk.readT di (at_ + sk + (i : Int))) ep) := (if_pos (by omega)).symm
          have g_ := slot_go hg hlt_ ph174
          rw [e1_] at hb227
          have e2_ : decide (isCell (GDisk.readT di (at_ + sk + (i : Int))) ∧ rdE (GDisk.readT di (at_ + sk + (i : Int))) = tgE (GDisk.readT di (at_ + sk + (i : Int))) ∧ rdN (GDisk.readT di (at_ + sk + (i : Int))) = i) = decide (recS (GDisk.readT di (at_ + sk + (i : Int))) (ep1 i (GDisk.readT di (at_ + sk + (i : Int))) ep) i) := decide_eq_decide.2 (by rw [e1_]; exact Iff.rfl)
          rw [e2_] at hb224
          rw [h220, Bool.true_and] at g_
          have el_ : (ep1 i (GDisk.readT di (at_ + sk + (i : Int))) ep) < 18446744073709551616 := by rw [← e1_]; omega
          have rl_ := rdP_len (GDisk.readT di (at_ + sk + (i : Int)))
          have dl_ : (dt ++ rdP (GDisk.readT di (at_ + sk + (i : Int)))).length ≤ 43 * (i + 1) := by rw [List.length_append]; omega
          exact .inl ⟨rfl, ⟨(decide (recS (GDisk.readT di (at_ + sk + (i : Int))) (ep1 i (GDisk.readT di (at_ + sk + (i : Int))) ep) i), (ep1 i (GDisk.readT di (at_ + sk + (i : Int))) ep), dt ++ rdP (GDisk.readT di (at_ + sk + (i : Int))), max nv (tgE (GDisk.readT di (at_ + sk + (i : Int))))), K, hb188, hb159, hb160, hb227, hb224, hb230, hb164, hb165, hb166, hb167, hl233, g_, el_, (by omega), dl_⟩, hd170, Kr_⟩
        · refine WL.rw (t := 50) (v := .bool false) (congrArg Value.bool h220) (k := ?_)
          refine WL.skip (d := 51) (k := ?_)
          refine WL.skip (d := 52) (k := ?_)
          refine WL.skip (d := 53) (k := ?_)
          refine WL.skip (d := 54) (k := ?_)
          refine WL.skip (d := 55) (k := ?_)
          refine WL.op (d := 56) (.bool false) (k := ?_)
          refine WL.store (v := .bool false) (i := 0) (cs' := #[.bool false]) hb162 (k := fun w235 hb236 k237 => ?_)
          replace hb188 := k237.heap hb188 n34
          replace hd170 := hd170.keeps k237 (fun i hi e => n35 (e ▸ hi))
          replace hb159 := k237.heap hb159 n36
          replace hb160 := k237.heap hb160 n37
          replace hb192 := k237.heap hb192 n38
          replace hb163 := k237.heap hb163 (Ne.symm n50)
          replace hb164 := k237.heap hb164 (Ne.symm n68)
          replace hb165 := k237.heap hb165 (Ne.symm n88)
          replace hb166 := k237.heap hb166 (Ne.symm n97)
          replace hb167 := k237.heap hb167 (Ne.symm n120)
          replace hl172 := k237.heap hl172 (Ne.symm n131)
          replace hb218 := k237.heap hb218 (Ne.symm n210)
          replace Kr_ := Kr_.trans' k237 (fun _ _ _ => trivial)
          replace K := K.trans' k237 (fun i hi e => absurd (e ▸ hi) (Nat.not_lt.2 z33))
          clear hb162
          refine WL.nil ?_
          refine WX.seqN ?_
          refine WC.seq ?_
          refine WC.region ?_
          refine WL.op (d := 57) (.pointer (some ⟨b18, 1, none⟩)) (k := ?_)
          refine WL.load (v := .string ⟨(dt).toArray⟩) (ld1 (T := 9) (i := 1) hb192) (k := ?_)
          refine WL.op (d := 59) (.pointer (some ⟨b199, 0, none⟩)) (k := ?_)
          refine WL.load (v := .string ⟨(rdP (GDisk.readT di (at_ + sk + (i : Int)))).toArray⟩) (ld1 (T := 9) (i := 0) hb218) (k := ?_)
          refine WL.bin (d := 61) (v := .string ⟨(dt ++ (rdP (GDisk.readT di (at_ + sk + (i : Int))))).toArray⟩) (cat_run (by omega)) (k := ?_)
          refine WL.op (d := 62) (.pointer (some ⟨b18, 1, none⟩)) (k := ?_)
          refine WL.store (v := .string ⟨(dt ++ (rdP (GDisk.readT di (at_ + sk + (i : Int))))).toArray⟩) (i := 1) (cs' := #[.int .u64 ((tgE (GDisk.readT di (at_ + sk + (i : Int))) : Nat) : Int), .string ⟨(dt ++ (rdP (GDisk.readT di (at_ + sk + (i : Int))))).toArray⟩]) hb192 (k := fun w238 hb239 k240 => ?_)
          replace hb188 := k240.heap hb188 n24
          replace hd170 := hd170.keeps k240 (fun i hi e => n25 (e ▸ hi))
          replace hb159 := k240.heap hb159 n26
          replace hb160 := k240.heap hb160 n27
          replace hb236 := k240.heap hb236 (Ne.symm n38)
          replace hb163 := k240.heap hb163 (Ne.symm n49)
          replace hb164 := k240.heap hb164 (Ne.symm n67)
          replace hb165 := k240.heap hb165 (Ne.symm n87)
          replace hb166 := k240.heap hb166 (Ne.symm n96)
          replace hb167 := k240.heap hb167 (Ne.symm n119)
          replace hl172 := k240.heap hl172 (Ne.symm n130)
          replace hb218 := k240.heap hb218 (Ne.symm n209)
          replace Kr_ := Kr_.trans' k240 (fun _ _ _ => trivial)
          replace K := K.trans' k240 (fun i hi e => absurd (e ▸ hi) (Nat.not_lt.2 z23))
          clear hb192
          refine WL.nil ?_
          refine WX.seqN ?_
          refine WC.region ?_
          refine WL.load (v := .int .u64 ((i : Nat) : Int)) (ld1 (T := 41) (i := 0) hb163) (k := ?_)
          refine WL.opE (d := 64) (.int .u64 (IntKind.u64.wrap (((i : Nat) : Int) + 1))) (v := .int .u64 ((i + 1 : Nat) : Int)) (congrArg (Value.int .u64) (add64 (a := i) (b := 1) (by omega))) (k := ?_)
          refine WL.store (v := .int .u64 ((i + 1 : Nat) : Int)) (i := 0) (cs' := #[.int .u64 ((i + 1 : Nat) : Int)]) hb163 (k := fun w241 hb242 k243 => ?_)
          replace hb188 := k243.heap hb188 n45
          replace hd170 := hd170.keeps k243 (fun i hi e => n46 (e ▸ hi))
          replace hb159 := k243.heap hb159 n47
          replace hb160 := k243.heap hb160 n48
          replace hb239 := k243.heap hb239 n49
          replace hb236 := k243.heap hb236 n50
          replace hb164 := k243.heap hb164 (Ne.symm n69)
          replace hb165 := k243.heap hb165 (Ne.symm n89)
          replace hb166 := k243.heap hb166 (Ne.symm n98)
          replace hb167 := k243.heap hb167 (Ne.symm n121)
          replace hl172 := k243.heap hl172 (Ne.symm n132)
          replace hb218 := k243.heap hb218 (Ne.symm n211)
          replace Kr_ := Kr_.trans' k243 (fun _ _ _ => trivial)
          replace K := K.trans' k243 (fun i hi e => absurd (e ▸ hi) (Nat.not_lt.2 z44))
          clear hb163
          refine WL.nil ?_
          refine WX.blockN ?_
          refine WX.roundN hr106 hl172 (fun w244 hl245 k246 => ?_)
          replace hb188 := k246.heap hb188 n126
          replace hd170 := hd170.keeps k246 (fun i hi e => n127 (e ▸ hi))
          replace hb159 := k246.heap hb159 n128
          replace hb160 := k246.heap hb160 n129
          replace hb239 := k246.heap hb239 n130
          replace hb236 := k246.heap hb236 n131
          replace hb242 := k246.heap hb242 n132
          replace hb164 := k246.heap hb164 n133
          replace hb165 := k246.heap hb165 n134
          replace hb166 := k246.heap hb166 n135
          replace hb167 := k246.heap hb167 ne109
          replace hb218 := k246.heap hb218 (Ne.symm n216)
          replace Kr_ := Kr_.trans' k246 (fun _ _ _ => trivial)
          replace K := K.trans' k246 (fun i hi e => absurd (e ▸ hi) (Nat.not_lt.2 z125))
          clear hl172
          have e1_ : tgE (GDisk.readT di (at_ + sk + (i : Int))) = (ep1 i (GDisk.readT di (at_ + sk + (i : Int))) ep) := (if_pos (by omega)).symm
          have g_ := slot_go hg hlt_ ph174
          rw [e1_] at hb239
          rw [h220, Bool.false_and] at g_
          have el_ : (ep1 i (GDisk.readT di (at_ + sk + (i : Int))) ep) < 18446744073709551616 := by rw [← e1_]; omega
          have rl_ := rdP_len (GDisk.readT di (at_ + sk + (i : Int)))
          have dl_ : (dt ++ rdP (GDisk.readT di (at_ + sk + (i : Int)))).length ≤ 43 * (i + 1) := by rw [List.length_append]; omega
          exact .inl ⟨rfl, ⟨(false, (ep1 i (GDisk.readT di (at_ + sk + (i : Int))) ep), dt ++ rdP (GDisk.readT di (at_ + sk + (i : Int))), max nv (tgE (GDisk.readT di (at_ + sk + (i : Int))))), K, hb188, hb159, hb160, hb239, hb236, hb242, hb164, hb165, hb166, hb167, hl245, g_, el_, (by omega), dl_⟩, hd170, Kr_⟩
      · have ph190 := ne_of_beq_false h190
        refine WC.skip ?_
        refine WX.seqN ?_
        refine WC.seq ?_
        refine WC.region ?_
        refine WL.op (d := 45) (.string ⟨(GDisk.readT di (at_ + sk + (i : Int))).toArray⟩) (k := ?_)
        refine WL.callG (d := 46) (f := 48) (args := #[.string ⟨(GDisk.readT di (at_ + sk + (i : Int))).toArray⟩]) (fRead_c (l := GDisk.readT di (at_ + sk + (i : Int))) (by show List.length (GDisk.readT di (at_ + sk + (i : Int))) ≤ _; first | omega | (simp; done) | (simp; omega)) w187) (k := fun e_ w250 h_ => ⟨.tuple #[.agg #[.string ⟨(rdP (GDisk.readT di (at_ + sk + (i : Int)))).toArray⟩, .int .u64 ((rdE (GDisk.readT di (at_ + sk + (i : Int))) : Nat) : Int), .int .u64 ((rdN (GDisk.readT di (at_ + sk + (i : Int))) : Nat) : Int)], .bool (decide (isCell (GDisk.readT di (at_ + sk + (i : Int)))))], h_.1, ?_⟩)
        have k251 := h_.2; clear h_
        replace hb188 := k251.heap hb188 id
        replace hd170 := hd170.adds k251
        replace hb159 := k251.heap hb159 id
        replace hb160 := k251.heap hb160 id
        replace hb161 := k251.heap hb161 id
        replace hb162 := k251.heap hb162 id
        replace hb163 := k251.heap hb163 id
        replace hb164 := k251.heap hb164 id
        replace hb165 := k251.heap hb165 id
        replace hb166 := k251.heap hb166 id
        replace hb167 := k251.heap hb167 id
        replace hl172 := k251.heap hl172 id
        replace Kr_ := Kr_.trans (k251.any _)
        replace K := K.trans (k251.any _)
        have te247 := rdE_lt (GDisk.readT di (at_ + sk + (i : Int)))
        have te248 := rdN_lt (GDisk.readT di (at_ + sk + (i : Int)))
        have te249 := rdP_len (GDisk.readT di (at_ + sk + (i : Int)))
        refine WL.op (d := 44) (.tuple #[.agg #[.string ⟨(rdP (GDisk.readT di (at_ + sk + (i : Int)))).toArray⟩, .int .u64 ((rdE (GDisk.readT di (at_ + sk + (i : Int))) : Nat) : Int), .int .u64 ((rdN (GDisk.readT di (at_ + sk + (i : Int))) : Nat) : Int)], .bool (decide (isCell (GDisk.readT di (at_ + sk + (i : Int)))))]) (k := ?_)
        refine WL.op (d := 47) (.agg #[.string ⟨(rdP (GDisk.readT di (at_ + sk + (i : Int)))).toArray⟩, .int .u64 ((rdE (GDisk.readT di (at_ + sk + (i : Int))) : Nat) : Int), .int .u64 ((rdN (GDisk.readT di (at_ + sk + (i : Int))) : Nat) : Int)]) (k := ?_)
        refine WL.op (d := 48) (.bool (decide (isCell (GDisk.readT di (at_ + sk + (i : Int)))))) (k := ?_)
        refine WL.new (d := 15) (T := 104) #[.string ⟨#[]⟩, .int .u64 0, .int .u64 0] (k := fun b252 w253 g254 hb255 k256 => ?_)
        have z257 := Nat.le_trans K.size g254
        have n258 : b ≠ b252 := Nat.ne_of_lt (Nat.lt_of_lt_of_le (lt_of_heap hb188) g254)
        have n259 : ¬ S b252 := fun h => absurd (hd170.lt _ h) (Nat.not_lt.2 g254)
        have n260 : b1 ≠ b252 := Nat.ne_of_lt (Nat.lt_of_lt_of_le (lt_of_heap hb159) g254)
        have n261 : b9 ≠ b252 := Nat.ne_of_lt (Nat.lt_of_lt_of_le (lt_of_heap hb160) g254)
        have n262 : b18 ≠ b252 := Nat.ne_of_lt (Nat.lt_of_lt_of_le (lt_of_heap hb161) g254)
        have n263 : b28 ≠ b252 := Nat.ne_of_lt (Nat.lt_of_lt_of_le (lt_of_heap hb162) g254)
        have n264 : b39 ≠ b252 := Nat.ne_of_lt (Nat.lt_of_lt_of_le (lt_of_heap hb163) g254)
        have n265 : b57 ≠ b252 := Nat.ne_of_lt (Nat.lt_of_lt_of_le (lt_of_heap hb164) g254)
        have n266 : b74 ≠ b252 := Nat.ne_of_lt (Nat.lt_of_lt_of_le (lt_of_heap hb165) g254)
        have n267 : b75 ≠ b252 := Nat.ne_of_lt (Nat.lt_of_lt_of_le (lt_of_heap hb166) g254)
        have n268 : D104 ≠ b252 := Nat.ne_of_lt (Nat.lt_of_lt_of_le (lt_of_heap hb167) g254)
        have n269 : l103 ≠ b252 := Nat.ne_of_lt (Nat.lt_of_lt_of_le (lt_of_heap hl172) g254)
        replace hb188 := k256.heap hb188 id
        replace hd170 := hd170.adds k256
        replace hb159 := k256.heap hb159 id
        replace hb160 := k256.heap hb160 id
        replace hb161 := k256.heap hb161 id
        replace hb162 := k256.heap hb162 id
        replace hb163 := k256.heap hb163 id
        replace hb164 := k256.heap hb164 id
        replace hb165 := k256.heap hb165 id
        replace hb166 := k256.heap hb166 id
        replace hb167 := k256.heap hb167 id
        replace hl172 := k256.heap hl172 id
        replace Kr_ := Kr_.trans (k256.any _)
        replace K := K.trans (k256.any _)
        refine WL.store (v := .agg #[.string ⟨(rdP (GDisk.readT di (at_ + sk + (i : Int)))).toArray⟩, .int .u64 ((rdE (GDisk.readT di (at_ + sk + (i : Int))) : Nat) : Int), .int .u64 ((rdN (GDisk.readT di (at_ + sk + (i : Int))) : Nat) : Int)]) (i := 0) (cs' := #[.string ⟨(rdP (GDisk.readT di (at_ + sk + (i : Int)))).toArray⟩, .int .u64 ((rdE (GDisk.readT di (at_ + sk + (i : Int))) : Nat) : Int), .int .u64 ((rdN (GDisk.readT di (at_ + sk + (i : Int))) : Nat) : Int)]) hb255 (k := fun w270 hb271 k272 => ?_)
        replace hb188 := k272.heap hb188 n258
        replace hd170 := hd170.keeps k272 (fun i hi e => n259 (e ▸ hi))
        replace hb159 := k272.heap hb159 n260
        replace hb160 := k272.heap hb160 n261
        replace hb161 := k272.heap hb161 n262
        replace hb162 := k272.heap hb162 n263
        replace hb163 := k272.heap hb163 n264
        replace hb164 := k272.heap hb164 n265
        replace hb165 := k272.heap hb165 n266
        replace hb166 := k272.heap hb166 n267
        replace hb167 := k272.heap hb167 n268
        replace hl172 := k272.heap hl172 n269
        replace Kr_ := Kr_.trans' k272 (fun _ _ _ => trivial)
        replace K := K.trans' k272 (fun i hi e => absurd (e ▸ hi) (Nat.not_lt.2 z257))
        clear hb255
        refine WL.op (d := 16) (.bool (decide (isCell (GDisk.readT di (at_ + sk + (i : Int)))))) (k := ?_)
        refine WL.nil ?_
        refine WX.seqN ?_
        refine WC.seq ?_
        refine WC.region ?_
        refine WL.load (v := .bool is_) (ld1 (T := 4) (i := 0) hb162) (k := ?_)
        refine WL.op (d := 50) (.bool is_) (k := ?_)
        refine bsplit is_ (fun h273 => ?_) (fun h273 => ?_)
        · refine WL.rw (t := 50) (v := .bool true) (congrArg Value.bool h273) (k := ?_)
          refine WL.op (d := 51) (.string ⟨(GDisk.readT di (at_ + sk + (i : Int))).toArray⟩) (k := ?_)
          refine WL.op (d := 52) (.pointer (some ⟨b18, 0, none⟩)) (k := ?_)
          refine WL.load (v := .int .u64 ((ep : Nat) : Int)) (ld1 (T := 41) (i := 0) hb161) (k := ?_)
          refine WL.load (v := .int .u64 ((i : Nat) : Int)) (ld1 (T := 41) (i := 0) hb163) (k := ?_)
          refine WL.callG (d := 55) (f := 49) (args := #[.string ⟨(GDisk.readT di (at_ + sk + (i : Int))).toArray⟩, .int .u64 ((ep : Nat) : Int), .int .u64 ((i : Nat) : Int)]) (fWhole_c (l := GDisk.readT di (at_ + sk + (i : Int))) (e := ep) (n := i) (by show List.length (GDisk.readT di (at_ + sk + (i : Int))) ≤ _; first | omega | (simp; done) | (simp; omega)) w270) (k := fun e_ w274 h_ => ⟨.bool (decide (isCell (GDisk.readT di (at_ + sk + (i : Int))) ∧ rdE (GDisk.readT di (at_ + sk + (i : Int))) = ep ∧ rdN (GDisk.readT di (at_ + sk + (i : Int))) = i)), h_.1, ?_⟩)
          have k275 := h_.2; clear h_
          replace hb188 := k275.heap hb188 id
          replace hd170 := hd170.adds k275
          replace hb159 := k275.heap hb159 id
          replace hb160 := k275.heap hb160 id
          replace hb161 := k275.heap hb161 id
          replace hb162 := k275.heap hb162 id
          replace hb163 := k275.heap hb163 id
          replace hb164 := k275.heap hb164 id
          replace hb165 := k275.heap hb165 id
          replace hb166 := k275.heap hb166 id
          replace hb167 := k275.heap hb167 id
          replace hl172 := k275.heap hl172 id
          replace hb271 := k275.heap hb271 id
          replace Kr_ := Kr_.trans (k275.any _)
          replace K := K.trans (k275.any _)
          refine WL.op (d := 56) (.bool (decide (isCell (GDisk.readT di (at_ + sk + (i : Int))) ∧ rdE (GDisk.readT di (at_ + sk + (i : Int))) = ep ∧ rdN (GDisk.readT di (at_ + sk + (i : Int))) = i))) (k := ?_)
          refine WL.store (v := .bool (decide (isCell (GDisk.readT di (at_ + sk + (i : Int))) ∧ rdE (GDisk.readT di (at_ + sk + (i : Int))) = ep ∧ rdN (GDisk.readT di (at_ + sk + (i : Int))) = i))) (i := 0) (cs' := #[.bool (decide (isCell (GDisk.readT di (at_ + sk + (i : Int))) ∧ rdE (GDisk.readT di (at_ + sk + (i : Int))) = ep ∧ rdN (GDisk.readT di (at_ + sk + (i : Int))) = i))]) hb162 (k := fun w276 hb277 k278 => ?_)
          replace hb188 := k278.heap hb188 n34
          replace hd170 := hd170.keeps k278 (fun i hi e => n35 (e ▸ hi))
          replace hb159 := k278.heap hb159 n36
          replace hb160 := k278.heap hb160 n37
          replace hb161 := k278.heap hb161 n38
          replace hb163 := k278.heap hb163 (Ne.symm n50)
          replace hb164 := k278.heap hb164 (Ne.symm n68)
          replace hb165 := k278.heap hb165 (Ne.symm n88)
          replace hb166 := k278.heap hb166 (Ne.symm n97)
          replace hb167 := k278.heap hb167 (Ne.symm n120)
          replace hl172 := k278.heap hl172 (Ne.symm n131)
          replace hb271 := k278.heap hb271 (Ne.symm n263)
          replace Kr_ := Kr_.trans' k278 (fun _ _ _ => trivial)
          replace K := K.trans' k278 (fun i hi e => absurd (e ▸ hi) (Nat.not_lt.2 z33))
          clear hb162
          refine WL.nil ?_
          refine WX.seqN ?_
          refine WC.seq ?_
          refine WC.region ?_
          refine WL.op (d := 57) (.pointer (some ⟨b18, 1, none⟩)) (k := ?_)
          refine WL.load (v := .string ⟨(dt).toArray⟩) (ld1 (T := 9) (i := 1) hb161) (k := ?_)
          refine WL.op (d := 59) (.pointer (some ⟨b252, 0, none⟩)) (k := ?_)
          refine WL.load (v := .string ⟨(rdP (GDisk.readT di (at_ + sk + (i : Int)))).toArray⟩) (ld1 (T := 9) (i := 0) hb271) (k := ?_)
          refine WL.bin (d := 61) (v := .string ⟨(dt ++ (rdP (GDisk.readT di (at_ + sk + (i : Int))))).toArray⟩) (cat_run (by omega)) (k := ?_)
          refine WL.op (d := 62) (.pointer (some ⟨b18, 1, none⟩)) (k := ?_)
          refine WL.store (v := .string ⟨(dt ++ (rdP (GDisk.readT di (at_ + sk + (i : Int))))).toArray⟩) (i := 1) (cs' := #[.int .u64 ((ep : Nat) : Int), .string ⟨(dt ++ (rdP (GDisk.readT di (at_ + sk + (i : Int))))).toArray⟩]) hb161 (k := fun w279 hb280 k281 => ?_)
          replace hb188 := k281.heap hb188 n24
          replace hd170 := hd170.keeps k281 (fun i hi e => n25 (e ▸ hi))
          replace hb159 := k281.heap hb159 n26
          replace hb160 := k281.heap hb160 n27
          replace hb277 := k281.heap hb277 (Ne.symm n38)
          replace hb163 := k281.heap hb163 (Ne.symm n49)
          replace hb164 := k281.heap hb164 (Ne.symm n67)
          replace hb165 := k281.heap hb165 (Ne.symm n87)
          replace hb166 := k281.heap hb166 (Ne.symm n96)
          replace hb167 := k281.heap hb167 (Ne.symm n119)
          replace hl172 := k281.heap hl172 (Ne.symm n130)
          replace hb271 := k281.heap hb271 (Ne.symm n262)
          replace Kr_ := Kr_.trans' k281 (fun _ _ _ => trivial)
          replace K := K.trans' k281 (fun i hi e => absurd (e ▸ hi) (Nat.not_lt.2 z23))
          clear hb161
          refine WL.nil ?_
          refine WX.seqN ?_
          refine WC.region ?_
          refine WL.load (v := .int .u64 ((i : Nat) : Int)) (ld1 (T := 41) (i := 0) hb163) (k := ?_)
          refine WL.opE (d := 64) (.int .u64 (IntKind.u64.wrap (((i : Nat) : Int) + 1))) (v := .int .u64 ((i + 1 : Nat) : Int)) (congrArg (Value.int .u64) (add64 (a := i) (b := 1) (by omega))) (k := ?_)
          refine WL.store (v := .int .u64 ((i + 1 : Nat) : Int)) (i := 0) (cs' := #[.int .u64 ((i + 1 : Nat) : Int)]) hb163 (k := fun w282 hb283 k284 => ?_)
          replace hb188 := k284.heap hb188 n45
          replace hd170 := hd170.keeps k284 (fun i hi e => n46 (e ▸ hi))
          replace hb159 := k284.heap hb159 n47
          replace hb160 := k284.heap hb160 n48
          replace hb280 := k284.heap hb280 n49
          replace hb277 := k284.heap hb277 n50
          replace hb164 := k284.heap hb164 (Ne.symm n69)
          replace hb165 := k284.heap hb165 (Ne.symm n89)
          replace hb166 := k284.heap hb166 (Ne.symm n98)
          replace hb167 := k284.heap hb167 (Ne.symm n121)
          replace hl172 := k284.heap hl172 (Ne.symm n132)
          replace hb271 := k284.heap hb271 (Ne.symm n264)
          replace Kr_ := Kr_.trans' k284 (fun _ _ _ => trivial)
          replace K := K.trans' k284 (fun i hi e => absurd (e ▸ hi) (Nat.not_lt.2 z44))
          clear hb163
          refine WL.nil ?_
          refine WX.blockN ?_
          refine WX.roundN hr106 hl172 (fun w285 hl286 k287 => ?_)
          replace hb188 := k287.heap hb188 n126
          replace hd170 := hd170.keeps k287 (fun i hi e => n127 (e ▸ hi))
          replace hb159 := k287.heap hb159 n128
          replace hb160 := k287.heap hb160 n129
          replace hb280 := k287.heap hb280 n130
          replace hb277 := k287.heap hb277 n131
          replace hb283 := k287.heap hb283 n132
          replace hb164 := k287.heap hb164 n133
          replace hb165 := k287.heap hb165 n134
          replace hb166 := k287.heap hb166 n135
          replace hb167 := k287.heap hb167 ne109
          replace hb271 := k287.heap hb271 (Ne.symm n269)
          replace Kr_ := Kr_.trans' k287 (fun _ _ _ => trivial)
          replace K := K.trans' k287 (fun i hi e => absurd (e ▸ hi) (Nat.not_lt.2 z125))
          clear hl172
          have e1_ : ep = (ep1 i (GDisk.readT di (at_ + sk + (i : Int))) ep) := (if_neg (by omega)).symm
          have g_ := slot_go hg hlt_ ph174
          rw [show ((ep : Nat) : Int) = (((ep1 i (GDisk.readT di (at_ + sk + (i : Int))) ep) : Nat) : Int) from by rw [← e1_]] at hb280
          have e2_ : decide (isCell (GDisk.readT di (at_ + sk + (i : Int))) ∧ rdE (GDisk.readT di (at_ + sk + (i : Int))) = ep ∧ rdN (GDisk.readT di (at_ + sk + (i : Int))) = i) = decide (recS (GDisk.readT di (at_ + sk + (i : Int))) (ep1 i (GDisk.readT di (at_ + sk + (i : Int))) ep) i) := decide_eq_decide.2 (by rw [← e1_]; exact Iff.rfl)
          rw [e2_] at hb277
          rw [h273, Bool.true_and] at g_
          have el_ : (ep1 i (GDisk.readT di (at_ + sk + (i : Int))) ep) < 18446744073709551616 := by rw [← e1_]; omega
          have rl_ := rdP_len (GDisk.readT di (at_ + sk + (i : Int)))
          have dl_ : (dt ++ rdP (GDisk.readT di (at_ + sk + (i : Int)))).length ≤ 43 * (i + 1) := by rw [List.length_append]; omega
          exact .inl ⟨rfl, ⟨(decide (recS (GDisk.readT di (at_ + sk + (i : Int))) (ep1 i (GDisk.readT di (at_ + sk + (i : Int))) ep) i), (ep1 i (GDisk.readT di (at_ + sk + (i : Int))) ep), dt ++ rdP (GDisk.readT di (at_ + sk + (i : Int))), max nv (tgE (GDisk.readT di (at_ + sk + (i : Int))))), K, hb188, hb159, hb160, hb280, hb277, hb283, hb164, hb165, hb166, hb167, hl286, g_, el_, (by omega), dl_⟩, hd170, Kr_⟩
        · refine WL.rw (t := 50) (v := .bool false) (congrArg Value.bool h273) (k := ?_)
          refine WL.skip (d := 51) (k := ?_)
          refine WL.skip (d := 52) (k := ?_)
          refine WL.skip (d := 53) (k := ?_)
          refine WL.skip (d := 54) (k := ?_)
          refine WL.skip (d := 55) (k := ?_)
          refine WL.op (d := 56) (.bool false) (k := ?_)
          refine WL.store (v := .bool false) (i := 0) (cs' := #[.bool false]) hb162 (k := fun w288 hb289 k290 => ?_)
          replace hb188 := k290.heap hb188 n34
          replace hd170 := hd170.keeps k290 (fun i hi e => n35 (e ▸ hi))
          replace hb159 := k290.heap hb159 n36
          replace hb160 := k290.heap hb160 n37
          replace hb161 := k290.heap hb161 n38
          replace hb163 := k290.heap hb163 (Ne.symm n50)
          replace hb164 := k290.heap hb164 (Ne.symm n68)
          replace hb165 := k290.heap hb165 (Ne.symm n88)
          replace hb166 := k290.heap hb166 (Ne.symm n97)
          replace hb167 := k290.heap hb167 (Ne.symm n120)
          replace hl172 := k290.heap hl172 (Ne.symm n131)
          replace hb271 := k290.heap hb271 (Ne.symm n263)
          replace Kr_ := Kr_.trans' k290 (fun _ _ _ => trivial)
          replace K := K.trans' k290 (fun i hi e => absurd (e ▸ hi) (Nat.not_lt.2 z33))
          clear hb162
          refine WL.nil ?_
          refine WX.seqN ?_
          refine WC.seq ?_
          refine WC.region ?_
          refine WL.op (d := 57) (.pointer (some ⟨b18, 1, none⟩)) (k := ?_)
          refine WL.load (v := .string ⟨(dt).toArray⟩) (ld1 (T := 9) (i := 1) hb161) (k := ?_)
          refine WL.op (d := 59) (.pointer (some ⟨b252, 0, none⟩)) (k := ?_)
          refine WL.load (v := .string ⟨(rdP (GDisk.readT di (at_ + sk + (i : Int)))).toArray⟩) (ld1 (T := 9) (i := 0) hb271) (k := ?_)
          refine WL.bin (d := 61) (v := .string ⟨(dt ++ (rdP (GDisk.readT di (at_ + sk + (i : Int))))).toArray⟩) (cat_run (by omega)) (k := ?_)
          refine WL.op (d := 62) (.pointer (some ⟨b18, 1, none⟩)) (k := ?_)
          refine WL.store (v := .string ⟨(dt ++ (rdP (GDisk.readT di (at_ + sk + (i : Int))))).toArray⟩) (i := 1) (cs' := #[.int .u64 ((ep : Nat) : Int), .string ⟨(dt ++ (rdP (GDisk.readT di (at_ + sk + (i : Int))))).toArray⟩]) hb161 (k := fun w291 hb292 k293 => ?_)
          replace hb188 := k293.heap hb188 n24
          replace hd170 := hd170.keeps k293 (fun i hi e => n25 (e ▸ hi))
          replace hb159 := k293.heap hb159 n26
          replace hb160 := k293.heap hb160 n27
          replace hb289 := k293.heap hb289 (Ne.symm n38)
          replace hb163 := k293.heap hb163 (Ne.symm n49)
          replace hb164 := k293.heap hb164 (Ne.symm n67)
          replace hb165 := k293.heap hb165 (Ne.symm n87)
          replace hb166 := k293.heap hb166 (Ne.symm n96)
          replace hb167 := k293.heap hb167 (Ne.symm n119)
          replace hl172 := k293.heap hl172 (Ne.symm n130)
          replace hb271 := k293.heap hb271 (Ne.symm n262)
          replace Kr_ := Kr_.trans' k293 (fun _ _ _ => trivial)
          replace K := K.trans' k293 (fun i hi e => absurd (e ▸ hi) (Nat.not_lt.2 z23))
          clear hb161
          refine WL.nil ?_
          refine WX.seqN ?_
          refine WC.region ?_
          refine WL.load (v := .int .u64 ((i : Nat) : Int)) (ld1 (T := 41) (i := 0) hb163) (k := ?_)
          refine WL.opE (d := 64) (.int .u64 (IntKind.u64.wrap (((i : Nat) : Int) + 1))) (v := .int .u64 ((i + 1 : Nat) : Int)) (congrArg (Value.int .u64) (add64 (a := i) (b := 1) (by omega))) (k := ?_)
          refine WL.store (v := .int .u64 ((i + 1 : Nat) : Int)) (i := 0) (cs' := #[.int .u64 ((i + 1 : Nat) : Int)]) hb163 (k := fun w294 hb295 k296 => ?_)
          replace hb188 := k296.heap hb188 n45
          replace hd170 := hd170.keeps k296 (fun i hi e => n46 (e ▸ hi))
          replace hb159 := k296.heap hb159 n47
          replace hb160 := k296.heap hb160 n48
          replace hb292 := k296.heap hb292 n49
          replace hb289 := k296.heap hb289 n50
          replace hb164 := k296.heap hb164 (Ne.symm n69)
          replace hb165 := k296.heap hb165 (Ne.symm n89)
          replace hb166 := k296.heap hb166 (Ne.symm n98)
          replace hb167 := k296.heap hb167 (Ne.symm n121)
          replace hl172 := k296.heap hl172 (Ne.symm n132)
          replace hb271 := k296.heap hb271 (Ne.symm n264)
          replace Kr_ := Kr_.trans' k296 (fun _ _ _ => trivial)
          replace K := K.trans' k296 (fun i hi e => absurd (e ▸ hi) (Nat.not_lt.2 z44))
          clear hb163
          refine WL.nil ?_
          refine WX.blockN ?_
          refine WX.roundN hr106 hl172 (fun w297 hl298 k299 => ?_)
          replace hb188 := k299.heap hb188 n126
          replace hd170 := hd170.keeps k299 (fun i hi e => n127 (e ▸ hi))
          replace hb159 := k299.heap hb159 n128
          replace hb160 := k299.heap hb160 n129
          replace hb292 := k299.heap hb292 n130
          replace hb289 := k299.heap hb289 n131
          replace hb295 := k299.heap hb295 n132
          replace hb164 := k299.heap hb164 n133
          replace hb165 := k299.heap hb165 n134
          replace hb166 := k299.heap hb166 n135
          replace hb167 := k299.heap hb167 ne109
          replace hb271 := k299.heap hb271 (Ne.symm n269)
          replace Kr_ := Kr_.trans' k299 (fun _ _ _ => trivial)
          replace K := K.trans' k299 (fun i hi e => absurd (e ▸ hi) (Nat.not_lt.2 z125))
          clear hl172
          have e1_ : ep = (ep1 i (GDisk.readT di (at_ + sk + (i : Int))) ep) := (if_neg (by omega)).symm
          have g_ := slot_go hg hlt_ ph174
          rw [show ((ep : Nat) : Int) = (((ep1 i (GDisk.readT di (at_ + sk + (i : Int))) ep) : Nat) : Int) from by rw [← e1_]] at hb292
          rw [h273, Bool.false_and] at g_
          have el_ : (ep1 i (GDisk.readT di (at_ + sk + (i : Int))) ep) < 18446744073709551616 := by rw [← e1_]; omega
          have rl_ := rdP_len (GDisk.readT di (at_ + sk + (i : Int)))
          have dl_ : (dt ++ rdP (GDisk.readT di (at_ + sk + (i : Int)))).length ≤ 43 * (i + 1) := by rw [List.length_append]; omega
          exact .inl ⟨rfl, ⟨(false, (ep1 i (GDisk.readT di (at_ + sk + (i : Int))) ep), dt ++ rdP (GDisk.readT di (at_ + sk + (i : Int))), max nv (tgE (GDisk.readT di (at_ + sk + (i : Int))))), K, hb188, hb159, hb160, hb292, hb289, hb295, hb164, hb165, hb166, hb167, hl298, g_, el_, (by omega), dl_⟩, hd170, Kr_⟩
  · rintro e_ w300 ⟨rfl, h_⟩
    rcases h_ with ⟨i, di, ⟨is_, ep, dt, nv⟩, hk_, ⟨K, hb301, hb302, hb303, hb304, hb305, hb306, hb307, hb308, hb309, hb310, hb311, hg, he, hn, hdt⟩, hd323⟩ | ⟨i, di, is_, ep, dt, nv, K, hb312, hb313, hb314, hb315, hb316, hb317, hb318, hb319, hb320, hb321, hb322, hi, hx, hg, he, hn, hdt, hd324⟩
    · refine RangeEnd.go hr106 hb311 (fun w325 k326 => ?_)
      replace hb301 := k326.heap hb301 n126
      replace hd323 := hd323.keeps k326 (fun i hi e => n127 (e ▸ hi))
      replace hb302 := k326.heap hb302 n128
      replace hb303 := k326.heap hb303 n129
      replace hb304 := k326.heap hb304 n130
      replace hb305 := k326.heap hb305 n131
      replace hb306 := k326.heap hb306 n132
      replace hb307 := k326.heap hb307 n133
      replace hb308 := k326.heap hb308 n134
      replace hb309 := k326.heap hb309 n135
      replace hb310 := k326.heap hb310 ne109
      replace K := K.trans' k326 (fun i hi e => absurd (e ▸ hi) (Nat.not_lt.2 z125))
      clear hb311
      refine WX.blockN ?_
      refine WX.seqN ?_
      refine WC.seq ?_
      refine WC.seq ?_
      refine WC.region ?_
      refine WL.load (v := .bool is_) (ld1 (T := 4) (i := 0) hb305) (k := ?_)
      refine WL.op (d := 66) (.bool (!(is_))) (k := ?_)
      refine WL.op (d := 67) (.bool (!(is_))) (k := ?_)
      refine bsplit (!(is_)) (fun h327 => ?_) (fun h327 => ?_)
      · have h328 : (is_) = false := Bool.not_inj (y := false) h327
        refine WL.rw (t := 67) (v := .bool true) (congrArg Value.bool h327) (k := ?_)
        refine WL.skip (d := 68) (k := ?_)
        refine WL.skip (d := 69) (k := ?_)
        refine WL.op (d := 70) (.bool true) (k := ?_)
        refine WL.op (d := 71) (.bool true) (k := ?_)
        refine WL.skip (d := 72) (k := ?_)
        refine WL.skip (d := 73) (k := ?_)
        refine WL.skip (d := 74) (k := ?_)
        refine WL.op (d := 75) (.bool true) (k := ?_)
        refine WL.nil ?_
        refine WX.seqN ?_
        refine WC.condT (k := ?_)
        refine WC.seq ?_
        refine WC.mixed (fun k => k = b9) 3 (k := fun w329 k330 => ?_)
        replace hb301 := k330.heap hb301 id
        replace hd323 := hd323.adds k330
        replace hb302 := k330.heap hb302 id
        replace hb303 := k330.heap hb303 id
        replace hb304 := k330.heap hb304 id
        replace hb305 := k330.heap hb305 id
        replace hb306 := k330.heap hb306 id
        replace hb307 := k330.heap hb307 id
        replace hb308 := k330.heap hb308 id
        replace hb309 := k330.heap hb309 id
        replace hb310 := k330.heap hb310 id
        replace K := K.trans (k330.any _)
        have KC := Keeps.refl (fun k => k = b9) w329
        have bh331 := hb301
        have bh332 := hb302
        have bh333 := hb303
        have bh334 := hb304
        have bh335 := hb305
        have bh336 := hb306
        have bh337 := hb307
        have bh338 := hb308
        have bh339 := hb309
        have Kb := K
        refine WA.quiet 0 (d := 76) (.agg #[.int .u64 0, .string ⟨#[]⟩]) KC (hi := rfl) (k := ?_)
        refine WA.quietR 1 (d := 77) (.int .i64 0) KC (exec_load (fun w_ k_ => ld1 (T := 26) (i := 0) (k_.heap bh337 (Ne.symm n66)))) (hi := rfl) (k := ?_)
        refine WA.step 2 (hi := rfl) (k := ?_)
        refine WL.store (v := .agg #[.int .u64 0, .string ⟨#[]⟩]) (i := 0) (cs' := #[.int .u64 0, .string ⟨#[]⟩]) hb303 (k := fun w340 hb341 k342 => ?_)
        replace hb301 := k342.heap hb301 n15
        replace hd323 := hd323.keeps k342 (fun i hi e => n16 (e ▸ hi))
        replace hb302 := k342.heap hb302 n17
        replace hb304 := k342.heap hb304 (Ne.symm n27)
        replace hb305 := k342.heap hb305 (Ne.symm n37)
        replace hb306 := k342.heap hb306 (Ne.symm n48)
        replace hb307 := k342.heap hb307 (Ne.symm n66)
        replace hb308 := k342.heap hb308 (Ne.symm n86)
        replace hb309 := k342.heap hb309 (Ne.symm n95)
        replace hb310 := k342.heap hb310 (Ne.symm n118)
        replace K := K.trans' k342 (fun i hi e => absurd (e ▸ hi) (Nat.not_lt.2 z14))
        replace KC := KC.trans' k342 (fun i hi e => e)
        clear hb303
        refine WL.nil ?_
        refine WX.nxt KC ?_
        refine WA.step 3 (hi := rfl) (k := ?_)
        refine WL.op (d := 5) (.int .i64 0) (k := ?_)
        refine WL.nil ?_
        refine WX.nxtL ?_
        refine WA.done (k := ?_)
        clear KC
        refine WX.seqN ?_
        refine WC.ret ?_
        refine WX.seqR ?_
        refine WX.scopeR ?_
        refine WX.retM (rs := [.cell 4 55, .tmp 5]) hb310 (fun w343 k344 => ?_)
        replace hb301 := k344.heap hb301 n115
        replace hd323 := hd323.keeps k344 (fun i hi e => n116 (e ▸ hi))
        replace hb302 := k344.heap hb302 n117
        replace hb341 := k344.heap hb341 n118
        replace hb304 := k344.heap hb304 n119
        replace hb305 := k344.heap hb305 n120
        replace hb306 := k344.heap hb306 n121
        replace hb307 := k344.heap hb307 n122
        replace hb308 := k344.heap hb308 n123
        replace hb309 := k344.heap hb309 n124
        replace K := K.trans' k344 (fun i hi e => absurd (e ▸ hi) (Nat.not_lt.2 z114))
        clear hb310
        refine ⟨[.agg #[.int .u64 0, .string ⟨#[]⟩], .int .i64 0], .tuple #[.agg #[.int .u64 0, .string ⟨#[]⟩], .int .i64 0], ⟨⟨_, (by kernel_rfl), ldN (T := 55) (i := 0) (m := 2) (l := [.int .u64 0, .string ⟨#[]⟩]) hb341⟩, (by kernel_rfl), trivial⟩, rfl, ?_⟩
        have q_ := slot_end hg (by omega)
        rw [q_]
        obtain ⟨q1_, q2_⟩ := SvR.e_no (r := ⟨is_, ep, dt, nv, di, 0⟩) (fun h => by have h1 : is_ = true := h.1; rw [h328] at h1; cases h1)
        rw [q1_, q2_]
        exact ⟨rfl, hb301, hd323, K⟩
      · have h345 : (is_) = true := Bool.not_inj (y := true) h327
        refine WL.rw (t := 67) (v := .bool false) (congrArg Value.bool h327) (k := ?_)
        refine WL.load (v := .int .i64 0) (ld1 (T := 26) (i := 0) hb307) (k := ?_)
        refine WL.op (d := 69) (.bool false) (k := ?_)
        refine WL.op (d := 70) (.bool false) (k := ?_)
        refine WL.op (d := 71) (.bool false) (k := ?_)
        refine WL.op (d := 72) (.pointer (some ⟨b18, 0, none⟩)) (k := ?_)
        refine WL.load (v := .int .u64 ((ep : Nat) : Int)) (ld1 (T := 41) (i := 0) hb304) (k := ?_)
        refine WL.op (d := 74) (.bool (((ep : Nat) : Int) == 0)) (k := ?_)
        refine WL.op (d := 75) (.bool (((ep : Nat) : Int) == 0)) (k := ?_)
        refine WL.nil ?_
        refine WX.seqN ?_
        refine WC.cond (b := ((ep : Nat) : Int) == 0) (ht := fun h346 => ?_) (hf := fun h346 => ?_)
        · have ph346 := eq_of_beq h346
          refine WC.seq ?_
          refine WC.mixed (fun k => k = b9) 3 (k := fun w347 k348 => ?_)
          replace hb301 := k348.heap hb301 id
          replace hd323 := hd323.adds k348
          replace hb302 := k348.heap hb302 id
          replace hb303 := k348.heap hb303 id
          replace hb304 := k348.heap hb304 id
          replace hb305 := k348.heap hb305 id
          replace hb306 := k348.heap hb306 id
          replace hb307 := k348.heap hb307 id
          replace hb308 := k348.heap hb308 id
          replace hb309 := k348.heap hb309 id
          replace hb310 := k348.heap hb310 id
          replace K := K.trans (k348.any _)
          have KC := Keeps.refl (fun k => k = b9) w347
          have bh349 := hb301
          have bh350 := hb302
          have bh351 := hb303
          have bh352 := hb304
          have bh353 := hb305
          have bh354 := hb306
          have bh355 := hb307
          have bh356 := hb308
          have bh357 := hb309
          have Kb := K
          refine WA.quiet 0 (d := 76) (.agg #[.int .u64 0, .string ⟨#[]⟩]) KC (hi := rfl) (k := ?_)
          refine WA.quietR 1 (d := 77) (.int .i64 0) KC (exec_load (fun w_ k_ => ld1 (T := 26) (i := 0) (k_.heap bh355 (Ne.symm n66)))) (hi := rfl) (k := ?_)
          refine WA.step 2 (hi := rfl) (k := ?_)
          refine WL.store (v := .agg #[.int .u64 0, .string ⟨#[]⟩]) (i := 0) (cs' := #[.int .u64 0, .string ⟨#[]⟩]) hb303 (k := fun w358 hb359 k360 => ?_)
          replace hb301 := k360.heap hb301 n15
          replace hd323 := hd323.keeps k360 (fun i hi e => n16 (e ▸ hi))
          replace hb302 := k360.heap hb302 n17
          replace hb304 := k360.heap hb304 (Ne.symm n27)
          replace hb305 := k360.heap hb305 (Ne.symm n37)
          replace hb306 := k360.heap hb306 (Ne.symm n48)
          replace hb307 := k360.heap hb307 (Ne.symm n66)
          replace hb308 := k360.heap hb308 (Ne.symm n86)
          replace hb309 := k360.heap hb309 (Ne.symm n95)
          replace hb310 := k360.heap hb310 (Ne.symm n118)
          replace K := K.trans' k360 (fun i hi e => absurd (e ▸ hi) (Nat.not_lt.2 z14))
          replace KC := KC.trans' k360 (fun i hi e => e)
          clear hb303
          refine WL.nil ?_
          refine WX.nxt KC ?_
          refine WA.step 3 (hi := rfl) (k := ?_)
          refine WL.op (d := 5) (.int .i64 0) (k := ?_)
          refine WL.nil ?_
          refine WX.nxtL ?_
          refine WA.done (k := ?_)
          clear KC
          refine WX.seqN ?_
          refine WC.ret ?_
          refine WX.seqR ?_
          refine WX.scopeR ?_
          refine WX.retM (rs := [.cell 4 55, .tmp 5]) hb310 (fun w361 k362 => ?_)
          replace hb301 := k362.heap hb301 n115
          replace hd323 := hd323.keeps k362 (fun i hi e => n116 (e ▸ hi))
          replace hb302 := k362.heap hb302 n117
          replace hb359 := k362.heap hb359 n118
          replace hb304 := k362.heap hb304 n119
          replace hb305 := k362.heap hb305 n120
          replace hb306 := k362.heap hb306 n121
          replace hb307 := k362.heap hb307 n122
          replace hb308 := k362.heap hb308 n123
          replace hb309 := k362.heap hb309 n124
          replace K := K.trans' k362 (fun i hi e => absurd (e ▸ hi) (Nat.not_lt.2 z114))
          clear hb310
          refine ⟨[.agg #[.int .u64 0, .string ⟨#[]⟩], .int .i64 0], .tuple #[.agg #[.int .u64 0, .string ⟨#[]⟩], .int .i64 0], ⟨⟨_, (by kernel_rfl), ldN (T := 55) (i := 0) (m := 2) (l := [.int .u64 0, .string ⟨#[]⟩]) hb359⟩, (by kernel_rfl), trivial⟩, rfl, ?_⟩
          have q_ := slot_end hg (by omega)
          rw [q_]
          obtain ⟨q1_, q2_⟩ := SvR.e_no (r := ⟨is_, ep, dt, nv, di, 0⟩) (fun h => h.2.2 (by show ep = 0; omega))
          rw [q1_, q2_]
          exact ⟨rfl, hb301, hd323, K⟩
        · have ph346 := ne_of_beq_false h346
          refine WC.skip ?_
          refine WX.seqN ?_
          refine WC.seq ?_
          refine WC.region ?_
          refine WL.load (v := .agg #[.int .u64 ((ep : Nat) : Int), .string ⟨(dt).toArray⟩]) (ldN (T := 55) (i := 0) (m := 2) (l := [.int .u64 ((ep : Nat) : Int), .string ⟨(dt).toArray⟩]) hb304) (k := ?_)
          refine WL.store (v := .agg #[.int .u64 ((ep : Nat) : Int), .string ⟨(dt).toArray⟩]) (i := 0) (cs' := #[.int .u64 ((ep : Nat) : Int), .string ⟨(dt).toArray⟩]) hb303 (k := fun w363 hb364 k365 => ?_)
          replace hb301 := k365.heap hb301 n15
          replace hd323 := hd323.keeps k365 (fun i hi e => n16 (e ▸ hi))
          replace hb302 := k365.heap hb302 n17
          replace hb304 := k365.heap hb304 (Ne.symm n27)
          replace hb305 := k365.heap hb305 (Ne.symm n37)
          replace hb306 := k365.heap hb306 (Ne.symm n48)
          replace hb307 := k365.heap hb307 (Ne.symm n66)
          replace hb308 := k365.heap hb308 (Ne.symm n86)
          replace hb309 := k365.heap hb309 (Ne.symm n95)
          replace hb310 := k365.heap hb310 (Ne.symm n118)
          replace K := K.trans' k365 (fun i hi e => absurd (e ▸ hi) (Nat.not_lt.2 z14))
          clear hb303
          refine WL.op (d := 5) (.int .i64 0) (k := ?_)
          refine WL.nil ?_
          refine WX.seqN ?_
          refine WC.ret ?_
          refine WX.scopeR ?_
          refine WX.retM (rs := [.cell 4 55, .tmp 5]) hb310 (fun w366 k367 => ?_)
          replace hb301 := k367.heap hb301 n115
          replace hd323 := hd323.keeps k367 (fun i hi e => n116 (e ▸ hi))
          replace hb302 := k367.heap hb302 n117
          replace hb364 := k367.heap hb364 n118
          replace hb304 := k367.heap hb304 n119
          replace hb305 := k367.heap hb305 n120
          replace hb306 := k367.heap hb306 n121
          replace hb307 := k367.heap hb307 n122
          replace hb308 := k367.heap hb308 n123
          replace hb309 := k367.heap hb309 n124
          replace K := K.trans' k367 (fun i hi e => absurd (e ▸ hi) (Nat.not_lt.2 z114))
          clear hb310
          refine ⟨[.agg #[.int .u64 ((ep : Nat) : Int), .string ⟨(dt).toArray⟩], .int .i64 0], .tuple #[.agg #[.int .u64 ((ep : Nat) : Int), .string ⟨(dt).toArray⟩], .int .i64 0], ⟨⟨_, (by kernel_rfl), ldN (T := 55) (i := 0) (m := 2) (l := [.int .u64 ((ep : Nat) : Int), .string ⟨(dt).toArray⟩]) hb364⟩, (by kernel_rfl), trivial⟩, rfl, ?_⟩
          have q_ := slot_end hg (by omega)
          rw [q_]
          obtain ⟨q1_, q2_⟩ := SvR.e_ok (r := ⟨is_, ep, dt, nv, di, 0⟩) ⟨h345, rfl, (by show ¬ ep = 0; omega)⟩
          rw [q1_, q2_]
          exact ⟨rfl, hb301, hd323, K⟩
    · refine RangeEnd.jump hr106 hb322 (fun w368 k369 => ?_)
      replace hb312 := k369.heap hb312 n126
      replace hd324 := hd324.keeps k369 (fun i hi e => n127 (e ▸ hi))
      replace hb313 := k369.heap hb313 n128
      replace hb314 := k369.heap hb314 n129
      replace hb315 := k369.heap hb315 n130
      replace hb316 := k369.heap hb316 n131
      replace hb317 := k369.heap hb317 n132
      replace hb318 := k369.heap hb318 n133
      replace hb319 := k369.heap hb319 n134
      replace hb320 := k369.heap hb320 n135
      replace hb321 := k369.heap hb321 ne109
      replace K := K.trans' k369 (fun i hi e => absurd (e ▸ hi) (Nat.not_lt.2 z125))
      clear hb322
      refine WC.exit ?_
      refine WX.blockE ?_
      refine WX.seqN ?_
      refine WC.seq ?_
      refine WC.seq ?_
      refine WC.region ?_
      refine WL.load (v := .bool is_) (ld1 (T := 4) (i := 0) hb316) (k := ?_)
      refine WL.op (d := 66) (.bool (!(is_))) (k := ?_)
      refine WL.op (d := 67) (.bool (!(is_))) (k := ?_)
      refine bsplit (!(is_)) (fun h370 => ?_) (fun h370 => ?_)
      · have h371 : (is_) = false := Bool.not_inj (y := false) h370
        refine WL.rw (t := 67) (v := .bool true) (congrArg Value.bool h370) (k := ?_)
        refine WL.skip (d := 68) (k := ?_)
        refine WL.skip (d := 69) (k := ?_)
        refine WL.op (d := 70) (.bool true) (k := ?_)
        refine WL.op (d := 71) (.bool true) (k := ?_)
        refine WL.skip (d := 72) (k := ?_)
        refine WL.skip (d := 73) (k := ?_)
        refine WL.skip (d := 74) (k := ?_)
        refine WL.op (d := 75) (.bool true) (k := ?_)
        refine WL.nil ?_
        refine WX.seqN ?_
        refine WC.condT (k := ?_)
        refine WC.seq ?_
        refine WC.mixed (fun k => k = b9) 3 (k := fun w372 k373 => ?_)
        replace hb312 := k373.heap hb312 id
        replace hd324 := hd324.adds k373
        replace hb313 := k373.heap hb313 id
        replace hb314 := k373.heap hb314 id
        replace hb315 := k373.heap hb315 id
        replace hb316 := k373.heap hb316 id
        replace hb317 := k373.heap hb317 id
        replace hb318 := k373.heap hb318 id
        replace hb319 := k373.heap hb319 id
        replace hb320 := k373.heap hb320 id
        replace hb321 := k373.heap hb321 id
        replace K := K.trans (k373.any _)
        have KC := Keeps.refl (fun k => k = b9) w372
        have bh374 := hb312
        have bh375 := hb313
        have bh376 := hb314
        have bh377 := hb315
        have bh378 := hb316
        have bh379 := hb317
        have bh380 := hb318
        have bh381 := hb319
        have bh382 := hb320
        have Kb := K
        refine WA.quiet 0 (d := 76) (.agg #[.int .u64 0, .string ⟨#[]⟩]) KC (hi := rfl) (k := ?_)
        refine WA.quietR 1 (d := 77) (.int .i64 (GDisk.readE di (at_ + sk + (i : Int)))) KC (exec_load (fun w_ k_ => ld1 (T := 26) (i := 0) (k_.heap bh380 (Ne.symm n66)))) (hi := rfl) (k := ?_)
        refine WA.step 2 (hi := rfl) (k := ?_)
        refine WL.store (v := .agg #[.int .u64 0, .string ⟨#[]⟩]) (i := 0) (cs' := #[.int .u64 0, .string ⟨#[]⟩]) hb314 (k := fun w383 hb384 k385 => ?_)
        replace hb312 := k385.heap hb312 n15
        replace hd324 := hd324.keeps k385 (fun i hi e => n16 (e ▸ hi))
        replace hb313 := k385.heap hb313 n17
        replace hb315 := k385.heap hb315 (Ne.symm n27)
        replace hb316 := k385.heap hb316 (Ne.symm n37)
        replace hb317 := k385.heap hb317 (Ne.symm n48)
        replace hb318 := k385.heap hb318 (Ne.symm n66)
        replace hb319 := k385.heap hb319 (Ne.symm n86)
        replace hb320 := k385.heap hb320 (Ne.symm n95)
        replace hb321 := k385.heap hb321 (Ne.symm n118)
        replace K := K.trans' k385 (fun i hi e => absurd (e ▸ hi) (Nat.not_lt.2 z14))
        replace KC := KC.trans' k385 (fun i hi e => e)
        clear hb314
        refine WL.nil ?_
        refine WX.nxt KC ?_
        refine WA.step 3 (hi := rfl) (k := ?_)
        refine WL.op (d := 5) (.int .i64 (GDisk.readE di (at_ + sk + (i : Int)))) (k := ?_)
        refine WL.nil ?_
        refine WX.nxtL ?_
        refine WA.done (k := ?_)
        clear KC
        refine WX.seqN ?_
        refine WC.ret ?_
        refine WX.seqR ?_
        refine WX.scopeR ?_
        refine WX.retM (rs := [.cell 4 55, .tmp 5]) hb321 (fun w386 k387 => ?_)
        replace hb312 := k387.heap hb312 n115
        replace hd324 := hd324.keeps k387 (fun i hi e => n116 (e ▸ hi))
        replace hb313 := k387.heap hb313 n117
        replace hb384 := k387.heap hb384 n118
        replace hb315 := k387.heap hb315 n119
        replace hb316 := k387.heap hb316 n120
        replace hb317 := k387.heap hb317 n121
        replace hb318 := k387.heap hb318 n122
        replace hb319 := k387.heap hb319 n123
        replace hb320 := k387.heap hb320 n124
        replace K := K.trans' k387 (fun i hi e => absurd (e ▸ hi) (Nat.not_lt.2 z114))
        clear hb321
        refine ⟨[.agg #[.int .u64 0, .string ⟨#[]⟩], .int .i64 (GDisk.readE di (at_ + sk + (i : Int)))], .tuple #[.agg #[.int .u64 0, .string ⟨#[]⟩], .int .i64 (GDisk.readE di (at_ + sk + (i : Int)))], ⟨⟨_, (by kernel_rfl), ldN (T := 55) (i := 0) (m := 2) (l := [.int .u64 0, .string ⟨#[]⟩]) hb384⟩, (by kernel_rfl), trivial⟩, rfl, ?_⟩
        have q_ := slot_stop hg hi hx
        rw [q_]
        obtain ⟨q1_, q2_⟩ := SvR.e_no (r := ⟨is_, ep, dt, nv, GDisk.readD di (at_ + sk + (i : Int)), GDisk.readE di (at_ + sk + (i : Int))⟩) (fun h => hx h.2.1)
        rw [q1_, q2_]
        exact ⟨rfl, hb312, hd324, K⟩
      · have h388 : (is_) = true := Bool.not_inj (y := true) h370
        refine WL.rw (t := 67) (v := .bool false) (congrArg Value.bool h370) (k := ?_)
        refine WL.load (v := .int .i64 (GDisk.readE di (at_ + sk + (i : Int)))) (ld1 (T := 26) (i := 0) hb318) (k := ?_)
        refine WL.op (d := 69) (.bool ((GDisk.readE di (at_ + sk + (i : Int))) != 0)) (k := ?_)
        refine WL.op (d := 70) (.bool ((GDisk.readE di (at_ + sk + (i : Int))) != 0)) (k := ?_)
        refine WL.op (d := 71) (.bool ((GDisk.readE di (at_ + sk + (i : Int))) != 0)) (k := ?_)
        refine bsplit ((GDisk.readE di (at_ + sk + (i : Int))) != 0) (fun h389 => ?_) (fun h389 => ?_)
        · have ph389 := bne_iff_ne.1 h389
          refine WL.rw (t := 71) (v := .bool true) (congrArg Value.bool h389) (k := ?_)
          refine WL.skip (d := 72) (k := ?_)
          refine WL.skip (d := 73) (k := ?_)
          refine WL.skip (d := 74) (k := ?_)
          refine WL.op (d := 75) (.bool true) (k := ?_)
          refine WL.nil ?_
          refine WX.seqN ?_
          refine WC.condT (k := ?_)
          refine WC.seq ?_
          refine WC.mixed (fun k => k = b9) 3 (k := fun w390 k391 => ?_)
          replace hb312 := k391.heap hb312 id
          replace hd324 := hd324.adds k391
          replace hb313 := k391.heap hb313 id
          replace hb314 := k391.heap hb314 id
          replace hb315 := k391.heap hb315 id
          replace hb316 := k391.heap hb316 id
          replace hb317 := k391.heap hb317 id
          replace hb318 := k391.heap hb318 id
          replace hb319 := k391.heap hb319 id
          replace hb320 := k391.heap hb320 id
          replace hb321 := k391.heap hb321 id
          replace K := K.trans (k391.any _)
          have KC := Keeps.refl (fun k => k = b9) w390
          have bh392 := hb312
          have bh393 := hb313
          have bh394 := hb314
          have bh395 := hb315
          have bh396 := hb316
          have bh397 := hb317
          have bh398 := hb318
          have bh399 := hb319
          have bh400 := hb320
          have Kb := K
          refine WA.quiet 0 (d := 76) (.agg #[.int .u64 0, .string ⟨#[]⟩]) KC (hi := rfl) (k := ?_)
          refine WA.quietR 1 (d := 77) (.int .i64 (GDisk.readE di (at_ + sk + (i : Int)))) KC (exec_load (fun w_ k_ => ld1 (T := 26) (i := 0) (k_.heap bh398 (Ne.symm n66)))) (hi := rfl) (k := ?_)
          refine WA.step 2 (hi := rfl) (k := ?_)
          refine WL.store (v := .agg #[.int .u64 0, .string ⟨#[]⟩]) (i := 0) (cs' := #[.int .u64 0, .string ⟨#[]⟩]) hb314 (k := fun w401 hb402 k403 => ?_)
          replace hb312 := k403.heap hb312 n15
          replace hd324 := hd324.keeps k403 (fun i hi e => n16 (e ▸ hi))
          replace hb313 := k403.heap hb313 n17
          replace hb315 := k403.heap hb315 (Ne.symm n27)
          replace hb316 := k403.heap hb316 (Ne.symm n37)
          replace hb317 := k403.heap hb317 (Ne.symm n48)
          replace hb318 := k403.heap hb318 (Ne.symm n66)
          replace hb319 := k403.heap hb319 (Ne.symm n86)
          replace hb320 := k403.heap hb320 (Ne.symm n95)
          replace hb321 := k403.heap hb321 (Ne.symm n118)
          replace K := K.trans' k403 (fun i hi e => absurd (e ▸ hi) (Nat.not_lt.2 z14))
          replace KC := KC.trans' k403 (fun i hi e => e)
          clear hb314
          refine WL.nil ?_
          refine WX.nxt KC ?_
          refine WA.step 3 (hi := rfl) (k := ?_)
          refine WL.op (d := 5) (.int .i64 (GDisk.readE di (at_ + sk + (i : Int)))) (k := ?_)
          refine WL.nil ?_
          refine WX.nxtL ?_
          refine WA.done (k := ?_)
          clear KC
          refine WX.seqN ?_
          refine WC.ret ?_
          refine WX.seqR ?_
          refine WX.scopeR ?_
          refine WX.retM (rs := [.cell 4 55, .tmp 5]) hb321 (fun w404 k405 => ?_)
          replace hb312 := k405.heap hb312 n115
          replace hd324 := hd324.keeps k405 (fun i hi e => n116 (e ▸ hi))
          replace hb313 := k405.heap hb313 n117
          replace hb402 := k405.heap hb402 n118
          replace hb315 := k405.heap hb315 n119
          replace hb316 := k405.heap hb316 n120
          replace hb317 := k405.heap hb317 n121
          replace hb318 := k405.heap hb318 n122
          replace hb319 := k405.heap hb319 n123
          replace hb320 := k405.heap hb320 n124
          replace K := K.trans' k405 (fun i hi e => absurd (e ▸ hi) (Nat.not_lt.2 z114))
          clear hb321
          refine ⟨[.agg #[.int .u64 0, .string ⟨#[]⟩], .int .i64 (GDisk.readE di (at_ + sk + (i : Int)))], .tuple #[.agg #[.int .u64 0, .string ⟨#[]⟩], .int .i64 (GDisk.readE di (at_ + sk + (i : Int)))], ⟨⟨_, (by kernel_rfl), ldN (T := 55) (i := 0) (m := 2) (l := [.int .u64 0, .string ⟨#[]⟩]) hb402⟩, (by kernel_rfl), trivial⟩, rfl, ?_⟩
          have q_ := slot_stop hg hi hx
          rw [q_]
          obtain ⟨q1_, q2_⟩ := SvR.e_no (r := ⟨is_, ep, dt, nv, GDisk.readD di (at_ + sk + (i : Int)), GDisk.readE di (at_ + sk + (i : Int))⟩) (fun h => hx h.2.1)
          rw [q1_, q2_]
          exact ⟨rfl, hb312, hd324, K⟩
        · have ph389 := of_bne_false h389
          refine WL.rw (t := 71) (v := .bool false) (congrArg Value.bool h389) (k := ?_)
          refine WL.op (d := 72) (.pointer (some ⟨b18, 0, none⟩)) (k := ?_)
          refine WL.load (v := .int .u64 ((ep : Nat) : Int)) (ld1 (T := 41) (i := 0) hb315) (k := ?_)
          refine WL.op (d := 74) (.bool (((ep : Nat) : Int) == 0)) (k := ?_)
          refine WL.op (d := 75) (.bool (((ep : Nat) : Int) == 0)) (k := ?_)
          refine WL.nil ?_
          refine WX.seqN ?_
          refine WC.cond (b := ((ep : Nat) : Int) == 0) (ht := fun h406 => ?_) (hf := fun h406 => ?_)
          · have ph406 := eq_of_beq h406
            refine WC.seq ?_
            refine WC.mixed (fun k => k = b9) 3 (k := fun w407 k408 => ?_)
            replace hb312 := k408.heap hb312 id
            replace hd324 := hd324.adds k408
            replace hb313 := k408.heap hb313 id
            replace hb314 := k408.heap hb314 id
            replace hb315 := k408.heap hb315 id
            replace hb316 := k408.heap hb316 id
            replace hb317 := k408.heap hb317 id
            replace hb318 := k408.heap hb318 id
            replace hb319 := k408.heap hb319 id
            replace hb320 := k408.heap hb320 id
            replace hb321 := k408.heap hb321 id
            replace K := K.trans (k408.any _)
            have KC := Keeps.refl (fun k => k = b9) w407
            have bh409 := hb312
            have bh410 := hb313
            have bh411 := hb314
            have bh412 := hb315
            have bh413 := hb316
            have bh414 := hb317
            have bh415 := hb318
            have bh416 := hb319
            have bh417 := hb320
            have Kb := K
            refine WA.quiet 0 (d := 76) (.agg #[.int .u64 0, .string ⟨#[]⟩]) KC (hi := rfl) (k := ?_)
            refine WA.quietR 1 (d := 77) (.int .i64 (GDisk.readE di (at_ + sk + (i : Int)))) KC (exec_load (fun w_ k_ => ld1 (T := 26) (i := 0) (k_.heap bh415 (Ne.symm n66)))) (hi := rfl) (k := ?_)
            refine WA.step 2 (hi := rfl) (k := ?_)
            refine WL.store (v := .agg #[.int .u64 0, .string ⟨#[]⟩]) (i := 0) (cs' := #[.int .u64 0, .string ⟨#[]⟩]) hb314 (k := fun w418 hb419 k420 => ?_)
            replace hb312 := k420.heap hb312 n15
            replace hd324 := hd324.keeps k420 (fun i hi e => n16 (e ▸ hi))
            replace hb313 := k420.heap hb313 n17
            replace hb315 := k420.heap hb315 (Ne.symm n27)
            replace hb316 := k420.heap hb316 (Ne.symm n37)
            replace hb317 := k420.heap hb317 (Ne.symm n48)
            replace hb318 := k420.heap hb318 (Ne.symm n66)
            replace hb319 := k420.heap hb319 (Ne.symm n86)
            replace hb320 := k420.heap hb320 (Ne.symm n95)
            replace hb321 := k420.heap hb321 (Ne.symm n118)
            replace K := K.trans' k420 (fun i hi e => absurd (e ▸ hi) (Nat.not_lt.2 z14))
            replace KC := KC.trans' k420 (fun i hi e => e)
            clear hb314
            refine WL.nil ?_
            refine WX.nxt KC ?_
            refine WA.step 3 (hi := rfl) (k := ?_)
            refine WL.op (d := 5) (.int .i64 (GDisk.readE di (at_ + sk + (i : Int)))) (k := ?_)
            refine WL.nil ?_
            refine WX.nxtL ?_
            refine WA.done (k := ?_)
            clear KC
            refine WX.seqN ?_
            refine WC.ret ?_
            refine WX.seqR ?_
            refine WX.scopeR ?_
            refine WX.retM (rs := [.cell 4 55, .tmp 5]) hb321 (fun w421 k422 => ?_)
            replace hb312 := k422.heap hb312 n115
            replace hd324 := hd324.keeps k422 (fun i hi e => n116 (e ▸ hi))
            replace hb313 := k422.heap hb313 n117
            replace hb419 := k422.heap hb419 n118
            replace hb315 := k422.heap hb315 n119
            replace hb316 := k422.heap hb316 n120
            replace hb317 := k422.heap hb317 n121
            replace hb318 := k422.heap hb318 n122
            replace hb319 := k422.heap hb319 n123
            replace hb320 := k422.heap hb320 n124
            replace K := K.trans' k422 (fun i hi e => absurd (e ▸ hi) (Nat.not_lt.2 z114))
            clear hb321
            refine ⟨[.agg #[.int .u64 0, .string ⟨#[]⟩], .int .i64 (GDisk.readE di (at_ + sk + (i : Int)))], .tuple #[.agg #[.int .u64 0, .string ⟨#[]⟩], .int .i64 (GDisk.readE di (at_ + sk + (i : Int)))], ⟨⟨_, (by kernel_rfl), ldN (T := 55) (i := 0) (m := 2) (l := [.int .u64 0, .string ⟨#[]⟩]) hb419⟩, (by kernel_rfl), trivial⟩, rfl, ?_⟩
            exact absurd ph389 hx
          · have ph406 := ne_of_beq_false h406
            refine WC.skip ?_
            refine WX.seqN ?_
            refine WC.seq ?_
            refine WC.region ?_
            refine WL.load (v := .agg #[.int .u64 ((ep : Nat) : Int), .string ⟨(dt).toArray⟩]) (ldN (T := 55) (i := 0) (m := 2) (l := [.int .u64 ((ep : Nat) : Int), .string ⟨(dt).toArray⟩]) hb315) (k := ?_)
            refine WL.store (v := .agg #[.int .u64 ((ep : Nat) : Int), .string ⟨(dt).toArray⟩]) (i := 0) (cs' := #[.int .u64 ((ep : Nat) : Int), .string ⟨(dt).toArray⟩]) hb314 (k := fun w423 hb424 k425 => ?_)
            replace hb312 := k425.heap hb312 n15
            replace hd324 := hd324.keeps k425 (fun i hi e => n16 (e ▸ hi))
            replace hb313 := k425.heap hb313 n17
            replace hb315 := k425.heap hb315 (Ne.symm n27)
            replace hb316 := k425.heap hb316 (Ne.symm n37)
            replace hb317 := k425.heap hb317 (Ne.symm n48)
            replace hb318 := k425.heap hb318 (Ne.symm n66)
            replace hb319 := k425.heap hb319 (Ne.symm n86)
            replace hb320 := k425.heap hb320 (Ne.symm n95)
            replace hb321 := k425.heap hb321 (Ne.symm n118)
            replace K := K.trans' k425 (fun i hi e => absurd (e ▸ hi) (Nat.not_lt.2 z14))
            clear hb314
            refine WL.op (d := 5) (.int .i64 0) (k := ?_)
            refine WL.nil ?_
            refine WX.seqN ?_
            refine WC.ret ?_
            refine WX.scopeR ?_
            refine WX.retM (rs := [.cell 4 55, .tmp 5]) hb321 (fun w426 k427 => ?_)
            replace hb312 := k427.heap hb312 n115
            replace hd324 := hd324.keeps k427 (fun i hi e => n116 (e ▸ hi))
            replace hb313 := k427.heap hb313 n117
            replace hb424 := k427.heap hb424 n118
            replace hb315 := k427.heap hb315 n119
            replace hb316 := k427.heap hb316 n120
            replace hb317 := k427.heap hb317 n121
            replace hb318 := k427.heap hb318 n122
            replace hb319 := k427.heap hb319 n123
            replace hb320 := k427.heap hb320 n124
            replace K := K.trans' k427 (fun i hi e => absurd (e ▸ hi) (Nat.not_lt.2 z114))
            clear hb321
            refine ⟨[.agg #[.int .u64 ((ep : Nat) : Int), .string ⟨(dt).toArray⟩], .int .i64 0], .tuple #[.agg #[.int .u64 ((ep : Nat) : Int), .string ⟨(dt).toArray⟩], .int .i64 0], ⟨⟨_, (by kernel_rfl), ldN (T := 55) (i := 0) (m := 2) (l := [.int .u64 ((ep : Nat) : Int), .string ⟨(dt).toArray⟩]) hb424⟩, (by kernel_rfl), trivial⟩, rfl, ?_⟩
            exact absurd ph389 hx
theorem svSlot_r {S : Nat → Prop} {b dk : Nat} {d : GDisk} {at_ k slot sk : Int} {rv lv : Value} {nw : Nat} {r : SvR} {w : World} (hsk : slot * k = sk) (s0 : 0 ≤ sk) (s1 : sk ≤ 64) (a0 : 0 ≤ at_) (a1 : at_ ≤ 1024) (k0 : 0 ≤ k) (k1 : k ≤ 64) (hb : w.heap[b]? = some (.cells #[.pointer (some ⟨dk, 0, none⟩), .int .i64 at_, .int .i64 k, rv, .int .u64 (nw : Int), lv] 81 (0, 0))) (hd : DiskAt S dk d w) (hnb : ¬ S b) (hnw : nw < 18446744073709551616) (hr : slotGo (at_ + sk) k.toNat 0 true 0 [] nw d = r) : Calls Tryz.prog 37 #[.pointer (some ⟨b, 0, none⟩), .int .i64 slot] w fun e w' => e = .returned (.tuple #[.agg #[.int .u64 ((SvR.e r : Nat) : Int), .string ⟨(SvR.t r).toArray⟩], .int .i64 (SvR.bad r)]) ∧ w'.heap[b]? = some (.cells #[.pointer (some ⟨dk, 0, none⟩), .int .i64 at_, .int .i64 k, rv, .int .u64 ((SvR.nw r : Nat) : Int), lv] 81 (0, 0)) ∧ DiskAt S dk (SvR.d r) w' ∧ Keeps (fun k => k = b ∨ S k) w w' := by
  subst hr; exact svSlot_c hsk s0 s1 a0 a1 k0 k1 hb hd hnb hnw
end Go.Proofs.YtnndkgmcjbnfbaaGreatDoor
