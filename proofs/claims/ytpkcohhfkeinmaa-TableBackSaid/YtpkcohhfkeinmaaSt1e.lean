
/- What was written is read; what was admitted, and then removed. -/
import Derived.Test.YtpkcohhfkeinmaaSt1d
namespace Go.Proofs.Ytpkcohhfkeinmaa
open Go.RowKit
set_option linter.unusedVariables false
set_option linter.unusedSimpArgs false

theorem rdRow_fwd {r : GRow} (h : r.ok) (t : List UInt8) : rdRow (some (r.enc ++ t)) = (r, some t) := by
  obtain ⟨⟨h1, h2, h3, h4, h5, h6, h7, h8⟩, _⟩ := h
  have q1 : rdInt 1023 (some (r.enc ++ t)) = (r.task.id.toNat, some (encNum r.task.c.toNat ++ (encNum r.task.d.toNat ++ (encNum r.task.t.toNat ++ (encNum r.task.m.toNat ++ (encFlag r.sv ++ t)))))) := by
    simp only [GRow.enc, List.append_assoc]
    exact rdInt_fwd (by decide) (by omega) (by omega)
  rw [rdRow_eq q1 (rdNum_fwd (by omega) (by omega)) (rdNum_fwd (by omega) (by omega)) (rdNum_fwd (by omega) (by omega)) (rdInt_fwd (by decide) (by omega) (by omega)) rdFlag_fwd]
  simp only [Int.toNat_of_nonneg h1, Int.toNat_of_nonneg (show 0 ≤ r.task.c by omega), Int.toNat_of_nonneg (show 0 ≤ r.task.d by omega), Int.toNat_of_nonneg (show 0 ≤ r.task.t by omega), Int.toNat_of_nonneg (show 0 ≤ r.task.m by omega)]
theorem rdRows_fwd : ∀ {rows : List GRow} (t : List UInt8), (∀ r ∈ rows, r.ok) → rdRows rows.length (some (encRows rows ++ t)) = (rows, some t)
  | [], t, _ => by simp [rdRows, encRows]
  | r :: rows, t, h => by
    have e : encRows (r :: rows) ++ t = r.enc ++ (encRows rows ++ t) := by simp [encRows]
    rw [List.length_cons, rdRows, e, rdRow_fwd (h r (by simp)), rdRows_fwd t (fun q hq => h q (by simp [hq]))]
theorem read_fwd {t : GTable} (h : t.ok) : readT t.enc = (t, 0) := by
  obtain ⟨h1, h2, h3, h4, h5⟩ := ok_iff.1 h
  have q1 : rdInt 3 (some t.enc) = (t.mode.toNat, some (encNum t.rows.length ++ encRows t.rows)) := by
    unfold GTable.enc
    rw [List.append_assoc]
    exact rdInt_fwd (by decide) (by omega) (by omega)
  have q2 : rdInt 16 (some (encNum t.rows.length ++ encRows t.rows)) = (t.rows.length, some (encRows t.rows)) := rdInt_fwd (by decide) (by omega) (by omega)
  have q3 : rdRows t.rows.length (some (encRows t.rows)) = (t.rows, some []) := by
    have := rdRows_fwd [] h1
    rwa [List.append_nil] at this
  rw [readT_eq q1 q2, q3]
  simp only [Int.toNat_of_nonneg h4]
  rw [if_pos ⟨trivial, tok_eqt h⟩]
theorem rm_ok {x : Int} (h0 : 0 ≤ x) (h1 : x ≤ 1023) : GOp.ok ⟨2, ⟨0, 0, 0, 0, 0⟩, false, x, 0, 0⟩ := by
  refine ⟨by simp [GOp.bare], ?_⟩
  unfold GOp.right
  simp; omega
theorem admit_back {t : GTable} {b : GOp} (hk : b.kind = 1) (h : (applyT t b).2 = 0) :
    (findR (applyT t b).1.rows b.task.id).isSome = true ∧ applyT (applyT t b).1 ⟨2, ⟨0, 0, 0, 0, 0⟩, false, b.task.id, 0, 0⟩ = (t, 0) ∧ (applyT t b).1.rows.length = t.rows.length + 1 := by
  obtain ⟨hy, hok, hb⟩ := apply_ok h
  have hid : 0 ≤ b.task.id ∧ b.task.id ≤ 1023 := by
    have := hb.2
    unfold GOp.right at this
    rw [if_pos hk] at this
    exact ⟨this.1.1, this.1.2.1⟩
  have hy1 : (applyT t b).1 = ⟨t.rows.take (posR t.rows b.task.id) ++ ([⟨b.task, b.sv⟩] ++ t.rows.drop (posR t.rows b.task.id)), t.mode⟩ := by
    unfold applyT at h ⊢
    rw [if_neg (by rw [tok_eqt hok]; simp), if_neg (by simp [hb]), if_pos hk] at h ⊢
    unfold admitT at h ⊢
    split at h
    · simp at h
    rename_i hn
    split at h
    · simp at h
    rename_i hl
    rw [if_neg hn, if_neg hl]
  rw [hy1] at hy ⊢
  generalize hp : posR t.rows b.task.id = p at *
  have hple : p ≤ t.rows.length := by have := pos_le t.rows b.task.id; omega
  have hlt : (t.rows.take p).length = p := by simp [hple]
  have hat : (t.rows.take p ++ ([⟨b.task, b.sv⟩] ++ t.rows.drop p))[p]? = some (⟨b.task, b.sv⟩ : GRow) := by
    rw [List.getElem?_append_right (by omega), hlt]; simp
  have hpos : posR (t.rows.take p ++ ([⟨b.task, b.sv⟩] ++ t.rows.drop p)) b.task.id = p := by
    refine pos_unique (by simp; omega) (fun k r hkp hr => ?_) (fun r hr => ?_)
    · rw [List.getElem?_append_left (by omega)] at hr
      refine take_lt (rows := t.rows) r ?_
      rw [hp]; exact List.mem_of_getElem? hr
    · rw [hat] at hr; cases hr; exact Int.le_refl _
  have hhas : hasR (t.rows.take p ++ ([⟨b.task, b.sv⟩] ++ t.rows.drop p)) b.task.id = true := by
    unfold hasR; rw [hpos, hat]; simp
  refine ⟨?_, ?_, ?_⟩
  · unfold findR
    rw [List.find?_isSome]
    exact ⟨⟨b.task, b.sv⟩, by simp, by simp⟩
  · unfold applyT
    rw [if_neg (by rw [tok_eqt hy]; simp), if_neg (by simp [rm_ok hid.1 hid.2]), if_neg (by simp), if_neg (by simp), if_neg (by simp only; rw [hhas]; simp), if_pos rfl]
    simp only [hpos]
    rw [List.take_append_of_le_length (by omega), List.take_of_length_le (by omega)]
    have hd : (t.rows.take p ++ ([(⟨b.task, b.sv⟩ : GRow)] ++ t.rows.drop p)).drop (p + 1) = t.rows.drop p := by
      rw [List.drop_append, hlt, List.drop_of_length_le (by omega)]
      simp
    rw [hd, List.take_append_drop]
  · simp; omega

end Go.Proofs.Ytpkcohhfkeinmaa
