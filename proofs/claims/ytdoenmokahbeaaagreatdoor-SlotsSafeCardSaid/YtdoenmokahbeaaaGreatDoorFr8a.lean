
/- Frames: what the laws lean on. -/
import Derived.Test.YtdoenmokahbeaaaGreatDoorFr7
import Derived.Test.YtdoenmokahbeaaaGreatDoorSb0
namespace Go.Proofs.YtdoenmokahbeaaaGreatDoor
open Go.RowKit
set_option linter.unusedVariables false
set_option linter.unusedSimpArgs false

theorem eqCellS (p : List UInt8) (e n : Int) (w : World) : (binOp .eql 96 (.agg #[.string ⟨p.toArray⟩, .int .u64 e, .int .u64 n]) (.agg #[.string ⟨p.toArray⟩, .int .u64 e, .int .u64 n])).run Tryz.prog w = .ok (.bool true) w := by
  simp [go_sem]
/-- what is read of a sector that was made -/
theorem rd_mk {p : List UInt8} {e n : Nat} (hp : p.length ≤ 43) (he : e < 18446744073709551616) (hn : n < 18446744073709551616) : rdP (makeS p e n) = p ∧ rdE (makeS p e n) = e ∧ rdN (makeS p e n) = n ∧ decide (isCell (makeS p e n)) = true := by
  have h := make_cell hp he hn
  refine ⟨?_, ?_, ?_, decide_eq_true h⟩
  · rw [rdP, if_pos h, make_pay hp]
  · rw [rdE, if_pos h, make_ep hp he]
  · rw [rdN, if_pos h, make_nu hp hn]
theorem fRead_mk {p : List UInt8} {e n : Nat} (hp : p.length ≤ 43) (he : e < 18446744073709551616) (hn : n < 18446744073709551616) (w : World) : Calls Tryz.prog 55 #[.string ⟨(makeS p e n).toArray⟩] w fun e_ w' => e_ = .returned (.tuple #[.agg #[.string ⟨p.toArray⟩, .int .u64 (e : Int), .int .u64 (n : Int)], .bool true]) ∧ Adds w w' := by
  obtain ⟨h1, h2, h3, h4⟩ := rd_mk hp he hn
  refine (fRead_c (l := makeS p e n) (by rw [makeS_len hp]; decide) w).mono ?_
  rintro e_ w' ⟨h, k⟩
  rw [h1, h2, h3, h4] at h
  exact ⟨h, k⟩
theorem fWhole_mk {p : List UInt8} {e n e' n' : Nat} (hp : p.length ≤ 43) (he : e < 18446744073709551616) (hn : n < 18446744073709551616) (w : World) : Calls Tryz.prog 54 #[.string ⟨(makeS p e n).toArray⟩, .int .u64 (e' : Int), .int .u64 (n' : Int)] w fun e_ w' => e_ = .returned (.bool (decide (e = e' ∧ n = n'))) ∧ Adds w w' := by
  obtain ⟨h1, h2, h3, h4⟩ := rd_mk hp he hn
  refine (fWhole_c (l := makeS p e n) (e := e') (n := n') (by rw [makeS_len hp]; decide) w).mono ?_
  rintro e_ w' ⟨h, k⟩
  rw [h2, h3] at h
  refine ⟨h.trans (ret_bool ?_), k⟩
  have := of_decide_eq_true h4
  simp [this]
theorem fWhole_me {p : List UInt8} {e n : Nat} (hp : p.length ≤ 43) (he : e < 18446744073709551616) (hn : n < 18446744073709551616) (w : World) : Calls Tryz.prog 54 #[.string ⟨(makeS p e n).toArray⟩, .int .u64 (e : Int), .int .u64 (n : Int)] w fun e_ w' => e_ = .returned (.bool true) ∧ Adds w w' := by
  refine (fWhole_mk hp he hn w).mono ?_
  rintro e_ w' ⟨h, k⟩
  exact ⟨h.trans (ret_bool (by simp)), k⟩
theorem awk_tag : List.drop 48 (makeS [97, 98] 3 7) = [0, 0, 0, 0, 0, 0, 0, 3, 0, 0, 0, 0, 0, 0, 0, 7] := by
  rw [make_tag (by decide)]; decide
theorem wrap_succ (e : Nat) : IntKind.u64.wrap ((e : Int) + 1) = (((e + 1) % 18446744073709551616 : Nat) : Int) := by
  rw [IntKind.wrap_u64]; omega
/-- one byte of a sector turned -/
theorem fb_eq {s : List UInt8} (hc : isCell s) {k : Nat} (hk : 1 ≤ k) (hk2 : k < s.length) {u x : UInt8} (hu : ((s[k].toNat ^^^ x.toNat : Nat) : Int) = (u.toNat : Int)) : (decide (isCell (s.set k u)) == ((x.toNat : Int) == 0)) = true := by
  have h64 := hc.1
  have e1 : u.toNat = s[k].toNat ^^^ x.toNat := by omega
  by_cases hx : x.toNat = 0
  · have hu2 : u = s[k] := UInt8.toNat_inj.1 (by rw [e1, hx, Nat.xor_zero])
    have : s.set k u = s := by rw [hu2]; exact List.set_getElem_self hk2
    rw [this, decide_eq_true hc, hx]; rfl
  · have hn : ¬ isCell (s.set k u) := fun h => by
      have := torn_byte hc hk (by omega) h
      have h3 := congrArg (fun l : List UInt8 => l[k]?) this
      simp only [List.getElem?_set_self hk2, List.getElem?_eq_getElem hk2, Option.some.injEq] at h3
      rw [h3] at e1
      have h4 := congrArg (fun n => s[k].toNat ^^^ n) e1
      simp only [Nat.xor_self, ← Nat.xor_assoc, Nat.zero_xor] at h4
      exact hx h4.symm
    have hb : ((x.toNat : Int) == 0) = false := beq_eq_false_iff_ne.2 (by omega)
    rw [decide_eq_false hn, hb]; rfl
/-- what a buffer of 64 bytes takes of a text -/
def cpS (s : List UInt8) : List UInt8 := List.take (List.replicate 64 (0 : UInt8)).length s ++ List.drop s.length (List.replicate 64 0)
theorem cpS_len (s : List UInt8) : (cpS s).length = 64 := by simp [cpS]; omega
theorem tn_eq {p o : List UInt8} {e n : Nat} {r : Int} (hp : p.length ≤ 43) (he : e < 18446744073709551616) (hn : n < 18446744073709551616) (h0 : 0 ≤ r) (h1 : r ≤ 64) (hne : ¬ (tgE (cpS o) = e ∧ tgN (cpS o) = n)) :
    (decide (isCell (List.take r.toNat (makeS p e n) ++ List.drop r.toNat (cpS o)) ∧ rdE (List.take r.toNat (makeS p e n) ++ List.drop r.toNat (cpS o)) = e ∧ rdN (List.take r.toNat (makeS p e n) ++ List.drop r.toNat (cpS o)) = n) == decide (List.take r.toNat (makeS p e n) ++ List.drop r.toNat (cpS o) = makeS p e n)) = true := by
  have h := torn (p := p) (old := cpS o) (e := e) (n := n) (k := r.toNat) hp he hn (cpS_len o) (by omega) (by
    unfold tgE tgN at hne; rw [if_pos (cpS_len o), if_pos (cpS_len o)] at hne; exact hne)
  rw [beq_iff_eq, decide_eq_decide, ← h]
  refine ⟨fun k => ?_, fun k => ?_⟩
  · refine ⟨k.1, ?_, ?_⟩
    · have := k.2.1; rw [rdE, if_pos k.1] at this; exact this
    · have := k.2.2; rw [rdN, if_pos k.1] at this; exact this
  · refine ⟨k.1, ?_, ?_⟩
    · rw [rdE, if_pos k.1]; exact k.2.1
    · rw [rdN, if_pos k.1]; exact k.2.2

end Go.Proofs.YtdoenmokahbeaaaGreatDoor
