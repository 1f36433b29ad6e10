/- OctetBack, walked. -/
import Derived.Test.YtbfclkjbgicncaaWk3d
namespace Go.Proofs.Ytbfclkjbgicncaa
open Go.RowKit
set_option linter.unusedVariables false
attribute [local go_sem] str_get str_cut run_str1 str_app str_app1 str_app0

theorem BuR.uniq {T B B' b : Nat} {r r' : Option Nat} {bs bs' : List UInt8} {w : World} (h : BuR T B b r bs w) (h' : BuR T B' b r' bs' w) : r = r' := by
  obtain ⟨p, v, _, hb, _, _, q⟩ := h
  obtain ⟨p', v', _, hb', _, _, q'⟩ := h'
  rw [hb] at hb'
  simp only [Option.some.injEq, Obj.cells.injEq, Array.mk.injEq, List.cons.injEq] at hb'
  rw [← q, ← q', hb'.1.2.1]
theorem WrPost.step' {T b : Nat} {r r1 : Option Nat} {bs bs' bs'' : List UInt8} {w w1 w2 : World} (h : WrPost T b r bs w w1) (h1 : BuR T 0 b r1 bs'' w1) (g : WrPost T b r1 bs' w1 w2) : WrPost T b r bs' w w2 :=
  h.step (fun r2 hr2 => by rw [hr2.uniq h1]; exact g)

/-- The numbers z i, z (i+1), .., m of them, as they are written. -/
def encs (z : Nat → Nat) : Nat → Nat → List UInt8
  | _, 0 => []
  | i, m + 1 => encNum (z i) ++ encs z (i + 1) m
theorem encs_snoc (z : Nat → Nat) (m : Nat) : ∀ i, encs z i (m + 1) = encs z i m ++ encNum (z (i + m)) := by
  induction m with
  | zero => intro i; simp [encs]
  | succ m ih =>
    intro i
    rw [encs, ih (i + 1), encs, List.append_assoc]
    rw [show i + 1 + m = i + (m + 1) from by omega]
theorem encs_len (z : Nat → Nat) (m : Nat) : ∀ i, (∀ j, i ≤ j → j < i + m → z j < 18446744073709551616) → (encs z i m).length ≤ 9 * m := by
  induction m with
  | zero => intro i _; simp [encs]
  | succ m ih =>
    intro i h
    have h1 := encNum_len (z i) (h i (Nat.le_refl _) (by omega))
    have h2 := ih (i + 1) (fun j h1 h2 => h j (by omega) (by omega))
    rw [encs, List.length_append]; omega

theorem rdNum_enc {n : Nat} (h : n < 18446744073709551616) (t : List UInt8) : rdNum 18446744073709551615 (some (encNum n ++ t)) = (n, some t) := by
  simp only [rdNum, decNum_enc t (by omega : n ≤ 18446744073709551615) h]

theorem rdText_enc {m : Int} {l : List UInt8} (hm : (l.length : Int) ≤ m) (h : l.length < 18446744073709551616) (t : List UInt8) : rdText m (some (encText l ++ t)) = (l, some t) := by
  have h1 : rdInt m (some (encText l ++ t)) = (l.length, some (l ++ t)) := by
    rw [rdInt, if_neg (by omega), encText, List.append_assoc]
    simp only [rdNum, decNum_enc (l ++ t) (by omega : l.length ≤ m.toNat) h]
  rw [rdText, h1]
  simp
theorem encFlag_true : encFlag true = [1, 1] := by
  simp only [encFlag, if_true, encNum]
  rw [beb_pos (by decide)]
  have : 1 / 256 = 0 := by decide
  rw [this, beb_zero]
  decide
theorem rdFlag_true (t : List UInt8) : rdFlag (some (encFlag true ++ t)) = (true, some t) := by
  have h := decNum_enc (most := 1) (n := 1) t (by omega) (by omega)
  simp only [rdFlag, rdNum, encFlag, if_true, h]
  rfl
theorem rdFlag_cut : rdFlag (some [1]) = (false, none) := by
  simp [rdFlag, rdNum, decNum]

theorem OctetBack_cells {sa0 : Option Addr} {sl0 sc0 : Nat} {w : World} (h0 : IsSl 1 (fun w c => IsInt .u64 c) w [.slice sa0 sl0 sc0]) :
    sl0 ≤ 9223372036854775807 ∧ ∃ (a : Addr) (z : Nat → Nat), ∀ i, i < sl0 → sa0 = some a ∧ w.cell? (a.add i) = some (.int .u64 (z i)) ∧ z i < 18446744073709551616 := by
  rcases h0 with h0 | ⟨a, len, cap, h0, h1, h2, hi⟩
  · simp only [List.cons.injEq, Value.slice.injEq, and_true] at h0
    exact ⟨by omega, ⟨0, 0, none⟩, fun _ => 0, fun i hi => by omega⟩
  · simp only [List.cons.injEq, Value.slice.injEq, and_true] at h0
    obtain ⟨rfl, rfl, rfl⟩ := h0
    unfold maxLen at h2
    refine ⟨by omega, a, ?_⟩
    have h3 : ∀ i, ∃ n : Nat, i < sl0 → some a = some a ∧ w.cell? (a.add i) = some (.int .u64 n) ∧ n < 18446744073709551616 := by
      intro i
      by_cases h : i < sl0
      · obtain ⟨es, _, hes, n, rfl, hn⟩ := hi i h
        obtain ⟨n', rfl, hn'⟩ := nat_u64 ⟨n, rfl, hn⟩
        have := hes 0 (by omega)
        rw [Nat.mul_one] at this
        exact ⟨n', fun _ => ⟨rfl, this, hn'⟩⟩
      · exact ⟨0, fun h' => absurd h' h⟩
    obtain ⟨z, hz⟩ := Classical.skolem.1 h3
    exact ⟨z, hz⟩

set_option maxRecDepth 100000 in
set_option maxHeartbeats 4000000 in
theorem OctetBack_walk (sa0 : Option Addr) (sl0 sc0 : Nat) (x1 : ByteArray) (x2 : ByteArray) (w : World) (h0 : IsSl 1 (fun w c => IsInt .u64 c) w [.slice sa0 sl0 sc0]) (h1 : IsStr [.string x1]) (h2 : IsStr [.string x2]) :
    Calls Try.prog 6 #[.slice sa0 sl0 sc0, .string x1, .string x2] w fun e w' => e = .returned (.bool true) ∧ Below w.heap.size w w' := by
  obtain ⟨hcap, a, z, hz⟩ := OctetBack_cells h0
  have HZ := Lib.hid hz
  clear h0 h1 h2 hz
  obtain ⟨l1, rfl⟩ := str_of x1
  obtain ⟨l2, rfl⟩ := str_of x2
  have hl1 : (l1.take 60).length ≤ 60 := by rw [List.length_take]; omega
  have hl2 : (l2.take 20).length ≤ 20 := by rw [List.length_take]; omega
  go_enter Try.func6, Try.ntmps6
  go_wp2_with fail
  refine (l03awake_any _).mono ?_
  rintro e w1 ⟨rfl, K1⟩
  go_wp2_with fail
  refine (l03short_any l1 60 _ rfl _).mono ?_
  rintro e w1' ⟨rfl, rfl⟩
  have hs1 := K1.size
  generalize l1.take 60 = s at *
  have go : ∀ nn : Nat, nn ≤ 8 → nn ≤ sl0 → True := fun _ _ _ => trivial
  clear go
  by_cases h8 : 8 < sl0
  case' pos =>
    have h8b : decide ((8 : Int) < sl0) = true := by simp; omega
    go_wp2_with fail
    clear h8b
    obtain ⟨nn, e9, hn8, hnl⟩ : ∃ nn : Nat, Value.int .i64 8 = Value.int .i64 nn ∧ nn ≤ 8 ∧ nn ≤ sl0 := ⟨8, rfl, by omega, by omega⟩
  case' neg =>
    have h8b : decide ((8 : Int) < sl0) = false := by simp; omega
    go_wp2_with fail
    clear h8b
    obtain ⟨nn, e9, hn8, hnl⟩ : ∃ nn : Nat, Value.int .i64 sl0 = Value.int .i64 nn ∧ nn ≤ 8 ∧ nn ≤ sl0 := ⟨sl0, rfl, by omega, by omega⟩
  all_goals
    rw [e9]
    clear e9 h8
    have hzn : ∀ j, 0 ≤ j → j < 0 + nn → z j < 18446744073709551616 := fun j _ h => (HZ.out j (by omega)).2.2
    have hEn := encs_len z nn 0 hzn
    have HEn : Hid (∀ j, 0 ≤ j → j < 0 + nn → z j < 18446744073709551616) := hzn
    clear hzn
    go_loopw [10] (fun iv wr => ∃ i : Nat, i ≤ nn ∧ iv = .int .i64 i ∧ (∃ r, BuR 32 0 w1.heap.size r (encs z 0 i) wr ∧ (∀ j, r = some j → w.heap.size ≤ j)) ∧ Adds w wr ∧ w1.heap.size < wr.heap.size) (fun iv _ => nn - (intOf iv).toNat)
    case atStart => exact ⟨0, by omega, rfl, ⟨none, BuR.new0 _ _, fun _ h => by cases h⟩, K1.alloc _, by simp⟩
    case round =>
      obtain ⟨i, hi, rfl, ⟨r, hB, hr⟩, hA, hlt⟩ := hrel
      have HR := Lib.hid hr
      clear hr
      have hEi := encs_len z i 0 (fun j h1 h2 => HEn.out j h1 (by omega))
      by_cases hin : i < nn
      · obtain ⟨rfl, q, hzi⟩ := HZ.out i (by omega)
        replace q := hA.cell q id
        go_wp2_with fail
        refine (wNum_r w1.heap.size r _ (z i) _ rfl hzi _ hB (by omega)).mono ?_
        rintro e w2 ⟨rfl, r2, B2, N2, K2⟩
        have HN := Lib.hid N2
        clear N2
        have hsA := hA.size
        have hs2 := K2.size
        go_wp2
        go_roundw
        case rel =>
          refine ⟨i + 1, by omega, by go_num, ⟨r2, ?_, ?_⟩, ?_, by omega⟩
          · rw [encs_snoc, Nat.zero_add]; exact B2
          · intro j hj
            rcases HN.out with rfl | ⟨k, rfl, hk⟩
            · exact HR.out j hj
            · cases hj; omega
          · exact hA.trans' K2 (fun k hk h => by rcases h with h | h; omega; have := HR.out k h; omega)
        case measure => simp [intOf]; omega
      · obtain rfl : i = nn := by omega
        go_wp2_with fail
        refine (wText_r w1.heap.size r _ s (by omega) _ hB (by omega)).mono ?_
        rintro e w2 ⟨rfl, P2⟩
        have HP := Lib.hid P2
        obtain ⟨r2, B2, -, -⟩ := P2
        have hT := encText_len s hl1
        go_wp2_with fail
        refine (wFlag_r w1.heap.size r2 _ true _ B2 (by rw [List.length_append]; omega)).mono ?_
        rintro e w3 ⟨rfl, P3⟩
        have HP3 := Lib.hid P3
        obtain ⟨r3, B3, -, -⟩ := P3
        have hF := encFlag_len true
        go_wp2_with fail
        refine (wString_s w1.heap.size r3 _ _ B3 (by rw [List.length_append, List.length_append]; omega)).mono ?_
        rintro e w4 ⟨rfl, P4⟩
        have HP4 := Lib.hid P4
        clear P4
        have A4 : Adds w w4 := ((HP.out.step' B2 HP3.out).step' B3 HP4.out).adds hA hs1 HR.out
        clear HP HP3 HP4 B2 B3 hB hA HR
        rw [encFlag_true]
        have hX : encs z 0 i ++ encText s ++ [1, 1] = encs z 0 i ++ (encText s ++ [1, 1]) := List.append_assoc _ _ _
        rw [hX]
        clear hX
        go_wp2_with fail
        refine (l03short_any l2 20 _ rfl _).mono ?_
        rintro e w1' ⟨rfl, rfl⟩
        generalize ht2 : l2.take 20 = t2 at *
        have HT2 := Lib.hid ht2
        clear ht2
        go_wp2_with fail
        refine (oRead_any _ _).mono ?_
        rintro e w5 ⟨rfl, R5, k5⟩
        have hcut : List.take ((encs z 0 i).length + ((encText s).length + 1)) (encs z 0 i ++ (encText s ++ [1, 1])) = encs z 0 i ++ (encText s ++ [1]) := by
          rw [List.take_length_add_append, List.take_length_add_append]; rfl
        go_wp2_with fail
        clear hcut
        refine (oRead_any _ _).mono ?_
        rintro e w6 ⟨rfl, Q6, k6⟩
        have A6 := (A4.trans k5).trans k6
        have R6 := R5.keeps k6 id
        have hb4 : w.heap.size ≤ w4.heap.size := A4.size
        have hb5 : w4.heap.size < w5.heap.size := R5.lt
        replace R6 : RdAt w4.heap.size (some (encs z 0 i ++ (encText s ++ 1 :: 1 :: t2))) w6 := R6
        replace Q6 : RdAt w5.heap.size (some (encs z 0 i ++ (encText s ++ [1]))) w6 := Q6
        clear A4 k5 k6 R5
        generalize w4.heap.size = rb at *
        generalize w5.heap.size = qb at *
        go_wp2_with fail
        have hbs : rb < w6.heap.size := R6.lt
        have hbs2 : qb < w6.heap.size := Q6.lt
        have hrq : ¬ rb = qb := by omega
        have hqr : ¬ qb = rb := by omega
        clear hlt hEi hin hi hEn
        go_loopw [14] (fun iv wr => ∃ j : Nat, j ≤ i ∧ iv = .int .i64 j ∧ RdAt rb (some (encs z j (i - j) ++ (encText s ++ 1 :: 1 :: t2))) wr ∧ RdAt qb (some (encs z j (i - j) ++ (encText s ++ [1]))) wr ∧ Adds w wr) (fun iv _ => i - (intOf iv).toNat)
        case atStart => exact ⟨0, by omega, rfl, R6, Q6, A6⟩
        case round =>
          clear R6 Q6 A6
          obtain ⟨j, hj, rfl, R, Q, hA⟩ := hrel
          have hlen2 := encs_len z (i - j) j (fun q h1 h2 => HEn.out q (by omega) (by omega))
          by_cases hjn : j < i
          · obtain ⟨rfl, q, hzj⟩ := HZ.out j (by omega)
            replace q := hA.cell q id
            obtain ⟨d, hd⟩ : ∃ d, i - j = d + 1 := ⟨i - j - 1, by omega⟩
            have hd2 : i - (j + 1) = d := by omega
            rw [hd] at R Q hlen2
            rw [encs, List.append_assoc] at R Q
            rw [encs, List.length_append] at hlen2
            have hd8 : d ≤ 8 := by omega
            have c1 : Calls Try.prog 20 #[.pointer (some ⟨rb, 0, none⟩), .int .u64 18446744073709551615] wr.drew fun e w' => e = .returned (.int .u64 (z j)) ∧ RdAt rb (some (encs z (j + 1) d ++ (encText s ++ 1 :: 1 :: t2))) w' ∧ Keeps (fun k => k = rb) wr.drew w' := by
              have := rNum_any rb _ (by simp only [stLen, List.length_append, List.length_cons]; omega) 18446744073709551615 _ rfl (by omega) _ R.drew
              rw [rdNum_enc hzj] at this
              exact this
            have c2 : ∀ W, Keeps (fun k => k = rb) wr.drew W → Calls Try.prog 20 #[.pointer (some ⟨qb, 0, none⟩), .int .u64 18446744073709551615] W fun e w' => e = .returned (.int .u64 (z j)) ∧ RdAt qb (some (encs z (j + 1) d ++ (encText s ++ [1]))) w' ∧ Keeps (fun k => k = qb) W w' := by
              intro W k
              have := rNum_any qb _ (by simp only [stLen, List.length_append, List.length_cons, List.length_nil]; omega) 18446744073709551615 _ rfl (by omega) _ (Q.drew.keeps k hqr)
              rw [rdNum_enc hzj] at this
              exact this
            have C1 := Lib.hid c1
            have C2 := Lib.hid c2
            have HD := Lib.hid hd2
            have hab : (a.add j).block < w.heap.size := World.block_lt_of_cell? w _ (HZ.out j (by omega)).2.1
            have hna : ¬ (a.add j).block = rb := by omega
            have hnb : ¬ (a.add j).block = qb := by omega
            clear hab
            clear hd hd2 c1 c2 R Q hlen2
            have hj0 : (0 : Int) ≤ (j : Int) := by omega
            have hj1 : (j : Int) < (sl0 : Int) := by omega
            have hj2 : j < sl0 := by omega
            go_wp2_with fail
            go_region_held3 (fun w' => w'.cell? (a.add j) = some (.int .u64 (z j))) ((first | (go_keep; done) | exact Keeps.cell k7 (by assumption) hna | exact Keeps.cell k8 (by assumption) hnb)) (first | (go_at_call 20; ((with_reducible refine (C1.out).mono ?_); rintro e w7 ⟨rfl, R7, k7⟩)) | (go_at_call 20; ((with_reducible refine (C2.out _ k7).mono ?_); rintro e w8 ⟨rfl, Q8, k8⟩)))
            have HA : Adds w w8 := (hA.drew.trans' k7 (fun q hq h => by omega)).trans' k8 (fun q hq h => by omega)
            have R8 := R7.keeps k8 hrq
            clear hA k7 k8 R7 C1 C2
            go_wp2
            go_roundw
            case rel =>
              refine ⟨j + 1, by omega, by go_num, ?_, ?_, HA⟩
              · rw [HD.out]; exact R8
              · rw [HD.out]; exact Q8
            case measure => simp [intOf]; omega
          · obtain rfl : j = i := by omega
            rw [Nat.sub_self, encs, List.nil_append] at R Q
            have hTl := encText_len s hl1
            go_wp2_with fail
            refine (rText_any rb _ (by simp only [stLen, List.length_append, List.length_cons]; omega) _ (by omega) _ R).mono ?_
            rw [rdText_enc (by omega) (by omega)]
            rintro e w7 ⟨rfl, R7, k7⟩
            have Q7 := Q.keeps k7 hqr
            have A7 := hA.trans' k7 (fun q hq h => by omega)
            replace R7 : RdAt rb (some (encFlag true ++ t2)) w7 := by rw [encFlag_true]; exact R7
            clear k7 hA R Q
            go_wp2_with fail
            refine (rFlag_any rb _ (by have := encFlag_len true; simp only [stLen, List.length_append]; omega) _ R7).mono ?_
            rw [rdFlag_true]
            rintro e w8 ⟨rfl, R8, k8⟩
            have Q8 := Q7.keeps k8 hqr
            have A8 := A7.trans' k8 (fun q hq h => by omega)
            replace R8 : RdAt rb (some t2) w8 := R8
            clear k8 A7 R7 Q7
            go_wp2_with fail
            refine (rText_any qb _ (by simp only [stLen, List.length_append, List.length_cons, List.length_nil]; omega) _ (by omega) _ Q8).mono ?_
            rw [rdText_enc (by omega) (by omega)]
            rintro e w9 ⟨rfl, Q9, k9⟩
            have R9 := R8.keeps k9 hrq
            have A9 := A8.trans' k9 (fun q hq h => by omega)
            replace Q9 : RdAt qb (some [1]) w9 := Q9
            clear k9 A8 R8 Q8
            go_wp2_with fail
            refine (rFlag_any qb _ (by decide) _ Q9).mono ?_
            rw [rdFlag_cut]
            rintro e w10 ⟨rfl, Q10, k10⟩
            have R10 := R9.keeps k10 hrq
            have A10 := A9.trans' k10 (fun q hq h => by omega)
            replace Q10 : RdAt qb none w10 := Q10
            clear k10 A9 R9 Q9
            go_wp2_with fail
            refine (rLeft_any rb _ (by simp only [stLen]; omega) _ R10).mono ?_
            rintro e w11 ⟨rfl, rfl⟩
            simp only [stLen]
            go_wp2_with fail
            refine (l03short_any l2 20 _ rfl _).mono ?_
            rintro e w11 ⟨rfl, rfl⟩
            rw [HT2.out]
            go_wp2_with (go_at_call 21; refine (rGood_any qb none _ Q10).mono ?_; rintro e w11 ⟨rfl, rfl⟩)
            go_ret
            exact ⟨rfl, Adds.below A10⟩

end Go.Proofs.Ytbfclkjbgicncaa
