
/- Sectors of cells, plainly. -/
import Derived.Test.YtdoenmokahbeaaaGreatDoorCr0
import Derived.Test.YtdoenmokahbeaaaGreatDoorPure3
namespace Go.Proofs.YtdoenmokahbeaaaGreatDoor
set_option linter.unusedVariables false
set_option linter.unusedSimpArgs false

/-- A number in so many bytes. -/
def be : Nat → Nat → List UInt8
  | 0, _ => []
  | k + 1, n => be k (n / 256) ++ [UInt8.ofNat (n % 256)]
theorem be_len : ∀ k n, (be k n).length = k
  | 0, _ => rfl
  | k + 1, n => by simp [be, be_len k]
theorem pow256 (k : Nat) : 256 ^ (k + 1) = 256 * 256 ^ k := by rw [Nat.pow_succ, Nat.mul_comm]
theorem be_cons : ∀ k n, be (k + 1) n = UInt8.ofNat (n / 256 ^ k % 256) :: be k n
  | 0, n => by simp [be]
  | k + 1, n => by
    rw [be, be_cons k (n / 256), be, List.cons_append, Nat.div_div_eq_div_mul, ← pow256]
theorem beval_be : ∀ k n, n < 256 ^ k → beval (be k n) = n
  | 0, n, h => by simp at h; subst h; rfl
  | k + 1, n, h => by
    rw [pow256] at h
    rw [be, beval_snoc, beval_be k (n / 256) (by omega), u8_toNat_ofNat]; omega
theorem be_beval : ∀ (k : Nat) (l : List UInt8), l.length = k → be k (beval l) = l
  | 0, l, h => by rw [List.eq_nil_of_length_eq_zero h]; rfl
  | k + 1, l, h => by
    have hne : l ≠ [] := fun e => by rw [e] at h; simp at h
    have hl := (List.dropLast_concat_getLast hne).symm
    have hk : l.dropLast.length = k := by simp [h]
    rw [hl, beval_snoc, be]
    have hc := (l.getLast hne).toNat_lt
    have e1 : (beval l.dropLast * 256 + (l.getLast hne).toNat) / 256 = beval l.dropLast := by omega
    have e2 : (beval l.dropLast * 256 + (l.getLast hne).toNat) % 256 = (l.getLast hne).toNat := by omega
    rw [e1, e2, be_beval k _ hk]
    simp
theorem be_inj {k a b : Nat} (ha : a < 256 ^ k) (hb : b < 256 ^ k) (h : be k a = be k b) : a = b := by
  rw [← beval_be k a ha, h, beval_be k b hb]
theorem be_get : ∀ (k n i : Nat), i < k → (be k n)[i]? = some (UInt8.ofNat (n / 256 ^ (k - 1 - i) % 256))
  | 0, n, i, h => by omega
  | k + 1, n, 0, h => by rw [be_cons]; simp
  | k + 1, n, i + 1, h => by rw [be_cons, List.getElem?_cons_succ, be_get k n i (by omega), show k + 1 - 1 - (i + 1) = k - 1 - i by omega]
theorem be_take {k n : Nat} {i : Nat} (h : i < k) : (be k n).take i ++ [UInt8.ofNat (n / 256 ^ (k - 1 - i) % 256)] = (be k n).take (i + 1) := by
  rw [List.take_add_one, be_get k n i h]; rfl
theorem be4 (s : Nat) : be 4 s = [UInt8.ofNat (s / 16777216 % 256), UInt8.ofNat (s / 65536 % 256), UInt8.ofNat (s / 256 % 256), UInt8.ofNat (s % 256)] := by
  rw [be_cons, be_cons, be_cons, be_cons, be]; simp

/-- A cell's sector. -/
def tagsS (e n : Nat) : List UInt8 := be 8 e ++ be 8 n
def makeS (p : List UInt8) (e n : Nat) : List UInt8 := UInt8.ofNat p.length :: (be 4 (crc (p ++ tagsS e n)) ++ (p ++ (List.replicate (43 - p.length) 0 ++ tagsS e n)))
theorem tagsS_len (e n : Nat) : (tagsS e n).length = 16 := by simp [tagsS, be_len]
theorem makeS_len {p : List UInt8} (h : p.length ≤ 43) (e n : Nat) : (makeS p e n).length = 64 := by
  simp [makeS, be_len, tagsS_len]; omega
def payS (s : List UInt8) : List UInt8 := (s.drop 5).take (s.headD 0).toNat
def epS (s : List UInt8) : Nat := beval ((s.drop 48).take 8)
def nuS (s : List UInt8) : Nat := beval (s.drop 56)
def isCell (s : List UInt8) : Prop := s.length = 64 ∧ (s.headD 0).toNat ≤ 43 ∧ makeS (payS s) (epS s) (nuS s) = s
instance (s : List UInt8) : Decidable (isCell s) := by unfold isCell; infer_instance
theorem epS_lt {s : List UInt8} (h : s.length = 64) : epS s < 18446744073709551616 := by
  have := beval_lt ((s.drop 48).take 8)
  rw [show ((s.drop 48).take 8).length = 8 by simp [h]] at this
  exact this
theorem nuS_lt {s : List UInt8} (h : s.length = 64) : nuS s < 18446744073709551616 := by
  have := beval_lt (s.drop 56)
  rw [show (s.drop 56).length = 8 by simp [h]] at this
  exact this
section
variable {p : List UInt8} {e n : Nat}
theorem make_tag (h : p.length ≤ 43) : (makeS p e n).drop 48 = tagsS e n := by
  have : (UInt8.ofNat p.length :: (be 4 (crc (p ++ tagsS e n)) ++ (p ++ List.replicate (43 - p.length) 0))).length = 48 := by simp [be_len]; omega
  have e2 : makeS p e n = (UInt8.ofNat p.length :: (be 4 (crc (p ++ tagsS e n)) ++ (p ++ List.replicate (43 - p.length) 0))) ++ tagsS e n := by simp [makeS]
  rw [e2, ← this, List.drop_left]
theorem make_ep (h : p.length ≤ 43) (he : e < 18446744073709551616) : epS (makeS p e n) = e := by
  unfold epS
  rw [make_tag h, tagsS, List.take_left' (be_len 8 e)]
  exact beval_be 8 e he
theorem make_nu (h : p.length ≤ 43) (hn : n < 18446744073709551616) : nuS (makeS p e n) = n := by
  unfold nuS
  have : (makeS p e n).drop 56 = ((makeS p e n).drop 48).drop 8 := by rw [List.drop_drop]
  rw [this, make_tag h, tagsS, List.drop_left' (be_len 8 e)]
  exact beval_be 8 n hn
theorem make_head (h : p.length ≤ 43) : ((makeS p e n).headD 0).toNat = p.length := by
  simp only [makeS, List.headD_cons]
  have := u8_toNat_ofNat p.length
  rw [Nat.mod_eq_of_lt (by omega)] at this
  exact this
theorem make_pay (h : p.length ≤ 43) : payS (makeS p e n) = p := by
  unfold payS
  rw [make_head h]
  have : (makeS p e n).drop 5 = p ++ (List.replicate (43 - p.length) 0 ++ tagsS e n) := by
    rw [makeS, List.drop_succ_cons, List.drop_left' (be_len 4 _)]
  rw [this, List.take_left]
theorem make_cell (h : p.length ≤ 43) (he : e < 18446744073709551616) (hn : n < 18446744073709551616) : isCell (makeS p e n) :=
  ⟨makeS_len h e n, by rw [make_head h]; exact h, by rw [make_pay h, make_ep h he, make_nu h hn]⟩
end
/-- A sector's parts. -/
theorem parts {s : List UInt8} (h : s.length = 64) (h0 : (s.headD 0).toNat ≤ 43) : s = (s.headD 0) :: ((s.drop 1).take 4 ++ (payS s ++ (((s.take 48).drop (5 + (s.headD 0).toNat)) ++ s.drop 48))) := by
  match s, h, h0 with
  | c :: t, h, h0 =>
    simp only [List.headD_cons] at h0
    simp only [List.headD_cons, payS, List.drop_succ_cons, List.drop_zero, List.take_succ_cons, List.cons.injEq, true_and]
    simp at h
    have e1 : t = t.take 4 ++ t.drop 4 := (List.take_append_drop 4 t).symm
    have e2 : t.drop 4 = (t.drop 4).take c.toNat ++ (t.drop 4).drop c.toNat := (List.take_append_drop _ _).symm
    have e3 : (t.drop 4).drop c.toNat = ((t.take 47).drop (4 + c.toNat)) ++ t.drop 47 := by
      rw [List.drop_drop]
      conv => lhs; rw [← List.take_append_drop 47 t]
      rw [List.drop_append_of_le_length (by simp; omega)]
    rw [show 5 + c.toNat = (4 + c.toNat) + 1 by omega, List.drop_succ_cons]
    conv => lhs; rw [e1, e2, e3]
theorem tag_back {s : List UInt8} (h : s.length = 64) : tagsS (epS s) (nuS s) = s.drop 48 := by
  unfold tagsS epS nuS
  rw [be_beval 8 _ (by simp [h]), be_beval 8 _ (by simp [h])]
  have : s.drop 56 = (s.drop 48).drop 8 := by rw [List.drop_drop]
  rw [this, List.take_append_drop]
/-- What the program's reader asks. -/
theorem cell_iff {s : List UInt8} (h : s.length = 64) (h0 : (s.headD 0).toNat ≤ 43) : isCell s ↔ crc (payS s ++ s.drop 48) = beval ((s.drop 1).take 4) ∧ (s.take 48).drop (5 + (s.headD 0).toNat) = List.replicate (43 - (s.headD 0).toNat) 0 := by
  have hp : (payS s).length = (s.headD 0).toNat := by simp only [payS, List.length_take, List.length_drop]; omega
  have hm : makeS (payS s) (epS s) (nuS s) = (s.headD 0) :: (be 4 (crc (payS s ++ s.drop 48)) ++ (payS s ++ (List.replicate (43 - (s.headD 0).toNat) 0 ++ s.drop 48))) := by
    unfold makeS
    rw [tag_back h, hp]
    simp
  have h4 : ((s.drop 1).take 4).length = 4 := by simp [h]
  unfold isCell
  constructor
  · rintro ⟨_, _, e⟩
    rw [hm] at e
    conv at e => rhs; rw [parts h h0]
    rw [List.cons.injEq] at e
    obtain ⟨_, e⟩ := e
    obtain ⟨e1, e⟩ := List.append_inj e (by rw [be_len, h4])
    obtain ⟨_, e⟩ := List.append_inj e rfl
    obtain ⟨e2, _⟩ := List.append_inj e (by simp only [List.length_replicate, List.length_drop, List.length_take]; omega)
    refine ⟨?_, e2.symm⟩
    rw [← e1, beval_be 4 _ (crc_lt _)]
  · rintro ⟨e1, e2⟩
    refine ⟨h, h0, ?_⟩
    rw [hm, e1, be_beval 4 _ h4, ← e2]
    exact (parts h h0).symm

/-- one byte turned behind the first one -/
theorem torn_byte {s : List UInt8} (hc : isCell s) {k : Nat} (hk : 1 ≤ k) (hk2 : k < 64) {c : UInt8} (h : isCell (s.set k c)) : s.set k c = s := by
  obtain ⟨h64, h0, hc0⟩ := hc
  have hc : isCell s := ⟨h64, h0, hc0⟩
  have hp : (payS s).length = (s.headD 0).toNat := by simp only [payS, List.length_take, List.length_drop]; omega
  have hh : (s.set k c).headD 0 = s.headD 0 := by
    match s, k, hk with
    | x :: t, k + 1, _ => rfl
    | [], _, _ => rfl
  have hl : (s.set k c).length = 64 := by simpa using h64
  obtain ⟨a1, a2⟩ := (cell_iff h64 h0).1 hc
  obtain ⟨b1, b2⟩ := (cell_iff hl (by rw [hh]; exact h0)).1 h
  rw [hh] at b2
  have P := parts h64 h0
  have Q := parts hl (by rw [hh]; exact h0)
  rw [hh] at Q
  by_cases k5 : k < 5
  · -- the sum's bytes: what it is of is as it was
    have e1 : payS (s.set k c) = payS s := by
      unfold payS; rw [hh, List.drop_set_of_lt (by omega)]
    have e2 : (s.set k c).drop 48 = s.drop 48 := by rw [List.drop_set_of_lt (by omega)]
    have e3 : ((s.set k c).drop 1).take 4 = (s.drop 1).take 4 := by
      have l1 : (((s.set k c).drop 1).take 4).length = 4 := by simp [h64]
      have l2 : ((s.drop 1).take 4).length = 4 := by simp [h64]
      rw [← be_beval 4 _ l1, ← be_beval 4 _ l2, ← a1, ← b1, e1, e2]
    rw [Q, e3, e1, e2, b2]
    conv => rhs; rw [P, a2]
  · have e3 : ((s.set k c).drop 1).take 4 = (s.drop 1).take 4 := by
      rw [List.take_drop, List.take_drop, List.take_set_of_le (by omega)]
    rw [e3, ← a1] at b1
    by_cases kp : k < 5 + (s.headD 0).toNat
    · have e2 : (s.set k c).drop 48 = s.drop 48 := by rw [List.drop_set_of_lt (by omega)]
      have e1 : payS (s.set k c) = (payS s).set (k - 5) c := by
        unfold payS; rw [hh, List.drop_set, if_neg (by omega), List.take_set]
      rw [e2, e1] at b1
      have e4 : (payS s).set (k - 5) c ++ s.drop 48 = (payS s ++ s.drop 48).set (k - 5) c := by
        rw [List.set_append, if_pos (by omega)]
      rw [e4] at b1
      have e5 := crc_set (by rw [List.length_append]; omega) b1
      rw [← e4] at e5
      have e6 := List.append_cancel_right e5
      rw [Q, e3, e1, e6, e2, b2]
      conv => rhs; rw [P, a2]
    · have e1 : payS (s.set k c) = payS s := by
        unfold payS; rw [hh, List.drop_set, if_neg (by omega), List.take_set_of_le (by omega)]
      by_cases k48 : k < 48
      · have e2 : (s.set k c).drop 48 = s.drop 48 := by rw [List.drop_set_of_lt (by omega)]
        rw [Q, e3, e1, e2, b2]
        conv => rhs; rw [P, a2]
      · have e2 : (s.set k c).drop 48 = (s.drop 48).set (k - 48) c := by rw [List.drop_set, if_neg (by omega)]
        rw [e1, e2] at b1
        have e4 : payS s ++ (s.drop 48).set (k - 48) c = (payS s ++ s.drop 48).set ((payS s).length + (k - 48)) c := by
          rw [List.set_append, if_neg (by omega)]; simp
        rw [e4] at b1
        have e5 := crc_set (by rw [List.length_append, List.length_drop]; omega) b1
        rw [← e4] at e5
        have e6 := List.append_cancel_left e5
        rw [Q, e3, e1, e2, e6, b2]
        conv => rhs; rw [P, a2]
/-- torn sectors are known -/
theorem torn {p old : List UInt8} {e n k : Nat} (hp : p.length ≤ 43) (he : e < 18446744073709551616) (hn : n < 18446744073709551616) (ho : old.length = 64) (hk : k ≤ 64) (hne : ¬ (epS old = e ∧ nuS old = n)) :
    (isCell ((makeS p e n).take k ++ old.drop k) ∧ epS ((makeS p e n).take k ++ old.drop k) = e ∧ nuS ((makeS p e n).take k ++ old.drop k) = n) ↔ (makeS p e n).take k ++ old.drop k = makeS p e n := by
  have hl := makeS_len hp e n
  constructor
  · rintro ⟨h1, h2, h3⟩
    have ht : ((makeS p e n).take k ++ old.drop k).length = 64 := by simp [hl, ho]; omega
    have e1 := tag_back ht
    rw [h2, h3, ← make_tag (p := p) hp] at e1
    by_cases k48 : k ≤ 48
    · exfalso
      have e2 : ((makeS p e n).take k ++ old.drop k).drop 48 = old.drop 48 := by
        rw [List.drop_append, List.drop_of_length_le (by simp; omega)]
        simp [hl]
        congr 1; omega
      have e3 := tag_back ho
      rw [e2, make_tag hp] at e1
      rw [← e1] at e3
      unfold tagsS at e3
      obtain ⟨e4, e5⟩ := List.append_inj e3 (by rw [be_len, be_len])
      exact hne ⟨be_inj (epS_lt ho) he e4, be_inj (nuS_lt ho) hn e5⟩
    · have e2 : ((makeS p e n).take k ++ old.drop k).take 48 = (makeS p e n).take 48 := by
        rw [List.take_append_of_le_length (by simp [hl]; omega), List.take_take, Nat.min_eq_left (by omega)]
      rw [← List.take_append_drop 48 ((makeS p e n).take k ++ old.drop k), e2, ← e1, List.take_append_drop]
  · intro h
    rw [h]
    exact ⟨make_cell hp he hn, make_ep hp he, make_nu hp hn⟩

/-! trims -/
theorem trimR_step {l : List UInt8} {n : Nat} {c : UInt8} (h : ∀ x ∈ l.drop n, x = c) (h0 : 0 < n) (hl : n ≤ l.length) (hc : l.getD (n - 1) 0 = c) : ∀ x ∈ l.drop (n - 1), x = c := by
  have : l.drop (n - 1) = l[n - 1] :: l.drop n := by
    rw [List.drop_eq_getElem_cons (by omega), show n - 1 + 1 = n by omega]
  rw [this]
  intro x hx
  rcases List.mem_cons.1 hx with rfl | hx
  · simpa [List.getD, show n - 1 < l.length by omega] using hc
  · exact h x hx
theorem trimL_step {l : List UInt8} {n : Nat} {c : UInt8} (h : ∀ x ∈ l.take n, x = c) (hl : n < l.length) (hc : (l.drop n).getD 0 0 = c) : ∀ x ∈ l.take (n + 1), x = c := by
  rw [List.take_add_one, List.getElem?_eq_getElem hl]
  intro x hx
  rcases List.mem_append.1 hx with hx | hx
  · exact h x hx
  · simp at hx
    rw [hx]
    simpa [List.getD, hl] using hc
theorem take_tr {l : List UInt8} {n : Nat} (h : n ≤ l.length) : List.take (((List.take n l).length : Int) - 1).toNat (List.take n l) = List.take (n - 1) l := by
  rw [List.length_take, Nat.min_eq_left h, List.take_take, Nat.min_eq_left (by omega)]
  congr 1; omega
theorem getD_take {l : List UInt8} {n : Nat} (h : n ≤ l.length) (h0 : 0 < n) : List.getD (List.take n l) (((List.take n l).length : Int) - 1).toNat 0 = l.getD (n - 1) 0 := by
  rw [List.length_take, Nat.min_eq_left h, show ((n : Int) - 1).toNat = n - 1 by omega]
  simp [List.getD, List.getElem?_take, show n - 1 < n by omega]
theorem trimR_at {l : List UInt8} {n : Nat} {c : UInt8} (h : n ≤ l.length) (h0 : 0 < n) (e : ((List.getD (List.take n l) (((List.take n l).length : Int) - 1).toNat 0).toNat : Int) = (c.toNat : Int)) : l.getD (n - 1) 0 = c := by
  rw [getD_take h h0] at e
  exact UInt8.toNat_inj.1 (Int.ofNat.inj e)
theorem trimR_ta {l : List UInt8} {n : Nat} {c : UInt8} (h : n ≤ l.length) (h0 : 0 < n) (e : l.getD (n - 1) 0 = c) : ((List.getD (List.take n l) (((List.take n l).length : Int) - 1).toNat 0).toNat : Int) = (c.toNat : Int) := by
  rw [getD_take h h0, e]
theorem trimL_at {l : List UInt8} {n : Nat} {c : UInt8} (e : ((List.getD (List.drop n l) (0 : Int).toNat 0).toNat : Int) = (c.toNat : Int)) : (l.drop n).getD 0 0 = c := UInt8.toNat_inj.1 (Int.ofNat.inj e)
theorem trimL_ta {l : List UInt8} {n : Nat} {c : UInt8} (e : (l.drop n).getD 0 0 = c) : ((List.getD (List.drop n l) (0 : Int).toNat 0).toNat : Int) = (c.toNat : Int) := congrArg (fun c : UInt8 => (c.toNat : Int)) e
theorem drop_tr (n : Nat) (l : List UInt8) : List.drop 1 (List.drop n l) = List.drop (n + 1) l := by rw [List.drop_drop]
theorem zeros_iff {l : List UInt8} {n : Nat} (h : l.length = n) : (∀ x ∈ l, x = 0) ↔ l = List.replicate n 0 := by
  subst h
  exact ⟨fun h => List.eq_replicate_of_mem h, fun h x hx => by rw [h] at hx; exact List.eq_of_mem_replicate hx⟩
/-- A text's parts. -/
def chunks (s : List UInt8) : List (List UInt8) := if h : s.length ≤ 43 then [s] else s.take 43 :: chunks (s.drop 43)
termination_by s.length
decreasing_by simp; omega
theorem chunks_le {s : List UInt8} (h : s.length ≤ 43) : chunks s = [s] := by rw [chunks, dif_pos h]
theorem chunks_gt {s : List UInt8} (h : ¬ s.length ≤ 43) : chunks s = s.take 43 :: chunks (s.drop 43) := by rw [chunks, dif_neg h]

end Go.Proofs.YtdoenmokahbeaaaGreatDoor
