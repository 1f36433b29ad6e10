
/- CRC-32, plainly. -/
namespace Go.Proofs.YtdoenmokahbeaaaGreatDoor
set_option linter.unusedVariables false
set_option linter.unusedSimpArgs false

def poly : Nat := 3988292384
def stp (n : Nat) : Nat := (n / 2) ^^^ (if n % 2 = 1 then poly else 0)
def stpN : Nat → Nat → Nat
  | 0, n => n
  | k + 1, n => stp (stpN k n)
theorem xor_lt {a b k : Nat} (ha : a < 2 ^ k) (hb : b < 2 ^ k) : a ^^^ b < 2 ^ k := Nat.xor_lt_two_pow ha hb
theorem stp_lt {n : Nat} (h : n < 4294967296) : stp n < 4294967296 := by
  unfold stp
  refine xor_lt (k := 32) (by omega) ?_
  unfold poly; split <;> decide
theorem stpN_lt {n : Nat} (h : n < 4294967296) : ∀ k, stpN k n < 4294967296
  | 0 => h
  | k + 1 => stp_lt (stpN_lt h k)
theorem xor_div2 (a b : Nat) : (a ^^^ b) / 2 = (a / 2) ^^^ (b / 2) := by
  refine Nat.eq_of_testBit_eq fun i => ?_
  rw [← Nat.testBit_succ, Nat.testBit_xor, Nat.testBit_xor, Nat.testBit_succ, Nat.testBit_succ]
theorem xor_mod2 (a b : Nat) : (a ^^^ b) % 2 = (a + b) % 2 := by
  have h1 := Nat.testBit_xor (x := a) (y := b) (i := 0)
  simp only [Nat.testBit_zero] at h1
  have ha := Nat.mod_two_eq_zero_or_one a
  have hb := Nat.mod_two_eq_zero_or_one b
  have hx := Nat.mod_two_eq_zero_or_one (a ^^^ b)
  rcases ha with ha | ha <;> rcases hb with hb | hb <;> rcases hx with hx | hx <;> simp [ha, hb, hx] at h1 <;> omega
theorem xor_swap (a b c d : Nat) : (a ^^^ b) ^^^ (c ^^^ d) = (a ^^^ c) ^^^ (b ^^^ d) := by
  rw [Nat.xor_assoc, Nat.xor_assoc, ← Nat.xor_assoc b c d, Nat.xor_comm b c, Nat.xor_assoc c b d]
theorem stp_xor (a b : Nat) : stp (a ^^^ b) = stp a ^^^ stp b := by
  unfold stp
  rw [xor_div2, xor_mod2, xor_swap]
  congr 1
  have ha := Nat.mod_two_eq_zero_or_one a
  have hb := Nat.mod_two_eq_zero_or_one b
  rcases ha with ha | ha <;> rcases hb with hb | hb
  · rw [if_neg (by omega), if_neg (by omega), if_neg (by omega)]; simp
  · rw [if_pos (by omega), if_neg (by omega), if_pos (by omega)]; simp
  · rw [if_pos (by omega), if_pos (by omega), if_neg (by omega)]; simp
  · rw [if_neg (by omega), if_pos (by omega), if_pos (by omega)]; simp
theorem stpN_xor (a b : Nat) : ∀ k, stpN k (a ^^^ b) = stpN k a ^^^ stpN k b
  | 0 => rfl
  | k + 1 => by rw [stpN, stpN_xor a b k, stp_xor]; rfl
theorem stp_even (m : Nat) : stp (m * 2) = m := by
  unfold stp
  rw [if_neg (by omega), Nat.mul_div_cancel _ (by decide)]; simp
theorem stpN_up : ∀ (k m : Nat), stpN k (m * 2 ^ k) = m
  | 0, m => by simp [stpN]
  | k + 1, m => by
    have : m * 2 ^ (k + 1) = (m * 2) * 2 ^ k := by rw [Nat.pow_succ, Nat.mul_assoc, Nat.mul_comm 2]
    rw [this, stpN, stpN_up k (m * 2), stp_even]
theorem split256 (x : Nat) : x = (x / 256 * 256) ^^^ (x % 256) := by
  refine Nat.eq_of_testBit_eq fun i => ?_
  rw [Nat.testBit_xor, show (256 : Nat) = 2 ^ 8 from rfl, Nat.testBit_mul_two_pow, Nat.testBit_div_two_pow, Nat.testBit_mod_two_pow]
  by_cases h : i < 8
  · simp [h, show ¬ 8 ≤ i by omega]
  · simp [h, show 8 ≤ i by omega, show i - 8 + 8 = i by omega]
theorem tab_ok (x : Nat) : stpN 8 x = stpN 8 (x % 256) ^^^ (x / 256) := by
  conv => lhs; rw [split256 x]
  rw [stpN_xor, show x / 256 * 256 = x / 256 * 2 ^ 8 from rfl, stpN_up, Nat.xor_comm]
theorem xor_mod256 {n c : Nat} (hc : c < 256) : (n ^^^ c) % 256 = (n % 256) ^^^ c := by
  refine Nat.eq_of_testBit_eq fun i => ?_
  rw [show (256 : Nat) = 2 ^ 8 from rfl, Nat.testBit_mod_two_pow, Nat.testBit_xor, Nat.testBit_xor, Nat.testBit_mod_two_pow]
  by_cases h : i < 8
  · simp [h]
  · have : c.testBit i = false := Nat.testBit_lt_two_pow (Nat.lt_of_lt_of_le hc (Nat.pow_le_pow_right (n := 2) (by decide) (show 8 ≤ i by omega)))
    simp [h, this]
theorem xor_div256 {n c : Nat} (hc : c < 256) : (n ^^^ c) / 256 = n / 256 := by
  refine Nat.eq_of_testBit_eq fun i => ?_
  rw [show (256 : Nat) = 2 ^ 8 from rfl, Nat.testBit_div_two_pow, Nat.testBit_div_two_pow, Nat.testBit_xor]
  have : c.testBit (i + 8) = false := Nat.testBit_lt_two_pow (Nat.lt_of_lt_of_le hc (Nat.pow_le_pow_right (n := 2) (by decide) (show 8 ≤ i + 8 by omega)))
  simp [this]
/-- one byte more -/
def upd (n : Nat) (c : UInt8) : Nat := stpN 8 (n ^^^ c.toNat)
theorem u8_lt (c : UInt8) : c.toNat < 256 := c.toNat_lt
theorem upd_tab (n : Nat) (c : UInt8) : upd n c = stpN 8 ((n % 256) ^^^ c.toNat) ^^^ (n / 256) := by
  rw [upd, tab_ok, xor_mod256 (u8_lt c), xor_div256 (u8_lt c)]
theorem upd_lt {n : Nat} (h : n < 4294967296) (c : UInt8) : upd n c < 4294967296 := stpN_lt (xor_lt (k := 32) h (Nat.lt_trans (u8_lt c) (by decide))) 8
def crcF (n : Nat) (l : List UInt8) : Nat := l.foldl upd n
theorem crcF_lt {n : Nat} (h : n < 4294967296) : ∀ l, crcF n l < 4294967296 := fun l => by
  unfold crcF
  induction l generalizing n with
  | nil => exact h
  | cons c l ih => exact ih (upd_lt h c)
theorem crcF_snoc (n : Nat) (l : List UInt8) (c : UInt8) : crcF n (l ++ [c]) = upd (crcF n l) c := by simp [crcF]
theorem crcF_app (n : Nat) (l m : List UInt8) : crcF n (l ++ m) = crcF (crcF n l) m := by simp [crcF]
def crc (l : List UInt8) : Nat := 4294967295 - crcF 4294967295 l
theorem crc_lt (l : List UInt8) : crc l < 4294967296 := by unfold crc; omega

/-! a byte turned is told -/
theorem stp_top {n : Nat} (h : n < 4294967296) : (stp n).testBit 31 = decide (n % 2 = 1) := by
  unfold stp
  rw [Nat.testBit_xor, Nat.testBit_lt_two_pow (show n / 2 < 2 ^ 31 by omega)]
  by_cases e : n % 2 = 1
  · rw [if_pos e, decide_eq_true e]; decide
  · rw [if_neg e, decide_eq_false e]; simp
theorem xor_cancel {a b c : Nat} (h : a ^^^ c = b ^^^ c) : a = b := by
  have := congrArg (· ^^^ c) h
  simpa [Nat.xor_assoc] using this
theorem stp_inj {a b : Nat} (ha : a < 4294967296) (hb : b < 4294967296) (h : stp a = stp b) : a = b := by
  have h1 := stp_top ha
  have h2 := stp_top hb
  rw [h, h2] at h1
  have h3 : (a % 2 = 1) ↔ (b % 2 = 1) := by simpa using h1.symm
  unfold stp at h
  by_cases e : a % 2 = 1
  · rw [if_pos e, if_pos (h3.1 e)] at h
    have := xor_cancel h
    have := h3.1 e; omega
  · have e' : ¬ b % 2 = 1 := fun x => e (h3.2 x)
    rw [if_neg e, if_neg e'] at h
    simp at h; omega
theorem stpN_inj {a b : Nat} (ha : a < 4294967296) (hb : b < 4294967296) : ∀ k, stpN k a = stpN k b → a = b
  | 0, h => h
  | k + 1, h => stpN_inj ha hb k (stp_inj (stpN_lt ha k) (stpN_lt hb k) h)
theorem upd_inj {a b : Nat} (ha : a < 4294967296) (hb : b < 4294967296) {c : UInt8} (h : upd a c = upd b c) : a = b :=
  xor_cancel (stpN_inj (xor_lt (k := 32) ha (Nat.lt_trans (u8_lt c) (by decide))) (xor_lt (k := 32) hb (Nat.lt_trans (u8_lt c) (by decide))) 8 h)
theorem upd_byte {a : Nat} (ha : a < 4294967296) {c d : UInt8} (h : upd a c = upd a d) : c = d := by
  have := stpN_inj (xor_lt (k := 32) ha (Nat.lt_trans (u8_lt c) (by decide))) (xor_lt (k := 32) ha (Nat.lt_trans (u8_lt d) (by decide))) 8 h
  rw [Nat.xor_comm a, Nat.xor_comm a] at this
  exact UInt8.toNat_inj.1 (xor_cancel this)
theorem crcF_inj {a b : Nat} (ha : a < 4294967296) (hb : b < 4294967296) : ∀ {l : List UInt8}, crcF a l = crcF b l → a = b := fun {l} h => by
  induction l generalizing a b with
  | nil => exact h
  | cons c l ih => exact upd_inj ha hb (ih (upd_lt ha c) (upd_lt hb c) h)
/-- one byte turned: another sum -/
theorem crc_set {l : List UInt8} {k : Nat} (hk : k < l.length) {c : UInt8} (h : crc (l.set k c) = crc l) : l.set k c = l := by
  have hl : l = l.take k ++ l[k] :: l.drop (k + 1) := by rw [← List.drop_eq_getElem_cons hk, List.take_append_drop]
  have hs : l.set k c = l.take k ++ c :: l.drop (k + 1) := by rw [List.set_eq_take_append_cons_drop, if_pos hk]
  have hF : crcF 4294967295 (l.set k c) = crcF 4294967295 l := by
    have h1 := crcF_lt (n := 4294967295) (by decide) (l.set k c)
    have h2 := crcF_lt (n := 4294967295) (by decide) l
    unfold crc at h; omega
  rw [hs] at hF ⊢
  conv at hF => rhs; rw [hl]
  rw [crcF_app, crcF_app] at hF
  have hp := crcF_lt (n := 4294967295) (by decide) (l.take k)
  have h3 : upd (crcF 4294967295 (l.take k)) c = upd (crcF 4294967295 (l.take k)) l[k] := crcF_inj (upd_lt hp _) (upd_lt hp _) (l := l.drop (k + 1)) hF
  rw [upd_byte hp h3, ← hl]

end Go.Proofs.YtdoenmokahbeaaaGreatDoor
