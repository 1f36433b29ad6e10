
/- octet.Writer, and a builder: what each call turns, block by block. -/
import Derived.Test.YtfpdfjbooalgjaaBu2
import Derived.Test.YtfpdfjbooalgjaaApp
import Derived.Lib.Hide
namespace Go.Proofs.Ytfpdfjbooalgjaa
open Go.RowKit
set_option linter.unusedVariables false

/-- What a builder's call leaves: these bytes; its buffer in its block, or in a new one; nothing else has turned. -/
def WrPost (T b : Nat) (r : Option Nat) (bs : List UInt8) (w w' : World) : Prop :=
  ∃ r', BuR T 0 b r' bs w' ∧ (r' = r ∨ ∃ k, r' = some k ∧ w.heap.size ≤ k) ∧ Keeps (fun k => k = b ∨ r = some k) w w'

theorem WrPost.refl {T b : Nat} {r : Option Nat} {bs : List UInt8} {w : World} (h : BuR T 0 b r bs w) : WrPost T b r bs w w := ⟨r, h, .inl rfl, Keeps.refl _ _⟩
theorem WrPost.size {T b : Nat} {r : Option Nat} {bs : List UInt8} {w w' : World} (h : WrPost T b r bs w w') : w.heap.size ≤ w'.heap.size := by
  obtain ⟨_, _, _, k⟩ := h; exact k.size
theorem WrPost.keeps {T b : Nat} {r : Option Nat} {bs : List UInt8} {w w' : World} (h : WrPost T b r bs w w') : Keeps (fun k => k = b ∨ r = some k) w w' := by
  obtain ⟨_, _, _, k⟩ := h; exact k
/-- Then a step of another call (which may turn the builder and its buffer). -/
theorem WrPost.step {T b : Nat} {r : Option Nat} {bs bs' : List UInt8} {w w1 w2 : World} (h : WrPost T b r bs w w1) (g : ∀ r1, BuR T 0 b r1 bs w1 → WrPost T b r1 bs' w1 w2) : WrPost T b r bs' w w2 := by
  obtain ⟨r1, h1, n1, k1⟩ := h
  obtain ⟨r2, h2, n2, k2⟩ := g r1 h1
  have hs := k1.size
  refine ⟨r2, h2, ?_, k1.trans' k2 (fun i hi hx => ?_)⟩
  · rcases n2 with rfl | ⟨k, rfl, hk⟩
    · exact n1
    · exact .inr ⟨k, rfl, by omega⟩
  · rcases hx with hx | hx
    · exact .inl hx
    · rcases n1 with rfl | ⟨k, rfl, hk⟩
      · exact .inr hx
      · cases hx; omega
/-- Then a step that leaves the builder alone. -/
theorem WrPost.then {T b : Nat} {r : Option Nat} {bs : List UInt8} {w w1 w2 : World} (h : WrPost T b r bs w w1) (k : Adds w1 w2) : WrPost T b r bs w w2 := by
  obtain ⟨r1, h1, n1, k1⟩ := h
  exact ⟨r1, h1.keeps k id (fun _ _ x => x), n1, k1.trans (k.any _)⟩
theorem WrPost.drewN {T b : Nat} {r : Option Nat} {bs : List UInt8} {w w1 : World} (h : WrPost T b r bs w w1) (n : Nat) : WrPost T b r bs w (w1.drewN n) := h.then ((Keeps.refl _ _).drewN n)
theorem WrPost.drew {T b : Nat} {r : Option Nat} {bs : List UInt8} {w w1 : World} (h : WrPost T b r bs w w1) : WrPost T b r bs w w1.drew := h.then ((Keeps.refl _ _).drew)
theorem WrPost.alloc {T b : Nat} {r : Option Nat} {bs : List UInt8} {w w1 : World} (h : WrPost T b r bs w w1) (o : Obj) : WrPost T b r bs w (w1.alloc o) := h.then ((Keeps.refl _ _).alloc o)
theorem WrPost.eq {T b : Nat} {r : Option Nat} {bs bs' : List UInt8} {w w1 : World} (h : WrPost T b r bs w w1) (e : bs = bs') : WrPost T b r bs' w w1 := e ▸ h
/-- A builder that is new in w: behind it nothing of w has turned. -/
theorem WrPost.adds {T b : Nat} {bs : List UInt8} {w w1 w2 : World} {r : Option Nat} (h : WrPost T b r bs w1 w2) (k : Adds w w1) (hb : w.heap.size ≤ b) (hr : ∀ i, r = some i → w.heap.size ≤ i) : Adds w w2 :=
  k.trans' h.keeps (fun i hi hx => by rcases hx with hx | hx; omega; have := hr i hx; omega)
theorem BuR.new0 (T : Nat) (w : World) : BuR T 0 w.heap.size none [] (w.alloc (.cells #[.pointer none, .slice none 0 0] T)) :=
  ⟨_, _, .inl rfl, heap_alloc_new' w _, World.ownsRowF_nil _ _ _ _, by simp [Value.ownBlock], rfl⟩
theorem BuR.base {T B b : Nat} {r : Option Nat} {bs : List UInt8} {w : World} (h : BuR T B b r bs w) : BuR T 0 b r bs w := by
  obtain ⟨p, v, h1, h2, h3, h4⟩ := h
  exact ⟨p, v, h1, h2, ownsRowF_weaken h3 (Nat.zero_le _), h4⟩

theorem sbCopyCheck_r (T b : Nat) (r : Option Nat) (hT : BuT T) (bs : List UInt8) (w : World) (h : BuR T 0 b r bs w) :
    Calls Try.prog 74 #[.pointer (some ⟨b, 0, none⟩)] w fun e w' => e = .returned (.tuple #[]) ∧ ∃ v, (BuUs T 0 b v bs w' ∧ v.ownBlock = r) ∧ Keeps (fun k => k = b) w w' := by
  have hsh := h.at.shape
  obtain ⟨p, v, hp, hb, hown, hne, hr⟩ := h
  rcases hp with rfl | rfl
  · refine (sbCopyCheck_fresh T b hT w (cell_at hb 0 rfl) hsh (free_at hb 0)).mono ?_
    rintro e w' ⟨rfl, rfl⟩
    refine ⟨rfl, v, ⟨⟨by rw [heap_set_same hb]; rfl, ?_, hne⟩, hr⟩, (Keeps.refl _ w).setCell _ _ (fun _ => rfl)⟩
    exact hown.kept (row := some b) ⟨rfl, rfl, rfl, by simp [World.setCell], fun k _ hk => Below.heap_setCell _ _ _ _ (fun e => hk (by simp [e]))⟩ (Or.inr hne)
  · refine (sbCopyCheck_used b w (cell_at hb 0 rfl)).mono ?_
    rintro e w' ⟨rfl, rfl⟩
    exact ⟨rfl, v, ⟨⟨hb, hown, hne⟩, hr⟩, Keeps.refl _ _⟩

theorem BuUs.putR {T b : Nat} {v v' : Value} {bs' : List UInt8} {w : World} (hT : BuT T) (hb : w.heap[b]? = some (.cells #[.pointer (some ⟨b, 0, none⟩), v] T (0, 0)))
    (hown : w.ownsRowF 0 5 1 v' bs'.length (Lib.byteCells bs')) : BuR T 0 b v'.ownBlock bs' (w.setCell ⟨b, 1, none⟩ v') := by
  have hne := Lib.ownBlock_neF hown hb hT.ne
  refine ⟨_, v', .inr rfl, by rw [heap_set_same hb]; rfl, ?_, hne, rfl⟩
  exact hown.kept (row := some b) ⟨rfl, rfl, rfl, by simp [World.setCell], fun k _ hk => Below.heap_setCell _ _ _ _ (fun e => hk (by simp [e]))⟩ (Or.inr hne)

set_option maxHeartbeats 2000000 in
set_option maxRecDepth 100000 in
theorem sbWriteByte_r (T b : Nat) (r : Option Nat) (hT : BuT T) (bs : List UInt8) (c : UInt8) (x : Int) (hx : x = c.toNat) (w : World) (h : BuR T 0 b r bs w) (hlen : bs.length ≤ 1000000000) :
    Calls Try.prog 73 #[.pointer (some ⟨b, 0, none⟩), .int .u8 x] w fun e w' => e = .returned .nilIface ∧ WrPost T b r (bs ++ [c]) w w' := by
  subst hx
  obtain ⟨i0, hi, hz0, hz1, hz2⟩ := info_parts infoByte
  go_enter Try.func73, Try.ntmps73
  go_wp2_with (go_at_call 74; refine (sbCopyCheck_r T b r hT bs _ h).mono ?_)
  rintro e w1 ⟨rfl, v, ⟨⟨hbk, hown, hne⟩, hr⟩, hk⟩
  have HR := Lib.hid hr
  clear hr
  have c0 := cell_at hbk 0 rfl
  have c1 := cell_at hbk 1 rfl
  have hsz := hk.size
  go_wp2_with (at_builtin; refine wpList_append_ownX _ rfl _ _ 38 rfl 0 5 i0 (.int .u8 0) 1 1 Try.underlying38 hi hz0 hz1 hz2 rfl (by decide) _ _ _ rfl (hown.alloc _) ⟨w1.heap.size, 0, none⟩ 1 1 [.int .u8 c.toNat] rfl rfl ?c1 ?c2 ?c3 ?c4 ?c5 ?_)
  case c1 =>
    intro j u hj
    match j, hj with
    | 0, hj => simp at hj; subst hj; simp [Addr.add]
  case c2 => intro u hu; simp at hu; subst hu; rfl
  case c3 => unfold maxLen; omega
  case c4 => omega
  case c5 => exact Nat.zero_le _
  intro v' w2 hown' hgrow hnew
  have hlt := lt_of_heap hbk
  have hb2 : w2.heap[b]? = some (.cells #[.pointer (some ⟨b, 0, none⟩), v] T (0, 0)) := by
    rw [hgrow.block b (by simp; omega) (fun e => hne e.symm), Lib.alloc_old w1 _ b hlt]
    exact hbk
  have d1 := cell_at hb2 1 rfl
  have f1 := free_at hb2 1
  obtain ⟨g, cap, rfl⟩ : ∃ g cap, v' = .slice (some ⟨g, 0, none⟩) (bs.length + 1) cap := by
    rcases hown'.2 with ⟨_, h0⟩ | ⟨g, cap, cur, fz, hv, _⟩
    · omega
    · exact ⟨g, cap, hv⟩
  have HN := Lib.hid hnew
  clear hnew
  go_wp2
  go_ret
  refine ⟨rfl, _, BuUs.putR hT hb2 (bs' := bs ++ [c]) (by simpa [Lib.byteCells] using hown'), ?_, ?_⟩
  · rcases HN.out with h1 | ⟨k, h1, h2⟩
    · exact .inl (h1.trans HR.out)
    · exact .inr ⟨k, h1, by have : (w1.alloc (.cells #[.int .u8 c.toNat] 5)).heap.size = w1.heap.size + 1 := by simp
                            omega⟩
  · exact (((hk.mono (fun _ _ x => Or.inl x)).alloc _).grown hgrow (fun k hk' _ => .inr (HR.out.symm.trans hk'))).setCell _ _ (fun _ => .inl rfl)

set_option maxHeartbeats 2000000 in
set_option maxRecDepth 100000 in
theorem sbWriteString_r (T b : Nat) (r : Option Nat) (hT : BuT T) (bs : List UInt8) (l : List UInt8) (w : World) (h : BuR T 0 b r bs w) (hlen : bs.length ≤ 1000000000) (hs : l.length ≤ 1000000000) :
    Calls Try.prog 71 #[.pointer (some ⟨b, 0, none⟩), .string ⟨l.toArray⟩] w fun e w' => e = .returned (.tuple #[.int .i64 l.length, .nilIface]) ∧ WrPost T b r (bs ++ l) w w' := by
  obtain ⟨i0, hi, hz0, hz1, hz2⟩ := info_parts infoByte
  have hsl : (⟨l.toArray⟩ : ByteArray).size = l.length := rfl
  go_enter Try.func71, Try.ntmps71
  go_wp2_with (go_at_call 74; refine (sbCopyCheck_r T b r hT bs _ h).mono ?_)
  rintro e w1 ⟨rfl, v, ⟨⟨hbk, hown, hne⟩, hr⟩, hk⟩
  have HR := Lib.hid hr
  clear hr
  have c0 := cell_at hbk 0 rfl
  have c1 := cell_at hbk 1 rfl
  have hsz := hk.size
  go_wp2_with (at_builtin; refine wpList_append_own_stringX _ rfl _ _ 38 9 rfl 0 5 i0 Try.underlying38 Try.underlying9 hi hz0 hz1 hz2 _ _ _ rfl hown ⟨l.toArray⟩ rfl ?c3 ?c4 ?c5 ?_)
  case c3 => unfold maxLen; omega
  case c4 => omega
  case c5 => exact Nat.zero_le _
  intro v' w2 hown' hgrow hnew
  have hb2 : w2.heap[b]? = some (.cells #[.pointer (some ⟨b, 0, none⟩), v] T (0, 0)) := by
    rw [hgrow.block b (lt_of_heap hbk) (fun e => hne e.symm)]
    exact hbk
  have d1 := cell_at hb2 1 rfl
  have f1 := free_at hb2 1
  obtain ⟨ao, n', cap, rfl⟩ : ∃ ao n' cap, v' = .slice ao n' cap := by
    rcases hown'.2 with ⟨hv, _⟩ | ⟨g, cap, cur, fz, hv, _⟩
    · exact ⟨_, _, _, hv⟩
    · exact ⟨_, _, _, hv⟩
  have HN := Lib.hid hnew
  clear hnew
  go_wp2
  go_ret2
  refine ⟨rfl, _, BuUs.putR hT hb2 (bs' := bs ++ l) ?_, ?_, ?_⟩
  · rw [List.length_append]
    simpa [Lib.byteCells, Lib.strCells_eq] using hown'
  · rcases HN.out with h1 | ⟨k, h1, h2⟩
    · exact .inl (h1.trans HR.out)
    · exact .inr ⟨k, h1, by omega⟩
  · exact ((hk.mono (fun _ _ x => Or.inl x)).grown hgrow (fun k hk' _ => .inr (HR.out.symm.trans hk'))).setCell _ _ (fun _ => .inl rfl)

theorem oPut_r (b : Nat) (r : Option Nat) (bs : List UInt8) (c : UInt8) (x : Int) (hx : x = c.toNat) (w : World) (h : BuR 64 0 b r bs w) (hlen : bs.length ≤ 1000000000) :
    Calls Try.prog 62 #[.pointer (some ⟨b, 0, none⟩), .int .u8 x] w fun e w' => e = .returned (.tuple #[]) ∧ WrPost 64 b r (bs ++ [c]) w w' := by
  subst hx
  go_enter Try.func62, Try.ntmps62
  go_wp2_with fail
  refine (sbWriteByte_r _ b r buT_Writer bs c _ rfl _ h hlen).mono ?_
  rintro e w' ⟨rfl, h1⟩
  go_wp2
  go_end0
  exact ⟨rfl, h1⟩

theorem oPuts_r (b : Nat) (r : Option Nat) (bs l : List UInt8) (w : World) (h : BuR 64 0 b r bs w) (hlen : bs.length ≤ 1000000000) (hs : l.length ≤ 1000000000) :
    Calls Try.prog 60 #[.pointer (some ⟨b, 0, none⟩), .string ⟨l.toArray⟩] w fun e w' => e = .returned (.tuple #[]) ∧ WrPost 64 b r (bs ++ l) w w' := by
  go_enter Try.func60, Try.ntmps60
  go_wp2_with fail
  refine (sbWriteString_r _ b r buT_Writer bs l _ h hlen hs).mono ?_
  rintro e w' ⟨rfl, h1⟩
  go_wp2
  go_end0
  exact ⟨rfl, h1⟩

set_option maxRecDepth 100000 in
set_option maxHeartbeats 1000000 in
theorem wNum_r (b : Nat) (r : Option Nat) (bs : List UInt8) (n : Nat) (x : Int) (hx : x = n) (hn : n < 18446744073709551616) (w : World) (h : BuR 64 0 b r bs w) (hlen : bs.length ≤ 900000000) :
    Calls Try.prog 44 #[.pointer (some ⟨b, 0, none⟩), .int .u64 x] w fun e w' => e = .returned (.pointer (some ⟨b, 0, none⟩)) ∧ WrPost 64 b r (bs ++ encNum n) w w' := by
  subst hx
  have hl8 := beb_len8 n hn
  go_enter Try.func44, Try.ntmps44
  go_wp2_with (go_at_call 61; refine (oSize_any n _ rfl _ hn).mono ?_; rintro e w' ⟨rfl, rfl⟩)
  refine (oPut_r b r bs (UInt8.ofNat (beb n).length) _ (by simp; omega) _ h (by omega)).mono ?_
  rintro e w1 ⟨rfl, h1⟩
  have hsz := h1.size
  go_wp2_with fail
  go_loopw [6, 18] (fun _ iv wr => ∃ i : Nat, i ≤ (beb n).length ∧ iv = .int .i64 i ∧ WrPost 64 b r (bs ++ [UInt8.ofNat (beb n).length] ++ (beb n).take i) w wr) (fun _ iv _ => (beb n).length - (intOf iv).toNat)
  case atStart => exact ⟨0, by omega, rfl, by simpa using h1⟩
  case round =>
    obtain ⟨i, hi, rfl, h2⟩ := hrel
    by_cases hlt : i < (beb n).length
    · go_wp2_with fail
      have p1 : (0 : Int) ≤ 8 * (↑(beb n).length - 1 - ↑i) := by omega
      have p2 : 8 * ((↑(beb n).length : Int) - 1 - ↑i) ≤ 64 := by omega
      have hd := h2.drew
      have e1 : IntKind.i64.wrap ((↑(beb n).length : Int) - 1) = ↑(beb n).length - 1 := IntWalk.i64_in _ (by omega)
      have e2 : IntKind.i64.wrap ((↑(beb n).length : Int) - 1 - ↑i) = ↑(beb n).length - 1 - ↑i := IntWalk.i64_in _ (by omega)
      have e3 : IntKind.i64.wrap (8 * ((↑(beb n).length : Int) - 1 - ↑i)) = 8 * (↑(beb n).length - 1 - ↑i) := IntWalk.i64_in _ (by omega)
      go_still_tail 11, (by kernel_rfl)
      clear e1 e2 e3
      change wpList _ _ _ _ _ wr.drew
      obtain ⟨r1, hd1, hd2, hd3⟩ := hd
      have HD : Hid (r1 = r ∨ ∃ k, r1 = some k ∧ w.heap.size ≤ k) := hd2
      clear hd2
      go_wp2_with (go_at_call 62; refine (oPut_r b r1 _ (UInt8.ofNat (n / 256 ^ ((beb n).length - 1 - i) % 256)) _ (shr_byte n _) _ hd1 (by simp; omega)).mono ?_; rintro e w2 ⟨rfl, h3⟩)
      go_roundw
      case rel =>
        refine ⟨i + 1, by omega, by go_num, ?_⟩
        rw [beb_take_succ n i hlt, ← List.append_assoc]
        have hd : WrPost 64 b r (bs ++ [UInt8.ofNat (beb n).length] ++ (beb n).take i) w wr.drew := ⟨r1, hd1, HD.out, hd3⟩
        refine hd.step (fun r2 hr2 => ?_)
        have e : r2 = r1 := by
          obtain ⟨p, v, _, hb, _, _, q⟩ := hr2
          obtain ⟨p', v', _, hb', _, _, q'⟩ := hd1
          rw [hb] at hb'
          simp only [Option.some.injEq, Obj.cells.injEq, Array.mk.injEq, List.cons.injEq] at hb'
          rw [← q, ← q', hb'.1.2.1]
        rw [e]; exact h3
      case measure => simp [intOf]; omega
    · go_wp2_with fail
      go_ret
      refine ⟨rfl, ?_⟩
      rw [List.take_of_length_le (by omega)] at h2
      simpa [encNum] using h2

end Go.Proofs.Ytfpdfjbooalgjaa
