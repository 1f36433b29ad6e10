
/- octet.Writer, and a builder: what each call turns, block by block. -/
import Derived.Test.YtdoenmokahbeaaaGreatDoorBu2
import Derived.Test.YtdoenmokahbeaaaGreatDoorApp
import Derived.Lib.Hide
namespace Go.Proofs.YtdoenmokahbeaaaGreatDoor
open Go.RowKit
set_option linter.unusedVariables false

/-- What a builder's call leaves: these bytes; its buffer in its block, or in a new one; nothing else has turned. -/
def WrPost (T b : Nat) (r : Option Nat) (bs : List UInt8) (w w' : World) : Prop :=
  ∃ r', BuR T 0 b r' bs w' ∧ (r' = r ∨ ∃ k, r' = some k ∧ w.heap.size ≤ k) ∧ Keeps (fun k => k = b ∨ r = some k) w w'

theorem WrPost.refl {T b : Nat} {r : Option Nat} {bs : List UInt8} {w : World} (h : BuR T 0 b r bs w) : WrPost T b r bs w w := ⟨r, h, .inl rfl, Keeps.refl _ _⟩
theorem WrPost.size {T b : Nat} {r : Option Nat} {bs : List UInt8} {w w' : World} (h : WrPost T b r bs w w') : w.heap.size ≤ w'.heap.size := by
  obtain ⟨_, _, _, k⟩ := h; exact k.size
theorem WrPost.keeps {T b : Nat} {r : Option Nat} {bs : List UInt8} {w w' : World} (h : WrPost T b r bs w w') : Keeps (fun k => k = b ∨ r = some k) w w' := by
  obtain ⟨_, _, _, k⟩ := h; exact k
/-- Then a step of another call (which may turn the builder and its buffer). -/
theorem WrPost.step {T b : Nat} {r : Option Nat} {bs bs' : List UInt8} {w w1 w2 : World} (h : WrPost T b r bs w w1) (g : ∀ r1, BuR T 0 b r1 bs w1 → WrPost T b r1 bs' w1 w2) : WrPost T b r bs' w w2 := by
  obtain ⟨r1, h1, n1, k1⟩ := h
  obtain ⟨r2, h2, n2, k2⟩ := g r1 h1
  have hs := k1.size
  refine ⟨r2, h2, ?_, k1.trans' k2 (fun i hi hx => ?_)⟩
  · rcases n2 with rfl | ⟨k, rfl, hk⟩
    · exact n1
    · exact .inr ⟨k, rfl, by omega⟩
  · rcases hx with hx | hx
    · exact .inl hx
    · rcases n1 with rfl | ⟨k, rfl, hk⟩
      · exact .inr hx
      · cases hx; omega
/-- Then a step that leaves the builder alone. -/
theorem WrPost.then {T b : Nat} {r : Option Nat} {bs : List UInt8} {w w1 w2 : World} (h : WrPost T b r bs w w1) (k : Adds w1 w2) : WrPost T b r bs w w2 := by
  obtain ⟨r1, h1, n1, k1⟩ := h
  exact ⟨r1, h1.keeps k id (fun _ _ x => x), n1, k1.trans (k.any _)⟩
theorem WrPost.drewN {T b : Nat} {r : Option Nat} {bs : List UInt8} {w w1 : World} (h : WrPost T b r bs w w1) (n : Nat) : WrPost T b r bs w (w1.drewN n) := h.then ((Keeps.refl _ _).drewN n)
theorem WrPost.drew {T b : Nat} {r : Option Nat} {bs : List UInt8} {w w1 : World} (h : WrPost T b r bs w w1) : WrPost T b r bs w w1.drew := h.then ((Keeps.refl _ _).drew)
theorem WrPost.alloc {T b : Nat} {r : Option Nat} {bs : List UInt8} {w w1 : World} (h : WrPost T b r bs w w1) (o : Obj) : WrPost T b r bs w (w1.alloc o) := h.then ((Keeps.refl _ _).alloc o)
theorem WrPost.eq {T b : Nat} {r : Option Nat} {bs bs' : List UInt8} {w w1 : World} (h : WrPost T b r bs w w1) (e : bs = bs') : WrPost T b r bs' w w1 := e ▸ h
/-- A builder that is new in w: behind it nothing of w has turned. -/
theorem WrPost.adds {T b : Nat} {bs : List UInt8} {w w1 w2 : World} {r : Option Nat} (h : WrPost T b r bs w1 w2) (k : Adds w w1) (hb : w.heap.size ≤ b) (hr : ∀ i, r = some i → w.heap.size ≤ i) : Adds w w2 :=
  k.trans' h.keeps (fun i hi hx => by rcases hx with hx | hx; omega; have := hr i hx; omega)
theorem BuR.new0 (T : Nat) (w : World) : BuR T 0 w.heap.size none [] (w.alloc (.cells #[.pointer none, .slice none 0 0] T)) :=
  ⟨_, _, .inl rfl, heap_alloc_new' w _, World.ownsRowF_nil _ _ _ _, by simp [Value.ownBlock], rfl⟩
theorem BuR.base {T B b : Nat} {r : Option Nat} {bs : List UInt8} {w : World} (h : BuR T B b r bs w) : BuR T 0 b r bs w := by
  obtain ⟨p, v, h1, h2, h3, h4⟩ := h
  exact ⟨p, v, h1, h2, ownsRowF_weaken h3 (Nat.zero_le _), h4⟩

theorem sbCopyCheck_r (T b : Nat) (r : Option Nat) (hT : BuT T) (bs : List UInt8) (w : World) (h : BuR T 0 b r bs w) :
    Calls Tryz.prog 94 #[.pointer (some ⟨b, 0, none⟩)] w fun e w' => e = .returned (.tuple #[]) ∧ ∃ v, (BuUs T 0 b v bs w' ∧ v.ownBlock = r) ∧ Keeps (fun k => k = b) w w' := by
  have hsh := h.at.shape
  obtain ⟨p, v, hp, hb, hown, hne, hr⟩ := h
  rcases hp with rfl | rfl
  · refine (sbCopyCheck_fresh T b hT w (cell_at hb 0 rfl) hsh (free_at hb 0)).mono ?_
    rintro e w' ⟨rfl, rfl⟩
    refine ⟨rfl, v, ⟨⟨by rw [heap_set_same hb]; rfl, ?_, hne⟩, hr⟩, (Keeps.refl _ w).setCell _ _ (fun _ => rfl)⟩
    exact hown.kept (row := some b) ⟨rfl, rfl, rfl, by simp [World.setCell], fun k _ hk => Below.heap_setCell _ _ _ _ (fun e => hk (by simp [e]))⟩ (Or.inr hne)
  · refine (sbCopyCheck_used b w (cell_at hb 0 rfl)).mono ?_
    rintro e w' ⟨rfl, rfl⟩
    exact ⟨rfl, v, ⟨⟨hb, hown, hne⟩, hr⟩, Keeps.refl _ _⟩

theorem BuUs.putR {T b : Nat} {v v' : Value} {bs' : List UInt8} {w : World} (hT : BuT T) (hb : w.heap[b]? = some (.cells #[.pointer (some ⟨b, 0, none⟩), v] T (0, 0)))
    (hown : w.ownsRowF 0 5 1 v' bs'.length (Lib.byteCells bs')) : BuR T 0 b v'.ownBlock bs' (w.setCell ⟨b, 1, none⟩ v') := by
  have hne := Lib.ownBlock_neF hown hb hT.ne
  refine ⟨_, v', .inr rfl, by rw [heap_set_same hb]; rfl, ?_, hne, rfl⟩
  exact hown.kept (row := some b) ⟨rfl, rfl, rfl, by simp [World.setCell], fun k _ hk => Below.heap_setCell _ _ _ _ (fun e => hk (by simp [e]))⟩ (Or.inr hne)

set_option maxHeartbeats 2000000 in
set_option maxRecDepth 100000 in
theorem sbWriteByte_r (T b : Nat) (r : Option Nat) (hT : BuT T) (bs : List UInt8) (c : UInt8) (x : Int) (hx : x = c.toNat) (w : World) (h : BuR T 0 b r bs w) (hlen : bs.length ≤ 1000000000) :
    Calls Tryz.prog 78 #[.pointer (some ⟨b, 0, none⟩), .int .u8 x] w fun e w' => e = .returned .nilIface ∧ WrPost T b r (bs ++ [c]) w w' := by
  subst hx
  obtain ⟨i0, hi, hz0, hz1, hz2⟩ := info_parts infoByte
  go_enter Tryz.func78, Tryz.ntmps78
  go_wp2_with (go_at_call 94; refine (sbCopyCheck_r T b r hT bs _ h).mono ?_)
  rintro e w1 ⟨rfl, v, ⟨⟨hbk, hown, hne⟩, hr⟩, hk⟩
  have HR := Lib.hid hr
  clear hr
  have c0 := cell_at hbk 0 rfl
  have c1 := cell_at hbk 1 rfl
  have hsz := hk.size
  go_wp2_with (at_builtin; refine wpList_append_ownX _ rfl _ _ 87 rfl 0 5 i0 (.int .u8 0) 1 1 Tryz.underlying87 hi hz0 hz1 hz2 rfl (by decide) _ _ _ rfl (hown.alloc _) ⟨w1.heap.size, 0, none⟩ 1 1 [.int .u8 c.toNat] rfl rfl ?c1 ?c2 ?c3 ?c4 ?c5 ?_)
  case c1 =>
    intro j u hj
    match j, hj with
    | 0, hj => simp at hj; subst hj; simp [Addr.add]
  case c2 => intro u hu; simp at hu; subst hu; rfl
  case c3 => unfold maxLen; omega
  case c4 => omega
  case c5 => exact Nat.zero_le _
  intro v' w2 hown' hgrow hnew
  have hlt := lt_of_heap hbk
  have hb2 : w2.heap[b]? = some (.cells #[.pointer (some ⟨b, 0, none⟩), v] T (0, 0)) := by
    rw [hgrow.block b (by simp; omega) (fun e => hne e.symm), Lib.alloc_old w1 _ b hlt]
    exact hbk
  have d1 := cell_at hb2 1 rfl
  have f1 := free_at hb2 1
  obtain ⟨g, cap, rfl⟩ : ∃ g cap, v' = .slice (some ⟨g, 0, none⟩) (bs.length + 1) cap := by
    rcases hown'.2 with ⟨_, h0⟩ | ⟨g, cap, cur, fz, hv, _⟩
    · omega
    · exact ⟨g, cap, hv⟩
  have HN := Lib.hid hnew
  clear hnew
  go_wp2
  go_ret
  refine ⟨rfl, _, BuUs.putR hT hb2 (bs' := bs ++ [c]) (by simpa [Lib.byteCells] using hown'), ?_, ?_⟩
  · rcases HN.out with h1 | ⟨k, h1, h2⟩
    · exact .inl (h1.trans HR.out)
    · exact .inr ⟨k, h1, by have : (w1.alloc (.cells #[.int .u8 c.toNat] 5)).heap.size = w1.heap.size + 1 := by simp
                            omega⟩
  · exact (((hk.mono (fun _ _ x => Or.inl x)).alloc _).grown hgrow (fun k hk' _ => .inr (HR.out.symm.trans hk'))).setCell _ _ (fun _ => .inl rfl)

set_option maxHeartbeats 2000000 in
set_option maxRecDepth 100000 in
theorem sbWriteString_r (T b : Nat) (r : Option Nat) (hT : BuT T) (bs : List UInt8) (l : List UInt8) (w : World) (h : BuR T 0 b r bs w) (hlen : bs.length ≤ 1000000000) (hs : l.length ≤ 1000000000) :
    Calls Tryz.prog 84 #[.pointer (some ⟨b, 0, none⟩), .string ⟨l.toArray⟩] w fun e w' => e = .returned (.tuple #[.int .i64 l.length, .nilIface]) ∧ WrPost T b r (bs ++ l) w w' := by
  obtain ⟨i0, hi, hz0, hz1, hz2⟩ := info_parts infoByte
  have hsl : (⟨l.toArray⟩ : ByteArray).size = l.length := rfl
  go_enter Tryz.func84, Tryz.ntmps84
  go_wp2_with (go_at_call 94; refine (sbCopyCheck_r T b r hT bs _ h).mono ?_)
  rintro e w1 ⟨rfl, v, ⟨⟨hbk, hown, hne⟩, hr⟩, hk⟩
  have HR := Lib.hid hr
  clear hr
  have c0 := cell_at hbk 0 rfl
  have c1 := cell_at hbk 1 rfl
  have hsz := hk.size
  go_wp2_with (at_builtin; refine wpList_append_own_stringX _ rfl _ _ 87 9 rfl 0 5 i0 Tryz.underlying87 Tryz.underlying9 hi hz0 hz1 hz2 _ _ _ rfl hown ⟨l.toArray⟩ rfl ?c3 ?c4 ?c5 ?_)
  case c3 => unfold maxLen; omega
  case c4 => omega
  case c5 => exact Nat.zero_le _
  intro v' w2 hown' hgrow hnew
  have hb2 : w2.heap[b]? = some (.cells #[.pointer (some ⟨b, 0, none⟩), v] T (0, 0)) := by
    rw [hgrow.block b (lt_of_heap hbk) (fun e => hne e.symm)]
    exact hbk
  have d1 := cell_at hb2 1 rfl
  have f1 := free_at hb2 1
  obtain ⟨ao, n', cap, rfl⟩ : ∃ ao n' cap, v' = .slice ao n' cap := by
    rcases hown'.2 with ⟨hv, _⟩ | ⟨g, cap, cur, fz, hv, _⟩
    · exact ⟨_, _, _, hv⟩
    · exact ⟨_, _, _, hv⟩
  have HN := Lib.hid hnew
  clear hnew
  go_wp2
  go_ret2
  refine ⟨rfl, _, BuUs.putR hT hb2 (bs' := bs ++ l) ?_, ?_, ?_⟩
  · rw [List.length_append]
    simpa [Lib.byteCells, Lib.strCells_eq] using hown'
  · rcases HN.out with h1 | ⟨k, h1, h2⟩
    · exact .inl (h1.trans HR.out)
    · exact .inr ⟨k, h1, by omega⟩
  · exact ((hk.mono (fun _ _ x => Or.inl x)).grown hgrow (fun k hk' _ => .inr (HR.out.symm.trans hk'))).setCell _ _ (fun _ => .inl rfl)

end Go.Proofs.YtdoenmokahbeaaaGreatDoor
