/- Dk0, Dk1, Dk1b, Dk2, Wl0, DkN, Dk4: one behind the other. -/
import Derived.Test.YtdoenmokahbeaaaGreatDoorSb0
import Derived.Laws.OwnMore
import Derived.Test.YtdoenmokahbeaaaGreatDoorFr8a

/- A disk, plainly; where it lies. -/
namespace Go.Proofs.YtdoenmokahbeaaaGreatDoor
open Go.RowKit
set_option linter.unusedVariables false
set_option linter.unusedSimpArgs false

def secC (l : List UInt8) : List Value := (List.range 64).map fun i => .int .u8 ((l.getD i 0).toNat : Int)
abbrev secV (l : List UInt8) : Value := .agg (secC l).toArray
def wrC (x : Int × List UInt8) : List Value := .int .i64 x.1 :: secC x.2
abbrev wrV (x : Int × List UInt8) : Value := .agg (wrC x).toArray
theorem secC_len (l : List UInt8) : (secC l).length = 64 := by simp [secC]
theorem ekSec : EK secC 64 81 := EK.of (z := secV []) (bt := 64) secC_len (fun x => List.all_eq_true.2 fun u hu => by simp only [secC, List.mem_map] at hu; obtain ⟨i, _, rfl⟩ := hu; rfl) (by decide) (by kernel_rfl) (by simp [Value.cells, secC]) (by decide)
theorem ekWr : EK wrC 65 83 := EK.of (z := wrV (0, [])) (bt := 72) (fun x => by simp [wrC, secC]) (fun x => List.all_eq_true.2 fun u hu => by simp only [wrC, secC, List.mem_cons, List.mem_map] at hu; rcases hu with rfl | ⟨i, _, rfl⟩ <;> rfl) (by decide) (by kernel_rfl) (by simp [Value.cells, wrC, secC]) (by decide)
theorem getD_list {l : List UInt8} (h : l.length = 64) : (List.range 64).map (fun i => l.getD i 0) = l := by
  apply List.ext_getElem
  · simp [h]
  · intro i h1 h2
    simp [List.getD, h2]
theorem secC_bytes {l : List UInt8} (h : l.length = 64) : secC l = l.flatMap u8C := by
  rw [u8C_flat]
  conv => rhs; rw [← getD_list h]
  simp [secC, Lib.byteCells]

structure GDisk where
  secs : List (List UInt8)
  opn : List (Int × List UInt8)
  fail : Int
  reads : Int
def tickF (f : Int) : Int := if f = 0 then 0 else f - 1
namespace GDisk
def zero (n : Nat) : GDisk := ⟨List.replicate n (List.replicate 64 0), [], 0, 0⟩
def ok (d : GDisk) : Prop := (∀ s ∈ d.secs, s.length = 64) ∧ (∀ x ∈ d.opn, x.2.length = 64 ∧ 0 ≤ x.1 ∧ x.1 < d.secs.length) ∧ 0 ≤ d.fail ∧ d.fail ≤ 9223372036854775807 ∧ d.secs.length ≤ 1024 ∧ d.opn.length ≤ 1000000
def has (d : GDisk) (a : Int) : Prop := 0 ≤ a ∧ a < d.secs.length
instance (d : GDisk) (a : Int) : Decidable (d.has a) := by unfold has; infer_instance
def tick (d : GDisk) : GDisk := ⟨d.secs, d.opn, tickF d.fail, d.reads⟩
def put (secs : List (List UInt8)) (x : Int × List UInt8) : List (List UInt8) := secs.set x.1.toNat x.2
def over (a : Int) (s : List UInt8) (x : Int × List UInt8) : List UInt8 := if x.1 = a then x.2 else s
def at_ (d : GDisk) (a : Int) : List UInt8 := d.opn.foldl (over a) (d.secs.getD a.toNat [])
def readT (d : GDisk) (a : Int) : List UInt8 := if d.has a ∧ d.fail ≠ 1 then d.at_ a else []
def readE (d : GDisk) (a : Int) : Int := if ¬ d.has a then 1 else if d.fail = 1 then 18 else 0
def readD (d : GDisk) (a : Int) : GDisk := if ¬ d.has a then d else ⟨d.secs, d.opn, tickF d.fail, IntKind.i64.wrap (d.reads + 1)⟩
def writeE (d : GDisk) (a : Int) (l : List UInt8) : Int := if ¬ (d.has a ∧ l.length = 64) then 1 else if d.fail = 1 then 18 else 0
def writeD (d : GDisk) (a : Int) (l : List UInt8) : GDisk := if ¬ (d.has a ∧ l.length = 64) then d else if d.fail = 1 then d.tick else ⟨d.secs, d.opn ++ [(a, l)], tickF d.fail, d.reads⟩
def flushE (d : GDisk) : Int := if d.fail = 1 then 18 else 0
def flushD (d : GDisk) : GDisk := if d.fail = 1 then d.tick else ⟨d.opn.foldl put d.secs, [], tickF d.fail, d.reads⟩
def failD (d : GDisk) (n : Int) : GDisk := ⟨d.secs, d.opn, if 0 > n then 0 else n, d.reads⟩
end GDisk
/-- Where a disk lies: its own block, its sectors', its open writes'. -/
def DiskAt (S : Nat → Prop) (b : Nat) (d : GDisk) (w : World) : Prop :=
  ∃ A1 c1 A2 c2, w.heap[b]? = some (.cells #[.slice A1 d.secs.length c1, .slice A2 d.opn.length c2, .int .i64 d.fail, .int .i64 d.reads] 70 (0, 0)) ∧
    OwAt secC 64 81 A1 c1 d.secs w ∧ OwAt wrC 65 83 A2 c2 d.opn w ∧ (∀ k, S k ↔ k = b ∨ blk A1 = some k ∨ blk A2 = some k) ∧ d.ok
theorem DiskAt.keeps {S S' : Nat → Prop} {b : Nat} {d : GDisk} {w w' : World} (h : DiskAt S b d w) (k : Keeps S' w w') (hn : ∀ i, S i → ¬ S' i) : DiskAt S b d w' := by
  obtain ⟨A1, c1, A2, c2, hb, h1, h2, hS, ho⟩ := h
  exact ⟨A1, c1, A2, c2, k.heap hb (hn b ((hS b).2 (.inl rfl))), h1.keeps k (fun i hi => hn i ((hS i).2 (.inr (.inl hi)))), h2.keeps k (fun i hi => hn i ((hS i).2 (.inr (.inr hi)))), hS, ho⟩
theorem DiskAt.adds {S : Nat → Prop} {b : Nat} {d : GDisk} {w w' : World} (h : DiskAt S b d w) (k : Adds w w') : DiskAt S b d w' := h.keeps k (fun _ _ x => x)
theorem DiskAt.lt {S : Nat → Prop} {b : Nat} {d : GDisk} {w : World} (h : DiskAt S b d w) : ∀ i, S i → i < w.heap.size := by
  obtain ⟨A1, c1, A2, c2, hb, h1, h2, hS, ho⟩ := h
  intro i hi
  rcases (hS i).1 hi with rfl | hi | hi
  · exact lt_of_heap hb
  · exact h1.lt i hi
  · exact h2.lt i hi
theorem DiskAt.mem {S : Nat → Prop} {b : Nat} {d : GDisk} {w : World} (h : DiskAt S b d w) : S b := by
  obtain ⟨A1, c1, A2, c2, hb, h1, h2, hS, ho⟩ := h; exact (hS b).2 (.inl rfl)
theorem fp_step {A A' : Option Addr} {S : Nat → Prop} {w : World} (n : blk A' = blk A ∨ ∃ k, blk A' = some k ∧ w.heap.size ≤ k) (h : ∀ i, blk A = some i → ¬ S i) (lt : ∀ i, S i → i < w.heap.size) : ∀ i, blk A' = some i → ¬ S i := fun i hi hs => by
  rcases n with n | ⟨k, n, hk⟩
  · exact h i (n ▸ hi) hs
  · rw [n] at hi; cases hi; exact absurd (lt _ hs) (Nat.not_lt.2 hk)
theorem lk_step {S0 S S' T : Nat → Prop} {w0 w : World} (lk : ∀ k, S k → S0 k ∨ w0.heap.size ≤ k) (lkn : ∀ k, S' k → S k ∨ w.heap.size ≤ k) (K : Keeps T w0 w) : ∀ k, S' k → S0 k ∨ w0.heap.size ≤ k := fun k h =>
  (lkn k h).elim (lk k) (fun h2 => .inr (Nat.le_trans K.size h2))
theorem DiskAt.ok {S : Nat → Prop} {b : Nat} {d : GDisk} {w : World} (h : DiskAt S b d w) : d.ok := by
  obtain ⟨A1, c1, A2, c2, hb, h1, h2, hS, ho⟩ := h; exact ho
/-- What a disk's call leaves. -/
def DkPost (S : Nat → Prop) (b : Nat) (d : GDisk) (w w' : World) : Prop := ∃ S', DiskAt S' b d w' ∧ (∀ k, S' k → S k ∨ w.heap.size ≤ k) ∧ Keeps S w w'
theorem DiskAt.mk {b : Nat} {A1 A2 : Option Addr} {c1 c2 : Nat} {d : GDisk} {w : World} (hb : w.heap[b]? = some (.cells #[.slice A1 d.secs.length c1, .slice A2 d.opn.length c2, .int .i64 d.fail, .int .i64 d.reads] 70 (0, 0))) (h1 : OwAt secC 64 81 A1 c1 d.secs w) (h2 : OwAt wrC 65 83 A2 c2 d.opn w) (ho : d.ok) : DiskAt (fun k => k = b ∨ blk A1 = some k ∨ blk A2 = some k) b d w :=
  ⟨A1, c1, A2, c2, hb, h1, h2, fun _ => Iff.rfl, ho⟩
theorem DiskAt.mkS {S : Nat → Prop} {b : Nat} {A1 A2 : Option Addr} {c1 c2 : Nat} {d : GDisk} {w : World} (hS : ∀ k, S k ↔ k = b ∨ blk A1 = some k ∨ blk A2 = some k) (hb : w.heap[b]? = some (.cells #[.slice A1 d.secs.length c1, .slice A2 d.opn.length c2, .int .i64 d.fail, .int .i64 d.reads] 70 (0, 0))) (h1 : OwAt secC 64 81 A1 c1 d.secs w) (h2 : OwAt wrC 65 83 A2 c2 d.opn w) (ho : d.ok) : DiskAt S b d w :=
  ⟨A1, c1, A2, c2, hb, h1, h2, hS, ho⟩
namespace GDisk
theorem tick_ok {d : GDisk} (h : d.ok) : d.tick.ok := by
  obtain ⟨h1, h2, h3, h4, h5, h6⟩ := h
  refine ⟨h1, h2, ?_, ?_, h5, h6⟩ <;> (simp only [tick, tickF]; split <;> omega)
theorem put_len (secs : List (List UInt8)) (x : Int × List UInt8) : (put secs x).length = secs.length := by simp [put]
theorem puts_len (l : List (Int × List UInt8)) (secs : List (List UInt8)) : (l.foldl put secs).length = secs.length := by
  induction l generalizing secs with
  | nil => rfl
  | cons x l ih => rw [List.foldl_cons, ih, put_len]
theorem puts_all {l : List (Int × List UInt8)} : ∀ {secs : List (List UInt8)}, (∀ x ∈ l, x.2.length = 64) → (∀ s ∈ secs, s.length = 64) → ∀ s ∈ l.foldl put secs, s.length = 64 := by
  induction l with
  | nil => intro secs _ h; exact h
  | cons x l ih =>
    intro secs hl h
    rw [List.foldl_cons]
    refine ih (fun y hy => hl y (List.mem_cons_of_mem _ hy)) fun s hs => ?_
    rcases List.mem_or_eq_of_mem_set hs with hs | rfl
    · exact h s hs
    · exact hl x (List.mem_cons_self ..)
section
variable {d : GDisk} {a : Int} {l : List UInt8}
theorem read_no (h : ¬ d.has a) : d.readT a = [] ∧ d.readE a = 1 ∧ d.readD a = d := ⟨if_neg fun k => h k.1, if_pos h, if_pos h⟩
theorem read_io (h : d.has a) (hf : d.fail = 1) : d.readT a = [] ∧ d.readE a = 18 ∧ d.readD a = ⟨d.secs, d.opn, tickF d.fail, IntKind.i64.wrap (d.reads + 1)⟩ := ⟨if_neg fun k => k.2 hf, by rw [readE, if_neg (fun q => q h), if_pos hf], if_neg (fun q => q h)⟩
theorem read_ok (h : d.has a) (hf : ¬ d.fail = 1) : d.readT a = d.at_ a ∧ d.readE a = 0 ∧ d.readD a = ⟨d.secs, d.opn, tickF d.fail, IntKind.i64.wrap (d.reads + 1)⟩ := ⟨if_pos ⟨h, hf⟩, by rw [readE, if_neg (fun q => q h), if_neg hf], if_neg (fun q => q h)⟩
theorem write_no (h : ¬ (d.has a ∧ l.length = 64)) : d.writeE a l = 1 ∧ d.writeD a l = d := ⟨if_pos h, if_pos h⟩
theorem write_io (h : d.has a ∧ l.length = 64) (hf : d.fail = 1) : d.writeE a l = 18 ∧ d.writeD a l = ⟨d.secs, d.opn, tickF d.fail, d.reads⟩ := ⟨by rw [writeE, if_neg (fun q => q h), if_pos hf], by rw [writeD, if_neg (fun q => q h), if_pos hf]; rfl⟩
theorem write_ok (h : d.has a ∧ l.length = 64) (hf : ¬ d.fail = 1) : d.writeE a l = 0 ∧ d.writeD a l = ⟨d.secs, d.opn ++ [(a, l)], tickF d.fail, d.reads⟩ := ⟨by rw [writeE, if_neg (fun q => q h), if_neg hf], by rw [writeD, if_neg (fun q => q h), if_neg hf]⟩
theorem flush_io (hf : d.fail = 1) : d.flushE = 18 ∧ d.flushD = ⟨d.secs, d.opn, tickF d.fail, d.reads⟩ := ⟨if_pos hf, if_pos hf⟩
theorem flush_ok (hf : ¬ d.fail = 1) : d.flushE = 0 ∧ d.flushD = ⟨d.opn.foldl put d.secs, [], tickF d.fail, d.reads⟩ := ⟨if_neg hf, if_neg hf⟩
theorem ok_of {secs : List (List UInt8)} {opn : List (Int × List UInt8)} {f r r' : Int} (h : (⟨secs, opn, f, r⟩ : GDisk).ok) : (⟨secs, opn, tickF f, r'⟩ : GDisk).ok := tick_ok (d := ⟨secs, opn, f, r'⟩) h
theorem write_dok (h : d.ok) (hw : d.has a ∧ l.length = 64) (hm : d.opn.length < 1000000) (f r : Int) (hf : 0 ≤ f ∧ f ≤ 9223372036854775807) : (⟨d.secs, d.opn ++ [(a, l)], f, r⟩ : GDisk).ok := by
  obtain ⟨h1, h2, h3, h4, h5, h6⟩ := h
  refine ⟨h1, fun x hx => ?_, hf.1, hf.2, h5, by simp only [List.length_append, List.length_cons, List.length_nil]; omega⟩
  rcases List.mem_append.1 hx with hx | hx
  · exact h2 x hx
  · rw [List.mem_singleton] at hx; subst hx; exact ⟨hw.2, hw.1.1, hw.1.2⟩
theorem flush_dok (h : d.ok) (f r : Int) (hf : 0 ≤ f ∧ f ≤ 9223372036854775807) : (⟨d.opn.foldl put d.secs, [], f, r⟩ : GDisk).ok := by
  obtain ⟨h1, h2, h3, h4, h5, h6⟩ := h
  exact ⟨puts_all (fun x hx => (h2 x hx).1) h1, by simp, hf.1, hf.2, by rw [puts_len]; exact h5, by simp⟩
theorem tickF_rng {f : Int} (h : 0 ≤ f ∧ f ≤ 9223372036854775807) : 0 ≤ tickF f ∧ tickF f ≤ 9223372036854775807 := by unfold tickF; split <;> omega
theorem over_len {s : List UInt8} {x : Int × List UInt8} (hs : s.length = 64) (hx : x.2.length = 64) : (over a s x).length = 64 := by unfold over; split <;> assumption
theorem overs_len : ∀ {o : List (Int × List UInt8)} {s : List UInt8}, (∀ x ∈ o, x.2.length = 64) → s.length = 64 → (o.foldl (over a) s).length = 64
  | [], _, _, h => h
  | x :: o, s, ho, h => by
    rw [List.foldl_cons]; exact overs_len (fun y hy => ho y (List.mem_cons_of_mem _ hy)) (over_len h (ho x (List.mem_cons_self ..)))
theorem over_succ {o : List (Int × List UInt8)} {s : List UInt8} {i : Int} {q : Int × List UInt8} (h0 : 0 ≤ i) (hq : o[i.toNat]? = some q) : (o.take (i + 1).toNat).foldl (over a) s = over a ((o.take i.toNat).foldl (over a) s) q := by
  rw [take_succI h0 hq, List.foldl_append]; rfl
theorem ov_t {o : List (Int × List UInt8)} {s : List UInt8} {i : Int} {q : Int × List UInt8} (h0 : 0 ≤ i) (hq : o[i.toNat]? = some q) (h : q.1 = a) : q.2 = (o.take (i + 1).toNat).foldl (over a) s := by
  rw [over_succ h0 hq, over, if_pos h]
theorem ov_f {o : List (Int × List UInt8)} {s : List UInt8} {i : Int} {q : Int × List UInt8} (h0 : 0 ≤ i) (hq : o[i.toNat]? = some q) (h : ¬ q.1 = a) : (o.take i.toNat).foldl (over a) s = (o.take (i + 1).toNat).foldl (over a) s := by
  rw [over_succ h0 hq, over, if_neg h]
theorem put_succ {o : List (Int × List UInt8)} {secs : List (List UInt8)} {i : Int} {q : Int × List UInt8} (h0 : 0 ≤ i) (hq : o[i.toNat]? = some q) : ((o.take i.toNat).foldl put secs).set q.1.toNat q.2 = (o.take (i + 1).toNat).foldl put secs := by
  rw [take_succI h0 hq, List.foldl_append]; rfl
end
end GDisk
theorem SlAt.of_sec {b : Nat} {l : List UInt8} {T : TypeId} {fz : Nat × Nat} {w : World} (hb : w.heap[b]? = some (.cells (Value.cells (secV l)) T fz)) (hl : l.length = 64) : SlAt u8C 1 5 (some ⟨b, 0, none⟩) l w := by
  refine .inr ⟨b, 0, _, T, fz, rfl, hb, by simp [Value.cells, secC, hl], fun i r hr => ?_⟩
  have hi : i < l.length := (List.getElem?_eq_some_iff.1 hr).1
  have e : (Value.cells (secV l)).toList = l.flatMap u8C := by rw [← secC_bytes hl]; rfl
  rw [e, u8C_flat]
  simp only [Nat.zero_add, Nat.mul_one, Lib.byteCells]
  rw [List.drop_eq_getElem_cons (by simpa using hi)]
  have : l[i] = r := by rw [List.getElem?_eq_getElem hi] at hr; exact Option.some.inj hr
  simp [this]

end Go.Proofs.YtdoenmokahbeaaaGreatDoor
namespace Go.Proofs.YtdoenmokahbeaaaGreatDoor
open Go.RowKit
set_option linter.unusedVariables false
set_option linter.unusedSimpArgs false

set_option maxRecDepth 100000 in
set_option maxHeartbeats 4000000 in
theorem dLen_b {b n c : Nat} {A : Option Addr} {f : Int} {s2 v4 : Value} {w : World} (hb : w.heap[b]? = some (.cells #[.slice A n c, s2, .int .i64 f, v4] 70 (0, 0))) : Calls Tryz.prog 35 #[.pointer (some ⟨b, 0, none⟩)] w fun e w' => e = .returned (.int .i64 (n : Int)) ∧ Adds w w' := by
  have K : Keeps (fun _ => False) w w := Keeps.refl _ w
  refine Calls.start Tryz.func35 rfl (by kernel_rfl) ?_
  refine WC.seq ?_
  refine WC.region ?_
  refine WL.op (d := 2) (.int .i64 0) (k := ?_)
  refine WL.nil ?_
  refine WX.seqN ?_
  refine WC.seq ?_
  refine WC.seq ?_
  refine WC.region ?_
  refine WL.op (d := 3) (.pointer (some ⟨b, 0, none⟩)) (k := ?_)
  refine WL.op (d := 4) (.bool false) (k := ?_)
  refine WL.nil ?_
  refine WX.seqN ?_
  refine WC.condF (k := ?_)
  refine WC.skip ?_
  refine WX.seqN ?_
  refine WC.seq ?_
  refine WC.region ?_
  refine WL.op (d := 5) (.pointer (some ⟨b, 0, none⟩)) (k := ?_)
  refine WL.op (d := 6) (.pointer (some ⟨b, 0, none⟩)) (k := ?_)
  refine WL.op (d := 7) (.pointer (some ⟨b, 0, none⟩)) (k := ?_)
  refine WL.load (v := .slice A n c) (ld1 (T := 67) (i := 0) hb) (k := ?_)
  refine WL.op (d := 9) (.int .i64 (n : Int)) (k := ?_)
  refine WL.op (d := 2) (.int .i64 (n : Int)) (k := ?_)
  refine WL.nil ?_
  refine WX.seqN ?_
  refine WC.ret ?_
  refine WX.ret (rs := [.tmp 2]) [.int .i64 (n : Int)] (.int .i64 (n : Int)) ⟨(by kernel_rfl), trivial⟩ (k := ?_)
  exact ⟨rfl, K⟩

set_option maxRecDepth 100000 in
set_option maxHeartbeats 4000000 in
theorem dLen_nil (w : World) : Calls Tryz.prog 35 #[.pointer none] w fun e w' => e = .returned (.int .i64 0) ∧ Adds w w' := by
  have K : Keeps (fun _ => False) w w := Keeps.refl _ w
  refine Calls.start Tryz.func35 rfl (by kernel_rfl) ?_
  refine WC.seq ?_
  refine WC.region ?_
  refine WL.op (d := 2) (.int .i64 0) (k := ?_)
  refine WL.nil ?_
  refine WX.seqN ?_
  refine WC.seq ?_
  refine WC.seq ?_
  refine WC.region ?_
  refine WL.op (d := 3) (.pointer none) (k := ?_)
  refine WL.op (d := 4) (.bool true) (k := ?_)
  refine WL.nil ?_
  refine WX.seqN ?_
  refine WC.condT (k := ?_)
  refine WC.seq ?_
  refine WC.region ?_
  refine WL.op (d := 2) (.int .i64 0) (k := ?_)
  refine WL.nil ?_
  refine WX.seqN ?_
  refine WC.ret ?_
  refine WX.seqR ?_
  refine WX.ret (rs := [.tmp 2]) [.int .i64 0] (.int .i64 0) ⟨(by kernel_rfl), trivial⟩ (k := ?_)
  exact ⟨rfl, K⟩

set_option maxRecDepth 100000 in
set_option maxHeartbeats 4000000 in
theorem dThere_b {a : Int} {b n c : Nat} {A : Option Addr} {f : Int} {s2 v4 : Value} {w : World} (hb : w.heap[b]? = some (.cells #[.slice A n c, s2, .int .i64 f, v4] 70 (0, 0))) : Calls Tryz.prog 69 #[.pointer (some ⟨b, 0, none⟩), .int .i64 a] w fun e w' => e = .returned (.bool (decide (0 ≤ a ∧ a < (n : Int)))) ∧ Adds w w' := by
  have K : Keeps (fun _ => False) w w := Keeps.refl _ w
  refine Calls.start Tryz.func69 rfl (by kernel_rfl) ?_
  refine WC.seq ?_
  refine WC.region ?_
  refine WL.op (d := 4) (.bool false) (k := ?_)
  refine WL.nil ?_
  refine WX.seqN ?_
  refine WC.seq ?_
  refine WC.region ?_
  refine WL.op (d := 5) (.int .i64 a) (k := ?_)
  refine WL.op (d := 6) (.bool (decide (a ≥ 0))) (k := ?_)
  refine WL.op (d := 7) (.bool (decide (a ≥ 0))) (k := ?_)
  refine bsplit (decide (a ≥ 0)) (fun h1 => ?_) (fun h1 => ?_)
  · have ph1 := of_decide_eq_true h1
    refine WL.rw (t := 7) (v := .bool true) (congrArg Value.bool h1) (k := ?_)
    refine WL.op (d := 8) (.int .i64 a) (k := ?_)
    refine WL.op (d := 9) (.pointer (some ⟨b, 0, none⟩)) (k := ?_)
    refine WL.callG (d := 10) (f := 35) (args := #[.pointer (some ⟨b, 0, none⟩)]) (dLen_b hb) (k := fun e_ w2 h_ => ⟨.int .i64 (n : Int), h_.1, ?_⟩)
    have k3 := h_.2; clear h_
    replace hb := k3.heap hb id
    replace K := K.trans (k3.any _)
    refine WL.op (d := 11) (.bool (decide (a < (n : Int)))) (k := ?_)
    refine WL.op (d := 12) (.bool (decide (a < (n : Int)))) (k := ?_)
    refine WL.op (d := 4) (.bool (decide (a < (n : Int)))) (k := ?_)
    refine WL.nil ?_
    refine WX.seqN ?_
    refine WC.ret ?_
    refine WX.ret (rs := [.tmp 4]) [.bool (decide (a < (n : Int)))] (.bool (decide (a < (n : Int)))) ⟨(by kernel_rfl), trivial⟩ (k := ?_)
    exact ⟨ret_bool (decide_eq_decide.2 ⟨fun h_ => ⟨by omega, h_⟩, fun h_ => h_.2⟩), K⟩
  · have ph1 := of_decide_eq_false h1
    refine WL.rw (t := 7) (v := .bool false) (congrArg Value.bool h1) (k := ?_)
    refine WL.skip (d := 8) (k := ?_)
    refine WL.skip (d := 9) (k := ?_)
    refine WL.skip (d := 10) (k := ?_)
    refine WL.skip (d := 11) (k := ?_)
    refine WL.op (d := 12) (.bool false) (k := ?_)
    refine WL.op (d := 4) (.bool false) (k := ?_)
    refine WL.nil ?_
    refine WX.seqN ?_
    refine WC.ret ?_
    refine WX.ret (rs := [.tmp 4]) [.bool false] (.bool false) ⟨(by kernel_rfl), trivial⟩ (k := ?_)
    exact ⟨ret_bool (decide_eq_false (fun h_ => by omega)).symm, K⟩

set_option maxRecDepth 100000 in
set_option maxHeartbeats 4000000 in
theorem dFails_b {s1 : Value} {b : Nat} {f : Int} {s2 v4 : Value} {w : World} (hb : w.heap[b]? = some (.cells #[s1, s2, .int .i64 f, v4] 70 (0, 0))) (hf : 0 ≤ f ∧ f ≤ 9223372036854775807) : Calls Tryz.prog 70 #[.pointer (some ⟨b, 0, none⟩)] w fun e w' => e = .returned (.bool (decide (f = 1))) ∧ w'.heap[b]? = some (.cells #[s1, s2, .int .i64 (tickF f), v4] 70 (0, 0)) ∧ Keeps (fun k => k = b) w w' := by
  have K : Keeps (fun k => k = b) w w := Keeps.refl _ w
  refine Calls.start Tryz.func70 rfl (by kernel_rfl) ?_
  refine WC.seq ?_
  refine WC.region ?_
  refine WL.op (d := 2) (.bool false) (k := ?_)
  refine WL.nil ?_
  refine WX.seqN ?_
  refine WC.seq ?_
  refine WC.seq ?_
  refine WC.region ?_
  refine WL.op (d := 3) (.pointer (some ⟨b, 0, none⟩)) (k := ?_)
  refine WL.op (d := 4) (.pointer (some ⟨b, 0, none⟩)) (k := ?_)
  refine WL.op (d := 5) (.pointer (some ⟨b, 2, none⟩)) (k := ?_)
  refine WL.load (v := .int .i64 f) (ld1 (T := 3) (i := 2) hb) (k := ?_)
  refine WL.op (d := 7) (.bool (f == 0)) (k := ?_)
  refine WL.nil ?_
  refine WX.seqN ?_
  refine WC.cond (b := f == 0) (ht := fun h1 => ?_) (hf := fun h1 => ?_)
  · have ph1 := eq_of_beq h1
    refine WC.seq ?_
    refine WC.region ?_
    refine WL.op (d := 2) (.bool false) (k := ?_)
    refine WL.nil ?_
    refine WX.seqN ?_
    refine WC.ret ?_
    refine WX.seqR ?_
    refine WX.ret (rs := [.tmp 2]) [.bool false] (.bool false) ⟨(by kernel_rfl), trivial⟩ (k := ?_)
    have q_ : tickF f = f := by rw [ph1]; rfl
    have q2_ : ¬ f = 1 := by omega
    exact ⟨ret_bool (decide_eq_false q2_).symm, by rw [q_]; exact hb, K⟩
  · have ph1 := ne_of_beq_false h1
    refine WC.skip ?_
    refine WX.seqN ?_
    refine WC.seq ?_
    refine WC.region ?_
    refine WL.op (d := 8) (.pointer (some ⟨b, 0, none⟩)) (k := ?_)
    refine WL.op (d := 9) (.pointer (some ⟨b, 0, none⟩)) (k := ?_)
    refine WL.op (d := 10) (.pointer (some ⟨b, 2, none⟩)) (k := ?_)
    refine WL.load (v := .int .i64 f) (ld1 (T := 3) (i := 2) hb) (k := ?_)
    refine WL.opE (d := 12) (.int .i64 (IntKind.i64.wrap (f - 1))) (v := .int .i64 (f - 1)) (congrArg (Value.int .i64) (IntWalk.i64_in _ (by omega))) (k := ?_)
    refine WL.op (d := 13) (.pointer (some ⟨b, 0, none⟩)) (k := ?_)
    refine WL.op (d := 14) (.pointer (some ⟨b, 2, none⟩)) (k := ?_)
    refine WL.store (v := .int .i64 (f - 1)) (i := 2) (cs' := #[s1, s2, .int .i64 (f - 1), v4]) hb (k := fun w2 hb3 k4 => ?_)
    replace K := K.trans' k4 (fun i hi e => e)
    clear hb
    refine WL.nil ?_
    refine WX.seqN ?_
    refine WC.seq ?_
    refine WC.region ?_
    refine WL.op (d := 15) (.pointer (some ⟨b, 0, none⟩)) (k := ?_)
    refine WL.op (d := 16) (.pointer (some ⟨b, 0, none⟩)) (k := ?_)
    refine WL.op (d := 17) (.pointer (some ⟨b, 2, none⟩)) (k := ?_)
    refine WL.load (v := .int .i64 (f - 1)) (ld1 (T := 3) (i := 2) hb3) (k := ?_)
    refine WL.op (d := 19) (.bool ((f - 1) == 0)) (k := ?_)
    refine WL.op (d := 2) (.bool ((f - 1) == 0)) (k := ?_)
    refine WL.nil ?_
    refine WX.seqN ?_
    refine WC.ret ?_
    refine WX.ret (rs := [.tmp 2]) [.bool ((f - 1) == 0)] (.bool ((f - 1) == 0)) ⟨(by kernel_rfl), trivial⟩ (k := ?_)
    have q_ : tickF f = f - 1 := if_neg ph1
    exact ⟨ret_bool (by rw [Bool.eq_iff_iff, beq_iff_eq, decide_eq_true_eq]; omega), by rw [q_]; exact hb3, K⟩

end Go.Proofs.YtdoenmokahbeaaaGreatDoor

/- Disks: what the walks lean on. -/
namespace Go.Proofs.YtdoenmokahbeaaaGreatDoor
open Go.RowKit
set_option linter.unusedVariables false
set_option linter.unusedSimpArgs false

namespace GDisk
theorem at_eq {d : GDisk} {a : Int} {i : Int} {r : List UInt8} (hr : d.secs[a.toNat]? = some r) (h : d.opn.length ≤ i) : List.foldl (over a) r (List.take i.toNat d.opn) = d.at_ a := by
  rw [take_endI h, at_, List.getD_eq_getElem?_getD, hr]; rfl
end GDisk
theorem secC_zero (l : List UInt8) (h : ∀ i, l.getD i 0 = 0) : secC l = List.replicate 64 (Value.int .u8 0) := by
  simp only [secC, h]; rfl
theorem getD_zeros (i : Nat) : (List.replicate 64 (0 : UInt8)).getD i 0 = 0 := by
  simp only [List.getD, List.getElem?_replicate]; split <;> rfl
theorem made_secs (n : Nat) : (madeCells (secV []).cells (n * 64)).toList = (List.replicate n (List.replicate 64 (0 : UInt8))).flatMap secC := by
  have h1 : (madeCells (secV []).cells (n * 64)).toList = List.replicate (n * 64) (Value.int .u8 0) := by
    rw [List.eq_replicate_iff]
    refine ⟨by simp [madeCells], fun b hb => ?_⟩
    have hz : (secV []).cells.toList = List.replicate 64 (Value.int .u8 0) := secC_zero [] (fun i => by simp)
    simp only [madeCells, Array.toList_map, List.mem_map] at hb
    obtain ⟨i, _, rfl⟩ := hb
    have hs : (secV []).cells.size = 64 := by rw [← Array.length_toList, hz]; simp
    have hm : i % (secV []).cells.size < (secV []).cells.size := Nat.mod_lt _ (by rw [hs]; decide)
    rw [getElem!_pos (secV []).cells _ hm, ← Array.getElem_toList hm]
    have hmem : (secV []).cells.toList[i % (secV []).cells.size]'hm ∈ (secV []).cells.toList := List.getElem_mem _
    generalize (secV []).cells.toList[i % (secV []).cells.size]'hm = v at hmem ⊢
    rw [hz] at hmem
    exact List.eq_of_mem_replicate hmem
  rw [h1]
  clear h1
  induction n with
  | zero => rfl
  | succ n ih =>
    rw [List.replicate_succ, List.flatMap_cons, secC_zero _ getD_zeros, ← ih, ← List.replicate_append_replicate.symm, show (n + 1) * 64 = 64 + n * 64 by omega]
theorem run_makeSecs (n : Nat) (hn : n ≤ 1024) (w : World) : ∃ b w', w.heap.size ≤ b ∧ (Instr.makeSlice 67 (.int .i64 (n : Int)) (.int .i64 (n : Int))).run Tryz.prog w = .ok (.slice (some ⟨b, 0, none⟩) n n) w' ∧ OwAt secC 64 81 (some ⟨b, 0, none⟩) n (List.replicate n (List.replicate 64 (0 : UInt8))) w' ∧ Adds w w' := by
  obtain ⟨i, z, h1, h2, h3, h4, h5⟩ := ekSec.info
  have hz : z = secV [] := by
    have : (Tryz.prog.info? 81).map (fun i => i.zero) = some (some (secV [])) := by kernel_rfl
    rw [h1] at this
    simp only [Option.map_some, Option.some.injEq] at this
    rw [h2] at this; exact Option.some.inj this
  subst hz
  obtain ⟨w', hr, ho, hg⟩ := run_make_full (P := Tryz.prog) (w := w) 0 67 81 i _ 64 Tryz.underlying67 h1 h2 h3 .i64 .i64 n (by
    have := Nat.mul_le_mul h5 hn; omega) (by unfold maxLen; omega) (Nat.zero_le _)
  refine ⟨w.heap.size, w', Nat.le_refl _, hr, ?_, (Keeps.refl _ w).grown hg (fun _ h => by cases h)⟩
  unfold OwAt
  rw [← made_secs, List.length_replicate]
  exact ho
section
variable {P : Program} {ops : Array Oper} {n : Md} {Q : Exit → Act → World → Prop} {rest : List Oper} {fr : Fr} {w : World}
theorem WL.makeS {T : TypeId} {x y : Operand} {vx vy v : Value} {d : Nat} {w' : World} {ty : TypeId} {ps : String} {af : Array Edge} {g : Option (Nat × Bool)} (hr : (Instr.makeSlice T vx vy).run P w = .ok v w')
    (hw : want ops fr ⟨some d, .makeSlice T x y, ty, ps, af, g⟩ = some true := by kernel_rfl) (hx : ev fr x = some vx := by kernel_rfl) (hy : ev fr y = some vy := by kernel_rfl) (hn : Nat.blt d n.n = true := by kernel_rfl)
    (k : WL P ops n Q rest ((d, v) :: fr) w') : WL P ops n Q (⟨some d, .makeSlice T x y, ty, ps, af, g⟩ :: rest) fr w :=
  WL.wanted hw fun a ha K hK => by
    unfold Oper.wp
    simp only [execOp, ha.eval hx, ha.eval hy, Sem.run_bind, Sem.run_pure, Result.andThen_ok, hr, Oper.upon_value]
    exact hK _ _ (k _ (ha.put hn _))
end
/-- A text copied into an open write. -/
theorem run_copyWr {b : Nat} {a : Int} {l0 l : List UInt8} {T ty : TypeId} {w : World} (hb : w.heap[b]? = some (.cells (Value.cells (wrV (a, l0))) T (0, 0))) (hl : l.length = 64) :
    ∃ w', (Builtin.copy_ #[87, 9] ty #[.slice (some ⟨b, 1, none⟩) 64 64, .string ⟨l.toArray⟩]).run Tryz.prog w = .ok (.int .i64 64) w' ∧
      w'.heap[b]? = some (.cells (Value.cells (wrV (a, l))) T (0, 0)) ∧ Keeps (fun k => k = b) w w' := by
  have hT : (Lib.byteCells l).length = 64 := by simp [Lib.byteCells, hl]
  have hsz0 : (Value.cells (wrV (a, l0))).size = 65 := by simp [Value.cells, wrC, secC]
  obtain ⟨w', hr, hb', hk⟩ := run_storeCells (P := Tryz.prog) (b := b) (i := 1) (Lib.byteCells l) 0 w _ hb (by rw [hT, hsz0]; decide) (List.all_eq_true.2 fun u hu => by simp only [Lib.byteCells, List.mem_map] at hu; obtain ⟨x, _, rfl⟩ := hu; rfl)
  refine ⟨w', ?_, ?_, hk⟩
  · have hsz : (⟨l.toArray⟩ : ByteArray).size = 64 := hl
    obtain ⟨i0, hi, hz0, hz1, hz2⟩ := info_parts infoByte
    have htk : List.take 64 (List.map (fun c : UInt8 => Value.int IntKind.u8 (c.toNat : Int)) l) = Lib.byteCells l := by
      rw [List.take_of_length_le (by simp [hl])]; rfl
    simp [Builtin.copy_, run_underlying Tryz.underlying87, Builtin.lenOf, Builtin.firstCells, sizeOf, typeInfo, hi, hz1, hsz]
    rw [htk, hr]
    simp [Result.andThen, goInt]
  · rw [hb']
    congr 2
    have e : secC l = Lib.byteCells l := by rw [secC_bytes hl, u8C_flat]
    apply Array.ext'
    simp only [repl, Value.cells, wrC, e, List.toList_toArray, hT]
    simp [secC, hT]

end Go.Proofs.YtdoenmokahbeaaaGreatDoor
namespace Go.Proofs.YtdoenmokahbeaaaGreatDoor
open Go.RowKit
set_option linter.unusedVariables false
set_option linter.unusedSimpArgs false

set_option maxRecDepth 100000 in
set_option maxHeartbeats 4000000 in
theorem dRead_c {a : Int} {S : Nat → Prop} {b : Nat} {d : GDisk} {w : World} (hd : DiskAt S b d w) : Calls Tryz.prog 53 #[.pointer (some ⟨b, 0, none⟩), .int .i64 a] w fun e w' => e = .returned (.tuple #[.string ⟨(d.readT a).toArray⟩, .int .i64 (d.readE a)]) ∧ DiskAt S b (d.readD a) w' ∧ Keeps S w w' := by
  have K : Keeps S w w := Keeps.refl _ w
  obtain ⟨A1, c1, A2, c2, hb, h1, h2, hS, ho⟩ := hd
  have ho2 := ho
  obtain ⟨os_, ow_, of0_, of1_, on_, om_⟩ := ho2
  refine Calls.start Tryz.func53 rfl (by kernel_rfl) ?_
  refine WC.seq ?_
  refine WC.region ?_
  refine WL.op (d := 4) (.string ⟨#[]⟩) (k := ?_)
  refine WL.op (d := 5) (.int .i64 0) (k := ?_)
  refine WL.nil ?_
  refine WX.seqN ?_
  refine WC.seq ?_
  refine WC.seq ?_
  refine WC.region ?_
  refine WL.op (d := 9) (.pointer (some ⟨b, 0, none⟩)) (k := ?_)
  refine WL.op (d := 10) (.int .i64 a) (k := ?_)
  refine WL.callG (d := 11) (f := 69) (args := #[.pointer (some ⟨b, 0, none⟩), .int .i64 a]) (dThere_b (a := a) hb) (k := fun e_ w1 h_ => ⟨.bool (decide (0 ≤ a ∧ a < (d.secs.length : Int))), h_.1, ?_⟩)
  have k2 := h_.2; clear h_
  replace hb := k2.heap hb id
  replace h1 := h1.adds k2
  replace h2 := h2.adds k2
  replace K := K.trans (k2.any _)
  refine WL.op (d := 12) (.bool (!(decide (0 ≤ a ∧ a < (d.secs.length : Int))))) (k := ?_)
  refine WL.nil ?_
  refine WX.seqN ?_
  refine WC.cond (b := !(decide (0 ≤ a ∧ a < (d.secs.length : Int)))) (ht := fun h3 => ?_) (hf := fun h3 => ?_)
  · have h4 : (decide (0 ≤ a ∧ a < (d.secs.length : Int))) = false := Bool.not_inj (y := false) h3
    have ph4 := of_decide_eq_false h4
    refine WC.seq ?_
    refine WC.region ?_
    refine WL.op (d := 4) (.string ⟨#[]⟩) (k := ?_)
    refine WL.op (d := 5) (.int .i64 1) (k := ?_)
    refine WL.nil ?_
    refine WX.seqN ?_
    refine WC.ret ?_
    refine WX.seqR ?_
    refine WX.ret (rs := [.tmp 4, .tmp 5]) [.string ⟨#[]⟩, .int .i64 1] (.tuple #[.string ⟨#[]⟩, .int .i64 1]) ⟨(by kernel_rfl), (by kernel_rfl), trivial⟩ (k := ?_)
    obtain ⟨e1_, e2_, e3_⟩ := GDisk.read_no (d := d) (a := a) ph4
    exact ⟨by rw [e1_, e2_], by rw [e3_]; exact DiskAt.mkS hS hb h1 h2 ho, K⟩
  · have h5 : (decide (0 ≤ a ∧ a < (d.secs.length : Int))) = true := Bool.not_inj (y := true) h3
    have ph5 := of_decide_eq_true h5
    refine WC.skip ?_
    refine WX.seqN ?_
    refine WC.seq ?_
    refine WC.region ?_
    refine WL.op (d := 13) (.pointer (some ⟨b, 0, none⟩)) (k := ?_)
    refine WL.op (d := 14) (.pointer (some ⟨b, 0, none⟩)) (k := ?_)
    refine WL.op (d := 15) (.pointer (some ⟨b, 3, none⟩)) (k := ?_)
    refine WL.load (v := .int .i64 d.reads) (ld1 (T := 3) (i := 3) hb) (k := ?_)
    refine WL.op (d := 17) (.int .i64 (IntKind.i64.wrap (d.reads + 1))) (k := ?_)
    refine WL.op (d := 18) (.pointer (some ⟨b, 0, none⟩)) (k := ?_)
    refine WL.op (d := 19) (.pointer (some ⟨b, 3, none⟩)) (k := ?_)
    refine WL.store (v := .int .i64 (IntKind.i64.wrap (d.reads + 1))) (i := 3) (cs' := #[.slice A1 d.secs.length c1, .slice A2 d.opn.length c2, .int .i64 d.fail, .int .i64 (IntKind.i64.wrap (d.reads + 1))]) hb (k := fun w6 hb7 k8 => ?_)
    replace h1 := h1.keeps k8 (fun i hi e => (h1.offT hb (by decide)) (e ▸ hi))
    replace h2 := h2.keeps k8 (fun i hi e => (h2.offT hb (by decide)) (e ▸ hi))
    replace K := K.trans' k8 (fun i hi e => (hS i).2 (.inl e))
    clear hb
    refine WL.nil ?_
    refine WX.seqN ?_
    refine WC.seq ?_
    refine WC.seq ?_
    refine WC.region ?_
    refine WL.op (d := 20) (.pointer (some ⟨b, 0, none⟩)) (k := ?_)
    refine WL.callG (d := 21) (f := 70) (args := #[.pointer (some ⟨b, 0, none⟩)]) (dFails_b hb7 (by omega)) (k := fun e_ w9 h_ => ?_)
    obtain ⟨rfl, hb10, k11⟩ := h_
    refine ⟨_, rfl, ?_⟩
    replace h1 := h1.keeps k11 (fun i hi e => (h1.offT hb7 (by decide)) (e ▸ hi))
    replace h2 := h2.keeps k11 (fun i hi e => (h2.offT hb7 (by decide)) (e ▸ hi))
    replace K := K.trans' k11 (fun i hi e => (hS i).2 (.inl e))
    clear hb7
    refine WL.nil ?_
    refine WX.seqN ?_
    refine WC.cond (b := decide (d.fail = 1)) (ht := fun h12 => ?_) (hf := fun h12 => ?_)
    · have ph12 := of_decide_eq_true h12
      refine WC.seq ?_
      refine WC.region ?_
      refine WL.op (d := 4) (.string ⟨#[]⟩) (k := ?_)
      refine WL.op (d := 5) (.int .i64 18) (k := ?_)
      refine WL.nil ?_
      refine WX.seqN ?_
      refine WC.ret ?_
      refine WX.seqR ?_
      refine WX.ret (rs := [.tmp 4, .tmp 5]) [.string ⟨#[]⟩, .int .i64 18] (.tuple #[.string ⟨#[]⟩, .int .i64 18]) ⟨(by kernel_rfl), (by kernel_rfl), trivial⟩ (k := ?_)
      obtain ⟨e1_, e2_, e3_⟩ := GDisk.read_io (d := d) (a := a) ph5 ph12
      exact ⟨by rw [e1_, e2_], by rw [e3_]; exact DiskAt.mkS (d := ⟨d.secs, d.opn, tickF d.fail, IntKind.i64.wrap (d.reads + 1)⟩) hS hb10 h1 h2 (GDisk.ok_of ho), K⟩
    · have ph12 := of_decide_eq_false h12
      refine WC.skip ?_
      refine WX.seqN ?_
      refine WC.seq ?_
      refine WC.region ?_
      refine WL.op (d := 22) (.pointer (some ⟨b, 0, none⟩)) (k := ?_)
      refine WL.op (d := 23) (.pointer (some ⟨b, 0, none⟩)) (k := ?_)
      refine WL.op (d := 24) (.pointer (some ⟨b, 0, none⟩)) (k := ?_)
      refine WL.load (v := .slice A1 d.secs.length c1) (ld1 (T := 67) (i := 0) hb10) (k := ?_)
      refine WL.op (d := 26) (.int .i64 a) (k := ?_)
      obtain ⟨b13, o14, r15, hr16, hA17, he18⟩ := SlAt.at (h1.sl ekSec) (i := a) (by omega) (by omega)
      refine WL.rw (t := 25) (v := .slice (some ⟨b13, o14, none⟩) d.secs.length c1) (congrArg (fun a => Value.slice a d.secs.length c1) hA17) (k := ?_)
      refine WL.idx (T := 67) (E := 81) (m := 64) (b := b13) (o := o14) (len := d.secs.length) (cap := c1) (i := a) (kk := .i64) (d := 27) (by omega) (by omega) (k := ?_)
      refine WL.rw (t := 25) (v := .slice A1 d.secs.length c1) (congrArg (fun a => Value.slice a d.secs.length c1) (Eq.symm hA17)) (k := ?_)
      refine WL.load (v := secV r15) (he18.ldW (T := 81)) (k := ?_)
      refine WL.new (d := 6) (T := 81) (Value.cells (secV [])) (k := fun b19 w20 g21 hb22 k23 => ?_)
      have z24 := Nat.le_trans K.size g21
      have n25 : b ≠ b19 := Nat.ne_of_lt (Nat.lt_of_lt_of_le (lt_of_heap hb10) g21)
      have n26 := OwAt.off_new h1 g21
      have n27 := OwAt.off_new h2 g21
      replace hb10 := k23.heap hb10 id
      replace h1 := h1.adds k23
      replace h2 := h2.adds k23
      replace he18 := he18.adds k23
      replace K := K.trans (k23.any _)
      refine WL.store (v := secV r15) (i := 0) (cs' := (Value.cells (secV r15))) hb22 (k := fun w28 hb29 k30 => ?_)
      replace hb10 := k30.heap hb10 n25
      replace h1 := h1.keeps k30 (fun i hi e => (n26) (e ▸ hi))
      replace h2 := h2.keeps k30 (fun i hi e => (n27) (e ▸ hi))
      replace K := K.trans' k30 (fun i hi e => absurd (e ▸ hi) (Nat.not_lt.2 z24))
      clear hb22
      refine WL.nil ?_
      refine WX.seqN ?_
      refine WC.seq ?_
      refine WC.seq ?_
      refine WC.region ?_
      refine WL.op (d := 29) (.pointer (some ⟨b, 0, none⟩)) (k := ?_)
      refine WL.op (d := 30) (.pointer (some ⟨b, 0, none⟩)) (k := ?_)
      refine WL.op (d := 31) (.pointer (some ⟨b, 1, none⟩)) (k := ?_)
      refine WL.load (v := .slice A2 d.opn.length c2) (ld1 (T := 68) (i := 1) hb10) (k := ?_)
      refine WL.op (d := 33) (.int .i64 (d.opn.length : Int)) (k := ?_)
      refine WL.op (d := 34) (.int .i64 0) (k := ?_)
      refine WL.nil ?_
      refine WX.seqN ?_
      refine WC.block ?_
      change w28.heap[b19]? = some (.cells (Value.cells (secV (List.foldl (GDisk.over a) r15 (List.take (0 : Int).toNat d.opn)))) 81 (0, 0)) at hb29
      refine WC.loop (ι := Int) (fun (i : Int) => [(0, .pointer (some ⟨b, 0, none⟩)), (1, .int .i64 a), (4, .string ⟨#[]⟩), (5, .int .i64 0), (9, .pointer (some ⟨b, 0, none⟩)), (10, .int .i64 a), (11, .bool (decide (0 ≤ a ∧ a < (d.secs.length : Int)))), (12, .bool (!(decide (0 ≤ a ∧ a < (d.secs.length : Int))))), (13, .pointer (some ⟨b, 0, none⟩)), (14, .pointer (some ⟨b, 0, none⟩)), (15, .pointer (some ⟨b, 3, none⟩)), (16, .int .i64 d.reads), (17, .int .i64 (IntKind.i64.wrap (d.reads + 1))), (18, .pointer (some ⟨b, 0, none⟩)), (19, .pointer (some ⟨b, 3, none⟩)), (20, .pointer (some ⟨b, 0, none⟩)), (21, .bool (decide (d.fail = 1))), (22, .pointer (some ⟨b, 0, none⟩)), (23, .pointer (some ⟨b, 0, none⟩)), (24, .pointer (some ⟨b, 0, none⟩)), (25, .slice A1 d.secs.length c1), (26, .int .i64 a), (27, .pointer (some ⟨b13, o14 + (a).toNat * 64, none⟩)), (28, secV r15), (6, .pointer (some ⟨b19, 0, none⟩)), (29, .pointer (some ⟨b, 0, none⟩)), (30, .pointer (some ⟨b, 0, none⟩)), (31, .pointer (some ⟨b, 1, none⟩)), (32, .slice A2 d.opn.length c2), (33, .int .i64 (d.opn.length : Int)), (34, .int .i64 i)]) (fun (i : Int) (w_ : World) => (Keeps S w w_) ∧ (w_.heap[b]? = some (.cells #[.slice A1 d.secs.length c1, .slice A2 d.opn.length c2, .int .i64 (tickF d.fail), .int .i64 (IntKind.i64.wrap (d.reads + 1))] 70 (0, 0))) ∧ (OwAt secC 64 81 A1 c1 d.secs w_) ∧ (OwAt wrC 65 83 A2 c2 d.opn w_) ∧ (w_.heap[b19]? = some (.cells (Value.cells (secV (List.foldl (GDisk.over a) r15 (List.take i.toNat d.opn)))) 81 (0, 0))) ∧ (0 ≤ i) ∧ (i ≤ d.opn.length)) (fun (i : Int) => (d.opn.length - i).toNat) 0 ⟨(by kernel_rfl), (by kernel_rfl), (by kernel_rfl), (by kernel_rfl), (by kernel_rfl), (by kernel_rfl), (by kernel_rfl), (by kernel_rfl), (by kernel_rfl), (by kernel_rfl), (by kernel_rfl), (by kernel_rfl), (by kernel_rfl), (by kernel_rfl), (by kernel_rfl), (by kernel_rfl), (by kernel_rfl), (by kernel_rfl), (by kernel_rfl), (by kernel_rfl), (by kernel_rfl), (by kernel_rfl), (by kernel_rfl), (by kernel_rfl), (by kernel_rfl), (by kernel_rfl), (by kernel_rfl), (by kernel_rfl), (by kernel_rfl), (by kernel_rfl), (by kernel_rfl), trivial⟩ ⟨K, hb10, h1, h2, hb29, Int.le_refl 0, (by omega)⟩ ?_
      rintro i w31 ⟨K, hb32, hb33, hb35, hb37, i0, i1⟩
      refine WC.seq ?_
      refine WC.region ?_
      refine WL.op (d := 35) (.bool (decide (i < (d.opn.length : Int)))) (k := ?_)
      refine WL.nil ?_
      refine WX.seqN ?_
      refine WC.seq ?_
      refine WC.cond (b := decide (i < (d.opn.length : Int))) (ht := fun h38 => ?_) (hf := fun h38 => ?_)
      · have ph38 := of_decide_eq_true h38
        refine WC.skip ?_
        refine WX.seqN ?_
        refine WC.seq ?_
        refine WC.block ?_
        refine WC.seq ?_
        refine WC.region ?_
        obtain ⟨b39, o40, r41, hr42, hA43, he44⟩ := SlAt.at (hb35.sl ekWr) (i := i) (by omega) (by omega)
        refine WL.rw (t := 32) (v := .slice (some ⟨b39, o40, none⟩) d.opn.length c2) (congrArg (fun a => Value.slice a d.opn.length c2) hA43) (k := ?_)
        refine WL.idx (T := 68) (E := 83) (m := 65) (b := b39) (o := o40) (len := d.opn.length) (cap := c2) (i := i) (kk := .i64) (d := 36) (by omega) (by omega) (k := ?_)
        refine WL.rw (t := 32) (v := .slice A2 d.opn.length c2) (congrArg (fun a => Value.slice a d.opn.length c2) (Eq.symm hA43)) (k := ?_)
        refine WL.load (v := wrV r41) (he44.ldW (T := 83)) (k := ?_)
        refine WL.new (d := 8) (T := 83) (Value.cells (wrV (0, []))) (k := fun b45 w46 g47 hb48 k49 => ?_)
        have z50 := Nat.le_trans K.size g47
        have n51 : b ≠ b45 := Nat.ne_of_lt (Nat.lt_of_lt_of_le (lt_of_heap hb32) g47)
        have n52 := OwAt.off_new hb33 g47
        have n53 := OwAt.off_new hb35 g47
        have n54 : b19 ≠ b45 := Nat.ne_of_lt (Nat.lt_of_lt_of_le (lt_of_heap hb37) g47)
        replace hb32 := k49.heap hb32 id
        replace hb33 := hb33.adds k49
        replace hb35 := hb35.adds k49
        replace hb37 := k49.heap hb37 id
        replace he44 := he44.adds k49
        replace K := K.trans (k49.any _)
        refine WL.store (v := wrV r41) (i := 0) (cs' := (Value.cells (wrV r41))) hb48 (k := fun w55 hb56 k57 => ?_)
        replace hb32 := k57.heap hb32 n51
        replace hb33 := hb33.keeps k57 (fun i hi e => (n52) (e ▸ hi))
        replace hb35 := hb35.keeps k57 (fun i hi e => (n53) (e ▸ hi))
        replace hb37 := k57.heap hb37 n54
        replace K := K.trans' k57 (fun i hi e => absurd (e ▸ hi) (Nat.not_lt.2 z50))
        clear hb48
        refine WL.nil ?_
        refine WX.seqN ?_
        refine WC.seq ?_
        refine WC.region ?_
        refine WL.op (d := 38) (.pointer (some ⟨b45, 0, none⟩)) (k := ?_)
        refine WL.load (v := .int .i64 r41.1) (ld1 (T := 3) (i := 0) hb56) (k := ?_)
        refine WL.op (d := 40) (.int .i64 a) (k := ?_)
        refine WL.op (d := 41) (.bool (r41.1 == a)) (k := ?_)
        refine WL.nil ?_
        refine WX.seqN ?_
        refine WC.cond (b := r41.1 == a) (ht := fun h58 => ?_) (hf := fun h58 => ?_)
        · have ph58 := eq_of_beq h58
          refine WC.region ?_
          refine WL.op (d := 42) (.pointer (some ⟨b45, 1, none⟩)) (k := ?_)
          refine WL.load (v := secV r41.2) (ldN (T := 81) (i := 1) (m := 64) (l := (Value.cells (secV r41.2)).toList) hb56) (k := ?_)
          refine WL.store (v := secV r41.2) (i := 0) (cs' := (Value.cells (secV r41.2))) hb37 (k := fun w59 hb60 k61 => ?_)
          replace hb32 := k61.heap hb32 n25
          replace hb33 := hb33.keeps k61 (fun i hi e => (n26) (e ▸ hi))
          replace hb35 := hb35.keeps k61 (fun i hi e => (n27) (e ▸ hi))
          replace hb56 := k61.heap hb56 (Ne.symm n54)
          replace K := K.trans' k61 (fun i hi e => absurd (e ▸ hi) (Nat.not_lt.2 z24))
          clear hb37
          refine WL.nil ?_
          refine WX.blockN ?_
          refine WX.seqN ?_
          refine WC.region ?_
          refine WL.opE (d := 44) (.int .i64 (IntKind.i64.wrap (i + 1))) (v := .int .i64 (i + 1)) (congrArg (Value.int .i64) (IntWalk.i64_in _ (by omega))) (k := ?_)
          refine WL.op (d := 34) (.int .i64 (i + 1)) (k := ?_)
          refine WL.nil ?_
          rw [GDisk.ov_t (s := r15) i0 hr42 ph58] at hb60
          refine WX.round (i + 1) (by show (d.opn.length - (i + 1)).toNat < (d.opn.length - i).toNat; omega) ⟨(by kernel_rfl), (by kernel_rfl), (by kernel_rfl), (by kernel_rfl), (by kernel_rfl), (by kernel_rfl), (by kernel_rfl), (by kernel_rfl), (by kernel_rfl), (by kernel_rfl), (by kernel_rfl), (by kernel_rfl), (by kernel_rfl), (by kernel_rfl), (by kernel_rfl), (by kernel_rfl), (by kernel_rfl), (by kernel_rfl), (by kernel_rfl), (by kernel_rfl), (by kernel_rfl), (by kernel_rfl), (by kernel_rfl), (by kernel_rfl), (by kernel_rfl), (by kernel_rfl), (by kernel_rfl), (by kernel_rfl), (by kernel_rfl), (by kernel_rfl), (by kernel_rfl), trivial⟩ ⟨K, hb32, hb33, hb35, hb60, (by omega), (by omega)⟩
        · have ph58 := ne_of_beq_false h58
          refine WC.skip ?_
          refine WX.blockN ?_
          refine WX.seqN ?_
          refine WC.region ?_
          refine WL.opE (d := 44) (.int .i64 (IntKind.i64.wrap (i + 1))) (v := .int .i64 (i + 1)) (congrArg (Value.int .i64) (IntWalk.i64_in _ (by omega))) (k := ?_)
          refine WL.op (d := 34) (.int .i64 (i + 1)) (k := ?_)
          refine WL.nil ?_
          rw [GDisk.ov_f (s := r15) i0 hr42 ph58] at hb37
          refine WX.round (i + 1) (by show (d.opn.length - (i + 1)).toNat < (d.opn.length - i).toNat; omega) ⟨(by kernel_rfl), (by kernel_rfl), (by kernel_rfl), (by kernel_rfl), (by kernel_rfl), (by kernel_rfl), (by kernel_rfl), (by kernel_rfl), (by kernel_rfl), (by kernel_rfl), (by kernel_rfl), (by kernel_rfl), (by kernel_rfl), (by kernel_rfl), (by kernel_rfl), (by kernel_rfl), (by kernel_rfl), (by kernel_rfl), (by kernel_rfl), (by kernel_rfl), (by kernel_rfl), (by kernel_rfl), (by kernel_rfl), (by kernel_rfl), (by kernel_rfl), (by kernel_rfl), (by kernel_rfl), (by kernel_rfl), (by kernel_rfl), (by kernel_rfl), (by kernel_rfl), trivial⟩ ⟨K, hb32, hb33, hb35, hb37, (by omega), (by omega)⟩
      · have ph38 := of_decide_eq_false h38
        refine WC.exit ?_
        refine WX.seqE ?_
        refine WX.seqE ?_
        refine WX.blockE ?_
        refine WX.seqN ?_
        refine WC.seq ?_
        refine WC.region ?_
        refine WL.op (d := 45) (.slice (some ⟨b19, 0, none⟩) 64 64) (k := ?_)
        refine WL.conv (d := 46) (vx := .slice (some ⟨b19, 0, none⟩) 64 64) (v := .string ⟨((List.foldl (GDisk.over a) r15 (List.take i.toNat d.opn))).toArray⟩) (ofBytesSl (n := 64) (SlAt.of_sec hb37 (GDisk.overs_len (fun x hx => (ow_ x (List.mem_of_mem_take hx)).1) (os_ _ (List.mem_of_getElem? (by assumption))))) (GDisk.overs_len (fun x hx => (ow_ x (List.mem_of_mem_take hx)).1) (os_ _ (List.mem_of_getElem? (by assumption))))) (k := ?_)
        refine WL.op (d := 4) (.string ⟨((List.foldl (GDisk.over a) r15 (List.take i.toNat d.opn))).toArray⟩) (k := ?_)
        refine WL.op (d := 5) (.int .i64 0) (k := ?_)
        refine WL.nil ?_
        refine WX.seqN ?_
        refine WC.ret ?_
        refine WX.ret (rs := [.tmp 4, .tmp 5]) [.string ⟨((List.foldl (GDisk.over a) r15 (List.take i.toNat d.opn))).toArray⟩, .int .i64 0] (.tuple #[.string ⟨((List.foldl (GDisk.over a) r15 (List.take i.toNat d.opn))).toArray⟩, .int .i64 0]) ⟨(by kernel_rfl), (by kernel_rfl), trivial⟩ (k := ?_)
        obtain ⟨e1_, e2_, e3_⟩ := GDisk.read_ok (d := d) (a := a) ph5 ph12
        have e4_ := GDisk.at_eq (a := a) (i := i) hr16 (by omega)
        exact ⟨by rw [e1_, e2_, ← e4_], by rw [e3_]; exact DiskAt.mkS (d := ⟨d.secs, d.opn, tickF d.fail, IntKind.i64.wrap (d.reads + 1)⟩) hS hb32 hb33 hb35 (GDisk.ok_of ho), K⟩

set_option maxRecDepth 100000 in
set_option maxHeartbeats 4000000 in
theorem dFail_c {n : Int} (hn : n ≤ 9223372036854775807) {S : Nat → Prop} {b : Nat} {d : GDisk} {w : World} (hd : DiskAt S b d w) : Calls Tryz.prog 12 #[.pointer (some ⟨b, 0, none⟩), .int .i64 n] w fun e w' => e = .returned (.tuple #[]) ∧ DiskAt S b (d.failD n) w' ∧ Keeps S w w' := by
  have K : Keeps S w w := Keeps.refl _ w
  obtain ⟨A1, c1, A2, c2, hb, h1, h2, hS, ho⟩ := hd
  have ho2 := ho
  obtain ⟨os_, ow_, of0_, of1_, on_, om_⟩ := ho2
  refine Calls.start Tryz.func12 rfl (by kernel_rfl) ?_
  refine WC.seq ?_
  refine WC.region ?_
  refine WL.op (d := 4) (.pointer (some ⟨b, 0, none⟩)) (k := ?_)
  refine WL.op (d := 5) (.bool true) (k := ?_)
  refine WL.nil ?_
  refine WX.seqN ?_
  refine WC.condT (k := ?_)
  refine WC.region ?_
  refine WL.op (d := 6) (.pointer (some ⟨b, 0, none⟩)) (k := ?_)
  refine WL.op (d := 7) (.int .i64 n) (k := ?_)
  refine WL.op (d := 8) (.int .i64 (if 0 > n then 0 else n)) (k := ?_)
  refine WL.op (d := 9) (.pointer (some ⟨b, 0, none⟩)) (k := ?_)
  refine WL.op (d := 10) (.pointer (some ⟨b, 2, none⟩)) (k := ?_)
  refine WL.store (v := .int .i64 (if 0 > n then 0 else n)) (i := 2) (cs' := #[.slice A1 d.secs.length c1, .slice A2 d.opn.length c2, .int .i64 (if 0 > n then 0 else n), .int .i64 d.reads]) hb (k := fun w1 hb2 k3 => ?_)
  replace h1 := h1.keeps k3 (fun i hi e => (h1.offT hb (by decide)) (e ▸ hi))
  replace h2 := h2.keeps k3 (fun i hi e => (h2.offT hb (by decide)) (e ▸ hi))
  replace K := K.trans' k3 (fun i hi e => (hS i).2 (.inl e))
  clear hb
  refine WL.nil ?_
  refine WX.end (rs := []) [] (.tuple #[]) trivial (k := ?_)
  exact ⟨rfl, DiskAt.mkS (d := d.failD n) hS hb2 h1 h2 ⟨os_, ow_, by simp only [GDisk.failD]; omega, by simp only [GDisk.failD]; omega, on_, om_⟩, K⟩

theorem tickF_rng' {f : Int} (h : 0 ≤ f ∧ f ≤ 9223372036854775807) : 0 ≤ tickF f ∧ tickF f ≤ 9223372036854775807 := GDisk.tickF_rng h
theorem dlink {S : Nat → Prop} {b : Nat} {A1 A2 A2' : Option Addr} {w : World} (hS : ∀ k, S k ↔ k = b ∨ blk A1 = some k ∨ blk A2 = some k) (n : blk A2' = blk A2 ∨ ∃ k, blk A2' = some k ∧ w.heap.size ≤ k) : ∀ k, (k = b ∨ blk A1 = some k ∨ blk A2' = some k) → S k ∨ w.heap.size ≤ k := by
  intro k h
  rcases h with h | h | h
  · exact .inl ((hS k).2 (.inl h))
  · exact .inl ((hS k).2 (.inr (.inl h)))
  · rcases n with n | ⟨j, n, hj⟩
    · exact .inl ((hS k).2 (.inr (.inr (n ▸ h))))
    · rw [n] at h; cases h; exact .inr hj

set_option maxRecDepth 100000 in
set_option maxHeartbeats 4000000 in
theorem dWrite_c {S : Nat → Prop} {b : Nat} {d : GDisk} {w : World} {a : Int} {l : List UInt8} (hm : d.opn.length < 1000000) (hl : l.length ≤ 1000000) (hd : DiskAt S b d w) : Calls Tryz.prog 50 #[.pointer (some ⟨b, 0, none⟩), .int .i64 a, .string ⟨l.toArray⟩] w fun e w' => e = .returned (.int .i64 (d.writeE a l)) ∧ DkPost S b (d.writeD a l) w w' := by
  have K : Keeps S w w := Keeps.refl _ w
  obtain ⟨A1, c1, A2, c2, hb, h1, h2, hS, ho⟩ := hd
  have ho2 := ho
  obtain ⟨os_, ow_, of0_, of1_, on_, om_⟩ := ho2
  refine Calls.start Tryz.func50 rfl (by kernel_rfl) ?_
  refine WC.seq ?_
  refine WC.region ?_
  refine WL.op (d := 6) (.int .i64 0) (k := ?_)
  refine WL.nil ?_
  refine WX.seqN ?_
  refine WC.seq ?_
  refine WC.block ?_
  refine WC.seq ?_
  refine WC.region ?_
  refine WL.op (d := 9) (.pointer (some ⟨b, 0, none⟩)) (k := ?_)
  refine WL.op (d := 10) (.int .i64 a) (k := ?_)
  refine WL.callG (d := 11) (f := 69) (args := #[.pointer (some ⟨b, 0, none⟩), .int .i64 a]) (dThere_b (a := a) hb) (k := fun e_ w1 h_ => ⟨.bool (decide (0 ≤ a ∧ a < (d.secs.length : Int))), h_.1, ?_⟩)
  have k2 := h_.2; clear h_
  replace hb := k2.heap hb id
  replace h1 := h1.adds k2
  replace h2 := h2.adds k2
  replace K := K.trans (k2.any _)
  refine WL.op (d := 12) (.bool (!(decide (0 ≤ a ∧ a < (d.secs.length : Int))))) (k := ?_)
  refine WL.op (d := 13) (.bool (!(decide (0 ≤ a ∧ a < (d.secs.length : Int))))) (k := ?_)
  refine bsplit (!(decide (0 ≤ a ∧ a < (d.secs.length : Int)))) (fun h3 => ?_) (fun h3 => ?_)
  · have h4 : (decide (0 ≤ a ∧ a < (d.secs.length : Int))) = false := Bool.not_inj (y := false) h3
    have ph4 := of_decide_eq_false h4
    refine WL.rw (t := 13) (v := .bool true) (congrArg Value.bool h3) (k := ?_)
    refine WL.skip (d := 14) (k := ?_)
    refine WL.skip (d := 15) (k := ?_)
    refine WL.skip (d := 16) (k := ?_)
    refine WL.op (d := 17) (.bool true) (k := ?_)
    refine WL.op (d := 8) (.bool true) (k := ?_)
    refine WL.nil ?_
    refine WX.seqN ?_
    refine WC.condT (k := ?_)
    refine WC.seq ?_
    refine WC.region ?_
    refine WL.op (d := 6) (.int .i64 1) (k := ?_)
    refine WL.nil ?_
    refine WX.seqN ?_
    refine WC.ret ?_
    refine WX.blockR ?_
    refine WX.seqR ?_
    refine WX.ret (rs := [.tmp 6]) [.int .i64 1] (.int .i64 1) ⟨(by kernel_rfl), trivial⟩ (k := ?_)
    obtain ⟨e1_, e2_⟩ := GDisk.write_no (d := d) (a := a) (l := l) (fun h_ => ph4 h_.1)
    exact ⟨by rw [e1_], _, by rw [e2_]; exact DiskAt.mk (d := d) hb h1 h2 (ho), (fun k h => .inl ((hS k).2 h)), K⟩
  · have h5 : (decide (0 ≤ a ∧ a < (d.secs.length : Int))) = true := Bool.not_inj (y := true) h3
    have ph5 := of_decide_eq_true h5
    refine WL.rw (t := 13) (v := .bool false) (congrArg Value.bool h3) (k := ?_)
    refine WL.op (d := 14) (.string ⟨(l).toArray⟩) (k := ?_)
    refine WL.op (d := 15) (.int .i64 (l.length : Int)) (k := ?_)
    refine WL.op (d := 16) (.bool ((l.length : Int) != 64)) (k := ?_)
    refine WL.op (d := 17) (.bool ((l.length : Int) != 64)) (k := ?_)
    refine WL.op (d := 8) (.bool ((l.length : Int) != 64)) (k := ?_)
    refine WL.nil ?_
    refine WX.seqN ?_
    refine WC.cond (b := (l.length : Int) != 64) (ht := fun h6 => ?_) (hf := fun h6 => ?_)
    · have ph6 := bne_iff_ne.1 h6
      refine WC.seq ?_
      refine WC.region ?_
      refine WL.op (d := 6) (.int .i64 1) (k := ?_)
      refine WL.nil ?_
      refine WX.seqN ?_
      refine WC.ret ?_
      refine WX.blockR ?_
      refine WX.seqR ?_
      refine WX.ret (rs := [.tmp 6]) [.int .i64 1] (.int .i64 1) ⟨(by kernel_rfl), trivial⟩ (k := ?_)
      obtain ⟨e1_, e2_⟩ := GDisk.write_no (d := d) (a := a) (l := l) (fun h_ => ph6 (by omega))
      exact ⟨by rw [e1_], _, by rw [e2_]; exact DiskAt.mk (d := d) hb h1 h2 (ho), (fun k h => .inl ((hS k).2 h)), K⟩
    · have ph6 := of_bne_false h6
      refine WC.seq ?_
      refine WC.region ?_
      refine WL.op (d := 19) (.pointer (some ⟨b, 0, none⟩)) (k := ?_)
      refine WL.callG (d := 20) (f := 70) (args := #[.pointer (some ⟨b, 0, none⟩)]) (dFails_b hb (by omega)) (k := fun e_ w7 h_ => ?_)
      obtain ⟨rfl, hb8, k9⟩ := h_
      refine ⟨_, rfl, ?_⟩
      replace h1 := h1.keeps k9 (fun i hi e => (h1.offT hb (by decide)) (e ▸ hi))
      replace h2 := h2.keeps k9 (fun i hi e => (h2.offT hb (by decide)) (e ▸ hi))
      replace K := K.trans' k9 (fun i hi e => (hS i).2 (.inl e))
      clear hb
      refine WL.op (d := 18) (.bool (decide (d.fail = 1))) (k := ?_)
      refine WL.nil ?_
      refine WX.seqN ?_
      refine WC.cond (b := decide (d.fail = 1)) (ht := fun h10 => ?_) (hf := fun h10 => ?_)
      · have ph10 := of_decide_eq_true h10
        refine WC.seq ?_
        refine WC.region ?_
        refine WL.op (d := 6) (.int .i64 18) (k := ?_)
        refine WL.nil ?_
        refine WX.seqN ?_
        refine WC.ret ?_
        refine WX.blockR ?_
        refine WX.seqR ?_
        refine WX.ret (rs := [.tmp 6]) [.int .i64 18] (.int .i64 18) ⟨(by kernel_rfl), trivial⟩ (k := ?_)
        obtain ⟨e1_, e2_⟩ := GDisk.write_io (d := d) (a := a) (l := l) ⟨ph5, by omega⟩ ph10
        exact ⟨by rw [e1_], _, by rw [e2_]; exact DiskAt.mk (d := ⟨d.secs, d.opn, tickF d.fail, d.reads⟩) hb8 h1 h2 (GDisk.ok_of ho), (fun k h => .inl ((hS k).2 h)), K⟩
      · have ph10 := of_decide_eq_false h10
        refine WC.skip ?_
        refine WX.blockN ?_
        refine WX.seqN ?_
        refine WC.seq ?_
        refine WC.region ?_
        refine WL.op (d := 21) (.int .i64 a) (k := ?_)
        refine WL.op (d := 22) (wrV (a, [])) (k := ?_)
        refine WL.new (d := 7) (T := 83) (Value.cells (wrV (0, []))) (k := fun b11 w12 g13 hb14 k15 => ?_)
        have z16 := Nat.le_trans K.size g13
        have n17 : b ≠ b11 := Nat.ne_of_lt (Nat.lt_of_lt_of_le (lt_of_heap hb8) g13)
        have n18 := OwAt.off_new h1 g13
        have n19 := OwAt.off_new h2 g13
        replace hb8 := k15.heap hb8 id
        replace h1 := h1.adds k15
        replace h2 := h2.adds k15
        replace K := K.trans (k15.any _)
        refine WL.store (v := wrV (a, [])) (i := 0) (cs' := (Value.cells (wrV (a, [])))) hb14 (k := fun w20 hb21 k22 => ?_)
        replace hb8 := k22.heap hb8 n17
        replace h1 := h1.keeps k22 (fun i hi e => (n18) (e ▸ hi))
        replace h2 := h2.keeps k22 (fun i hi e => (n19) (e ▸ hi))
        replace K := K.trans' k22 (fun i hi e => absurd (e ▸ hi) (Nat.not_lt.2 z16))
        clear hb14
        refine WL.nil ?_
        refine WX.seqN ?_
        refine WC.seq ?_
        refine WC.region ?_
        refine WL.op (d := 23) (.pointer (some ⟨b11, 1, none⟩)) (k := ?_)
        refine WL.op (d := 24) (.slice (some ⟨b11, 1, none⟩) 64 64) (k := ?_)
        refine WL.op (d := 25) (.string ⟨(l).toArray⟩) (k := ?_)
        obtain ⟨w23, hc24, hb25, k26⟩ := run_copyWr (l := l) hb21 (by omega)
        refine WL.copyB (d := 26) (vx := .slice (some ⟨b11, 1, none⟩) 64 64) (vy := .string ⟨(l).toArray⟩) (v := _) hc24 (k := ?_)
        clear hc24
        replace hb8 := k26.heap hb8 n17
        replace h1 := h1.keeps k26 (fun i hi e => (n18) (e ▸ hi))
        replace h2 := h2.keeps k26 (fun i hi e => (n19) (e ▸ hi))
        replace K := K.trans' k26 (fun i hi e => absurd (e ▸ hi) (Nat.not_lt.2 z16))
        clear hb21
        refine WL.nil ?_
        refine WX.seqN ?_
        refine WC.seq ?_
        refine WC.mixed (fun k => k = b ∨ blk A2 = some k) 11 (k := fun w27 k28 => ?_)
        replace hb8 := k28.heap hb8 id
        replace h1 := h1.adds k28
        replace h2 := h2.adds k28
        replace hb25 := k28.heap hb25 id
        replace K := K.trans (k28.any _)
        have KC := Keeps.refl (fun k => k = b ∨ blk A2 = some k) w27
        have bh29 := hb8
        have bh30 := hb25
        have Kb := K
        refine WA.quiet2 0 (d := 27) (.pointer (some ⟨b, 0, none⟩)) KC (hi := rfl) (k := ?_)
        refine WA.quiet2 1 (d := 28) (.pointer (some ⟨b, 0, none⟩)) KC (hi := rfl) (k := ?_)
        refine WA.quiet2 2 (d := 29) (.pointer (some ⟨b, 0, none⟩)) KC (hi := rfl) (k := ?_)
        refine WA.quiet2 3 (d := 30) (.pointer (some ⟨b, 1, none⟩)) KC (hi := rfl) (k := ?_)
        refine WA.quietR2 5 (d := 32) (wrV (a, l)) KC (exec_load (fun w_ k_ => ldN (T := 83) (i := 0) (m := 65) (l := (Value.cells (wrV (a, l))).toList) (k_.heap bh30 (not_or.2 ⟨(Ne.symm n17), n19⟩)))) (hi := rfl) (k := ?_)
        refine WA.step2 4 6 (hi := rfl) (hj := rfl) (k1 := ?_) (k2 := ?_)
        · refine WL.load (v := .slice A2 d.opn.length c2) (ld1 (T := 68) (i := 1) hb8) (k := ?_)
          refine WL.nil ?_
          refine WX.nxt KC ?_
          refine WA.step 6 (hi := rfl) (k := ?_)
          refine WL.newF (d := 33) (T := 83) (Value.cells (wrV (a, l))) (fun b => .slice (some ⟨b, 0, none⟩) 1 1) (k := fun b31 w32 g33 hb34 k35 => ?_)
          have z36 := Nat.le_trans K.size g33
          have zc37 := Nat.le_trans KC.size g33
          have n38 : b ≠ b31 := Nat.ne_of_lt (Nat.lt_of_lt_of_le (lt_of_heap hb8) g33)
          have n39 := OwAt.off_new h1 g33
          have n40 := OwAt.off_new h2 g33
          have n41 : b11 ≠ b31 := Nat.ne_of_lt (Nat.lt_of_lt_of_le (lt_of_heap hb25) g33)
          replace hb8 := k35.heap hb8 id
          replace h1 := h1.adds k35
          replace h2 := h2.adds k35
          replace hb25 := k35.heap hb25 id
          replace K := K.trans (k35.any _)
          replace KC := KC.trans (k35.any _)
          refine WL.nil ?_
          refine WX.nxt KC ?_
          refine WA.step 7 (hi := rfl) (k := ?_)
          refine WL.append (d := 34) (T := 68) (cl := wrC) (xs := d.opn) (ys := [(a, l)]) (c := 1) ekWr h2 (SlAt.of_lit (ys := [(a, l)]) ekWr hb34 (by kernel_rfl)) (by first | omega | (simp; omega)) (k := fun A42 c43 w44 ho45 k46 n47 => ?_)
          have ol48 := nlink_up K n47
          have n49 := off_step n47 n19 (lt_of_heap hb25)
          replace hb8 := k46.heap hb8 (h2.offT hb8 (by decide))
          replace h1 := h1.keeps k46 (OwAt.offOw h1 h2 (by decide))
          replace hb25 := k46.heap hb25 n19
          replace K := K.trans' k46 (fun i hi e => (hS i).2 (.inr (.inr e)))
          replace KC := KC.trans' k46 (fun i hi e => .inr (e))
          clear h2
          refine WL.nil ?_
          refine WX.nxt KC ?_
          refine WA.quiet2 8 (d := 35) (.pointer (some ⟨b, 0, none⟩)) KC (hi := rfl) (k := ?_)
          refine WA.quiet2 9 (d := 36) (.pointer (some ⟨b, 1, none⟩)) KC (hi := rfl) (k := ?_)
          refine WA.step 10 (hi := rfl) (k := ?_)
          refine WL.store (v := .slice A42 ((d.opn ++ [(a, l)]).length) c43) (i := 1) (cs' := #[.slice A1 d.secs.length c1, .slice A42 ((d.opn ++ [(a, l)]).length) c43, .int .i64 (tickF d.fail), .int .i64 d.reads]) hb8 (k := fun w50 hb51 k52 => ?_)
          replace h1 := h1.keeps k52 (fun i hi e => (h1.offT hb8 (by decide)) (e ▸ hi))
          replace ho45 := ho45.keeps k52 (fun i hi e => (ho45.offT hb8 (by decide)) (e ▸ hi))
          replace hb25 := k52.heap hb25 (Ne.symm n17)
          replace K := K.trans' k52 (fun i hi e => (hS i).2 (.inl e))
          replace KC := KC.trans' k52 (fun i hi e => .inl (e))
          clear hb8
          refine WL.nil ?_
          refine WX.nxt KC ?_
          refine WA.done (k := ?_)
          clear KC
          refine WX.seqN ?_
          refine WC.seq ?_
          refine WC.region ?_
          refine WL.op (d := 6) (.int .i64 0) (k := ?_)
          refine WL.nil ?_
          refine WX.seqN ?_
          refine WC.ret ?_
          refine WX.ret (rs := [.tmp 6]) [.int .i64 0] (.int .i64 0) ⟨(by kernel_rfl), trivial⟩ (k := ?_)
          obtain ⟨e1_, e2_⟩ := GDisk.write_ok (d := d) (a := a) (l := l) ⟨ph5, by omega⟩ ph10
          exact ⟨by rw [e1_], _, by rw [e2_]; exact DiskAt.mk (d := ⟨d.secs, d.opn ++ [(a, l)], tickF d.fail, d.reads⟩) hb51 h1 ho45 (GDisk.write_dok ho ⟨ph5, by omega⟩ (by omega) _ _ (tickF_rng' ⟨of0_, of1_⟩)), dlink hS ol48, K⟩
        · refine WL.newF (d := 33) (T := 83) (Value.cells (wrV (a, l))) (fun b => .slice (some ⟨b, 0, none⟩) 1 1) (k := fun b53 w54 g55 hb56 k57 => ?_)
          have z58 := Nat.le_trans K.size g55
          have zc59 := Nat.le_trans KC.size g55
          have n60 : b ≠ b53 := Nat.ne_of_lt (Nat.lt_of_lt_of_le (lt_of_heap hb8) g55)
          have n61 := OwAt.off_new h1 g55
          have n62 := OwAt.off_new h2 g55
          have n63 : b11 ≠ b53 := Nat.ne_of_lt (Nat.lt_of_lt_of_le (lt_of_heap hb25) g55)
          replace hb8 := k57.heap hb8 id
          replace h1 := h1.adds k57
          replace h2 := h2.adds k57
          replace hb25 := k57.heap hb25 id
          replace K := K.trans (k57.any _)
          replace KC := KC.trans (k57.any _)
          refine WL.nil ?_
          refine WX.nxt KC ?_
          refine WA.step 4 (hi := rfl) (k := ?_)
          refine WL.load (v := .slice A2 d.opn.length c2) (ld1 (T := 68) (i := 1) hb8) (k := ?_)
          refine WL.nil ?_
          refine WX.nxt KC ?_
          refine WA.step 7 (hi := rfl) (k := ?_)
          refine WL.append (d := 34) (T := 68) (cl := wrC) (xs := d.opn) (ys := [(a, l)]) (c := 1) ekWr h2 (SlAt.of_lit (ys := [(a, l)]) ekWr hb56 (by kernel_rfl)) (by first | omega | (simp; omega)) (k := fun A64 c65 w66 ho67 k68 n69 => ?_)
          have ol70 := nlink_up K n69
          have n71 := off_step n69 n19 (lt_of_heap hb25)
          replace hb8 := k68.heap hb8 (h2.offT hb8 (by decide))
          replace h1 := h1.keeps k68 (OwAt.offOw h1 h2 (by decide))
          replace hb25 := k68.heap hb25 n19
          replace K := K.trans' k68 (fun i hi e => (hS i).2 (.inr (.inr e)))
          replace KC := KC.trans' k68 (fun i hi e => .inr (e))
          clear h2
          refine WL.nil ?_
          refine WX.nxt KC ?_
          refine WA.quiet2 8 (d := 35) (.pointer (some ⟨b, 0, none⟩)) KC (hi := rfl) (k := ?_)
          refine WA.quiet2 9 (d := 36) (.pointer (some ⟨b, 1, none⟩)) KC (hi := rfl) (k := ?_)
          refine WA.step 10 (hi := rfl) (k := ?_)
          refine WL.store (v := .slice A64 ((d.opn ++ [(a, l)]).length) c65) (i := 1) (cs' := #[.slice A1 d.secs.length c1, .slice A64 ((d.opn ++ [(a, l)]).length) c65, .int .i64 (tickF d.fail), .int .i64 d.reads]) hb8 (k := fun w72 hb73 k74 => ?_)
          replace h1 := h1.keeps k74 (fun i hi e => (h1.offT hb8 (by decide)) (e ▸ hi))
          replace ho67 := ho67.keeps k74 (fun i hi e => (ho67.offT hb8 (by decide)) (e ▸ hi))
          replace hb25 := k74.heap hb25 (Ne.symm n17)
          replace K := K.trans' k74 (fun i hi e => (hS i).2 (.inl e))
          replace KC := KC.trans' k74 (fun i hi e => .inl (e))
          clear hb8
          refine WL.nil ?_
          refine WX.nxt KC ?_
          refine WA.done (k := ?_)
          clear KC
          refine WX.seqN ?_
          refine WC.seq ?_
          refine WC.region ?_
          refine WL.op (d := 6) (.int .i64 0) (k := ?_)
          refine WL.nil ?_
          refine WX.seqN ?_
          refine WC.ret ?_
          refine WX.ret (rs := [.tmp 6]) [.int .i64 0] (.int .i64 0) ⟨(by kernel_rfl), trivial⟩ (k := ?_)
          obtain ⟨e1_, e2_⟩ := GDisk.write_ok (d := d) (a := a) (l := l) ⟨ph5, by omega⟩ ph10
          exact ⟨by rw [e1_], _, by rw [e2_]; exact DiskAt.mk (d := ⟨d.secs, d.opn ++ [(a, l)], tickF d.fail, d.reads⟩) hb73 h1 ho67 (GDisk.write_dok ho ⟨ph5, by omega⟩ (by omega) _ _ (tickF_rng' ⟨of0_, of1_⟩)), dlink hS ol70, K⟩

theorem flink {S : Nat → Prop} {b : Nat} {A1 A2 : Option Addr} {w : World} (hS : ∀ k, S k ↔ k = b ∨ blk A1 = some k ∨ blk A2 = some k) : ∀ k, (k = b ∨ blk A1 = some k ∨ blk none = some k) → S k ∨ w.heap.size ≤ k := by
  intro k h
  rcases h with h | h | h
  · exact .inl ((hS k).2 (.inl h))
  · exact .inl ((hS k).2 (.inr (.inl h)))
  · simp [blk] at h

set_option maxRecDepth 100000 in
set_option maxHeartbeats 4000000 in
theorem dFlush_c {S : Nat → Prop} {b : Nat} {d : GDisk} {w : World} (hd : DiskAt S b d w) : Calls Tryz.prog 51 #[.pointer (some ⟨b, 0, none⟩)] w fun e w' => e = .returned (.int .i64 d.flushE) ∧ DkPost S b d.flushD w w' := by
  have K : Keeps S w w := Keeps.refl _ w
  obtain ⟨A1, c1, A2, c2, hb, h1, h2, hS, ho⟩ := hd
  have ho2 := ho
  obtain ⟨os_, ow_, of0_, of1_, on_, om_⟩ := ho2
  refine Calls.start Tryz.func51 rfl (by kernel_rfl) ?_
  refine WC.seq ?_
  refine WC.region ?_
  refine WL.op (d := 2) (.int .i64 0) (k := ?_)
  refine WL.nil ?_
  refine WX.seqN ?_
  refine WC.seq ?_
  refine WC.block ?_
  refine WC.seq ?_
  refine WC.region ?_
  refine WL.op (d := 6) (.pointer (some ⟨b, 0, none⟩)) (k := ?_)
  refine WL.op (d := 7) (.bool false) (k := ?_)
  refine WL.op (d := 5) (.bool false) (k := ?_)
  refine WL.nil ?_
  refine WX.seqN ?_
  refine WC.condF (k := ?_)
  refine WC.seq ?_
  refine WC.region ?_
  refine WL.op (d := 9) (.pointer (some ⟨b, 0, none⟩)) (k := ?_)
  refine WL.callG (d := 10) (f := 70) (args := #[.pointer (some ⟨b, 0, none⟩)]) (dFails_b hb (by omega)) (k := fun e_ w1 h_ => ?_)
  obtain ⟨rfl, hb2, k3⟩ := h_
  refine ⟨_, rfl, ?_⟩
  replace h1 := h1.keeps k3 (fun i hi e => (h1.offT hb (by decide)) (e ▸ hi))
  replace h2 := h2.keeps k3 (fun i hi e => (h2.offT hb (by decide)) (e ▸ hi))
  replace K := K.trans' k3 (fun i hi e => (hS i).2 (.inl e))
  clear hb
  refine WL.op (d := 8) (.bool (decide (d.fail = 1))) (k := ?_)
  refine WL.nil ?_
  refine WX.seqN ?_
  refine WC.cond (b := decide (d.fail = 1)) (ht := fun h4 => ?_) (hf := fun h4 => ?_)
  · have ph4 := of_decide_eq_true h4
    refine WC.seq ?_
    refine WC.region ?_
    refine WL.op (d := 2) (.int .i64 18) (k := ?_)
    refine WL.nil ?_
    refine WX.seqN ?_
    refine WC.ret ?_
    refine WX.blockR ?_
    refine WX.seqR ?_
    refine WX.ret (rs := [.tmp 2]) [.int .i64 18] (.int .i64 18) ⟨(by kernel_rfl), trivial⟩ (k := ?_)
    obtain ⟨e1_, e2_⟩ := GDisk.flush_io ph4
    exact ⟨by rw [e1_], _, by rw [e2_]; exact DiskAt.mk (d := ⟨d.secs, d.opn, tickF d.fail, d.reads⟩) hb2 h1 h2 (GDisk.ok_of ho), (fun k h => .inl ((hS k).2 h)), K⟩
  · have ph4 := of_decide_eq_false h4
    refine WC.skip ?_
    refine WX.blockN ?_
    refine WX.seqN ?_
    refine WC.seq ?_
    refine WC.seq ?_
    refine WC.region ?_
    refine WL.op (d := 11) (.pointer (some ⟨b, 0, none⟩)) (k := ?_)
    refine WL.op (d := 12) (.pointer (some ⟨b, 0, none⟩)) (k := ?_)
    refine WL.op (d := 13) (.pointer (some ⟨b, 1, none⟩)) (k := ?_)
    refine WL.load (v := .slice A2 d.opn.length c2) (ld1 (T := 68) (i := 1) hb2) (k := ?_)
    refine WL.op (d := 15) (.int .i64 (d.opn.length : Int)) (k := ?_)
    refine WL.op (d := 16) (.int .i64 0) (k := ?_)
    refine WL.nil ?_
    refine WX.seqN ?_
    refine WC.block ?_
    change OwAt secC 64 81 A1 c1 (List.foldl GDisk.put d.secs (List.take (0 : Int).toNat d.opn)) w1 at h1
    refine WC.loop (ι := Int) (fun (i : Int) => [(0, .pointer (some ⟨b, 0, none⟩)), (2, .int .i64 0), (6, .pointer (some ⟨b, 0, none⟩)), (7, .bool false), (5, .bool false), (9, .pointer (some ⟨b, 0, none⟩)), (10, .bool (decide (d.fail = 1))), (8, .bool (decide (d.fail = 1))), (11, .pointer (some ⟨b, 0, none⟩)), (12, .pointer (some ⟨b, 0, none⟩)), (13, .pointer (some ⟨b, 1, none⟩)), (14, .slice A2 d.opn.length c2), (15, .int .i64 (d.opn.length : Int)), (16, .int .i64 i)]) (fun (i : Int) (w_ : World) => (Keeps S w w_) ∧ (w_.heap[b]? = some (.cells #[.slice A1 d.secs.length c1, .slice A2 d.opn.length c2, .int .i64 (tickF d.fail), .int .i64 d.reads] 70 (0, 0))) ∧ (OwAt secC 64 81 A1 c1 (List.foldl GDisk.put d.secs (List.take i.toNat d.opn)) w_) ∧ (OwAt wrC 65 83 A2 c2 d.opn w_) ∧ (0 ≤ i) ∧ (i ≤ d.opn.length)) (fun (i : Int) => (d.opn.length - i).toNat) 0 ⟨(by kernel_rfl), (by kernel_rfl), (by kernel_rfl), (by kernel_rfl), (by kernel_rfl), (by kernel_rfl), (by kernel_rfl), (by kernel_rfl), (by kernel_rfl), (by kernel_rfl), (by kernel_rfl), (by kernel_rfl), (by kernel_rfl), (by kernel_rfl), trivial⟩ ⟨K, hb2, h1, h2, Int.le_refl 0, (by omega)⟩ ?_
    rintro i w5 ⟨K, hb6, hb7, hb9, i0, i1⟩
    have pl_ := GDisk.puts_len (List.take i.toNat d.opn) d.secs
    refine WC.seq ?_
    refine WC.region ?_
    refine WL.op (d := 17) (.bool (decide (i < (d.opn.length : Int)))) (k := ?_)
    refine WL.nil ?_
    refine WX.seqN ?_
    refine WC.seq ?_
    refine WC.cond (b := decide (i < (d.opn.length : Int))) (ht := fun h11 => ?_) (hf := fun h11 => ?_)
    · have ph11 := of_decide_eq_true h11
      refine WC.skip ?_
      refine WX.seqN ?_
      refine WC.seq ?_
      refine WC.block ?_
      refine WC.seq ?_
      refine WC.region ?_
      obtain ⟨b12, o13, r14, hr15, hA16, he17⟩ := SlAt.at (hb9.sl ekWr) (i := i) (by omega) (by omega)
      refine WL.rw (t := 14) (v := .slice (some ⟨b12, o13, none⟩) d.opn.length c2) (congrArg (fun a => Value.slice a d.opn.length c2) hA16) (k := ?_)
      obtain ⟨_, _, _⟩ := ow_ _ (List.mem_of_getElem? hr15)
      refine WL.idx (T := 68) (E := 83) (m := 65) (b := b12) (o := o13) (len := d.opn.length) (cap := c2) (i := i) (kk := .i64) (d := 18) (by omega) (by omega) (k := ?_)
      refine WL.rw (t := 14) (v := .slice A2 d.opn.length c2) (congrArg (fun a => Value.slice a d.opn.length c2) (Eq.symm hA16)) (k := ?_)
      refine WL.load (v := wrV r14) (he17.ldW (T := 83)) (k := ?_)
      refine WL.new (d := 4) (T := 83) (Value.cells (wrV (0, []))) (k := fun b18 w19 g20 hb21 k22 => ?_)
      have z23 := Nat.le_trans K.size g20
      have n24 : b ≠ b18 := Nat.ne_of_lt (Nat.lt_of_lt_of_le (lt_of_heap hb6) g20)
      have n25 := OwAt.off_new hb7 g20
      have n26 := OwAt.off_new hb9 g20
      replace hb6 := k22.heap hb6 id
      replace hb7 := hb7.adds k22
      replace hb9 := hb9.adds k22
      replace he17 := he17.adds k22
      replace K := K.trans (k22.any _)
      refine WL.store (v := wrV r14) (i := 0) (cs' := (Value.cells (wrV r14))) hb21 (k := fun w27 hb28 k29 => ?_)
      replace hb6 := k29.heap hb6 n24
      replace hb7 := hb7.keeps k29 (fun i hi e => (n25) (e ▸ hi))
      replace hb9 := hb9.keeps k29 (fun i hi e => (n26) (e ▸ hi))
      replace K := K.trans' k29 (fun i hi e => absurd (e ▸ hi) (Nat.not_lt.2 z23))
      clear hb21
      refine WL.nil ?_
      refine WX.seqN ?_
      refine WC.tail 9 (k := ?_)
      refine WQ.op (d := 20) (.pointer (some ⟨b, 0, none⟩)) (k := ?_)
      refine WQ.op (d := 21) (.pointer (some ⟨b, 0, none⟩)) (k := ?_)
      refine WQ.op (d := 22) (.pointer (some ⟨b, 0, none⟩)) (k := ?_)
      refine WQ.load (v := .slice A1 d.secs.length c1) (fun w_ k_ => ld1 (T := 67) (i := 0) (k_.heap hb6 id)) (k := ?_)
      refine WQ.op (d := 24) (.pointer (some ⟨b18, 0, none⟩)) (k := ?_)
      refine WQ.load (v := .int .i64 r14.1) (fun w_ k_ => ld1 (T := 3) (i := 0) (k_.heap hb28 id)) (k := ?_)
      refine WQ.op (d := 26) (.pointer (some ⟨b18, 1, none⟩)) (k := ?_)
      refine WQ.load (v := secV r14.2) (fun w_ k_ => ldN (T := 81) (i := 1) (m := 64) (l := (Value.cells (secV r14.2)).toList) (k_.heap hb28 id)) (k := ?_)
      obtain ⟨b30, o31, r32, hr33, hA34, he35⟩ := SlAt.at (hb7.sl ekSec) (i := r14.1) (by omega) (by omega)
      refine WQ.rw (t := 23) (v := .slice (some ⟨b30, o31, none⟩) d.secs.length c1) (congrArg (fun a => Value.slice a d.secs.length c1) hA34) (k := ?_)
      refine WQ.idx (T := 67) (E := 81) (m := 64) (b := b30) (o := o31) (len := d.secs.length) (cap := c1) (i := r14.1) (kk := .i64) (d := 28) (by omega) (by omega) (k := ?_)
      refine WQ.rw (t := 23) (v := .slice A1 d.secs.length c1) (congrArg (fun a => Value.slice a d.secs.length c1) (Eq.symm hA34)) (k := ?_)
      refine WQ.nilL (fun w36 k37 => ?_)
      replace hb6 := k37.heap hb6 id
      replace hb7 := hb7.adds k37
      replace hb9 := hb9.adds k37
      replace hb28 := k37.heap hb28 id
      replace he35 := he35.adds k37
      replace K := K.trans (k37.any _)
      obtain ⟨w38, hs39, ho40, k41⟩ := OwAt.set (T := 81) ekSec hb7 hA34 (i := r14.1) (by omega) (by omega) r14.2 (by kernel_rfl)
      refine WL.wr (v := secV r14.2) hs39 (k := ?_)
      clear hs39
      replace hb6 := k41.heap hb6 (hb7.offT hb6 (by decide))
      replace hb9 := hb9.keeps k41 (OwAt.offOw hb9 hb7 (by decide))
      replace hb28 := k41.heap hb28 n25
      replace K := K.trans' k41 (fun i hi e => (hS i).2 (.inr (.inl e)))
      clear hb7
      refine WL.nil ?_
      refine WX.blockN ?_
      refine WX.seqN ?_
      refine WC.region ?_
      refine WL.opE (d := 29) (.int .i64 (IntKind.i64.wrap (i + 1))) (v := .int .i64 (i + 1)) (congrArg (Value.int .i64) (IntWalk.i64_in _ (by omega))) (k := ?_)
      refine WL.op (d := 16) (.int .i64 (i + 1)) (k := ?_)
      refine WL.nil ?_
      have e42 : List.set (List.foldl GDisk.put d.secs (List.take i.toNat d.opn)) (r14.1).toNat r14.2 = List.foldl GDisk.put d.secs (List.take (i + 1).toNat d.opn) := GDisk.put_succ i0 hr15
      rw [e42] at ho40
      refine WX.round (i + 1) (by show (d.opn.length - (i + 1)).toNat < (d.opn.length - i).toNat; omega) ⟨(by kernel_rfl), (by kernel_rfl), (by kernel_rfl), (by kernel_rfl), (by kernel_rfl), (by kernel_rfl), (by kernel_rfl), (by kernel_rfl), (by kernel_rfl), (by kernel_rfl), (by kernel_rfl), (by kernel_rfl), (by kernel_rfl), (by kernel_rfl), trivial⟩ ⟨K, hb6, ho40, hb9, (by omega), (by omega)⟩
    · have ph11 := of_decide_eq_false h11
      refine WC.exit ?_
      refine WX.seqE ?_
      refine WX.seqE ?_
      refine WX.blockE ?_
      refine WX.seqN ?_
      refine WC.seq ?_
      refine WC.region ?_
      refine WL.op (d := 30) (.pointer (some ⟨b, 0, none⟩)) (k := ?_)
      refine WL.op (d := 31) (.pointer (some ⟨b, 0, none⟩)) (k := ?_)
      refine WL.op (d := 32) (.pointer (some ⟨b, 1, none⟩)) (k := ?_)
      refine WL.store (v := .slice none 0 0) (i := 1) (cs' := #[.slice A1 d.secs.length c1, .slice none 0 0, .int .i64 (tickF d.fail), .int .i64 d.reads]) hb6 (k := fun w43 hb44 k45 => ?_)
      replace hb7 := hb7.keeps k45 (fun i hi e => (hb7.offT hb6 (by decide)) (e ▸ hi))
      replace hb9 := hb9.keeps k45 (fun i hi e => (hb9.offT hb6 (by decide)) (e ▸ hi))
      replace K := K.trans' k45 (fun i hi e => (hS i).2 (.inl e))
      clear hb6
      refine WL.nil ?_
      refine WX.seqN ?_
      refine WC.seq ?_
      refine WC.region ?_
      refine WL.op (d := 2) (.int .i64 0) (k := ?_)
      refine WL.nil ?_
      refine WX.seqN ?_
      refine WC.ret ?_
      refine WX.ret (rs := [.tmp 2]) [.int .i64 0] (.int .i64 0) ⟨(by kernel_rfl), trivial⟩ (k := ?_)
      obtain ⟨e1_, e2_⟩ := GDisk.flush_ok ph4
      have e_ := take_endI (xs := d.opn) (i := i) (by omega)
      rw [e_] at hb7
      rw [← GDisk.puts_len d.opn d.secs] at hb44
      exact ⟨by rw [e1_], _, by rw [e2_]; exact DiskAt.mk (d := ⟨List.foldl GDisk.put d.secs d.opn, [], tickF d.fail, d.reads⟩) hb44 hb7 OwAt.nil (GDisk.flush_dok ho _ _ (tickF_rng' ⟨of0_, of1_⟩)), flink hS, K⟩

end Go.Proofs.YtdoenmokahbeaaaGreatDoor

/- A log, plainly. -/
namespace Go.Proofs.YtdoenmokahbeaaaGreatDoor
open Go.RowKit
set_option linter.unusedVariables false
set_option linter.unusedSimpArgs false

theorem dLen_d {S : Nat → Prop} {b : Nat} {d : GDisk} {w : World} (hd : DiskAt S b d w) : Calls Tryz.prog 35 #[.pointer (some ⟨b, 0, none⟩)] w fun e w' => e = .returned (.int .i64 (d.secs.length : Int)) ∧ Adds w w' := by
  obtain ⟨A1, c1, A2, c2, hb, h1, h2, hS, ho⟩ := hd
  exact dLen_b hb
namespace GDisk
theorem at_len {d : GDisk} (h : d.ok) {a : Int} (ha : d.has a) : (d.at_ a).length = 64 := by
  obtain ⟨h1, h2, _⟩ := h
  refine overs_len (fun x hx => (h2 x hx).1) (h1 _ ?_)
  rw [List.getD_eq_getElem?_getD, List.getElem?_eq_getElem (by unfold has at ha; omega)]
  exact List.getElem_mem _
theorem readT_len {d : GDisk} (h : d.ok) (a : Int) : (d.readT a).length ≤ 64 := by
  unfold readT; split
  · next k => rw [at_len h k.1]; exact Nat.le_refl _
  · simp
theorem readD_opn (d : GDisk) (a : Int) : (d.readD a).opn = d.opn := by unfold readD; split <;> rfl
theorem readD_secs (d : GDisk) (a : Int) : (d.readD a).secs = d.secs := by unfold readD; split <;> rfl
/-- A record. -/
def recP (d : GDisk) (a : Int) (e i : Nat) : Prop := d.readE a = 0 ∧ isCell (d.readT a) ∧ rdE (d.readT a) = e ∧ rdN (d.readT a) = i
instance (d : GDisk) (a : Int) (e i : Nat) : Decidable (d.recP a e i) := by unfold recP; infer_instance
def recT (d : GDisk) (a : Int) (e i : Nat) : List UInt8 := if d.recP a e i then rdP (d.readT a) else []
def wrsE (d : GDisk) (a : Int) (x : List UInt8) : Int := if d.writeE a x ≠ 0 then d.writeE a x else (d.writeD a x).flushE
def wrsD (d : GDisk) (a : Int) (x : List UInt8) : GDisk := if d.writeE a x ≠ 0 then d.writeD a x else (d.writeD a x).flushD
theorem rec_io {d : GDisk} {a : Int} {e i : Nat} (h : ¬ d.readE a = 0) : d.recT a e i = [] ∧ decide (d.recP a e i) = false := ⟨if_neg fun k => h k.1, decide_eq_false fun k => h k.1⟩
theorem rec_no {d : GDisk} {a : Int} {e i : Nat} (h : ¬ (isCell (d.readT a) ∧ rdE (d.readT a) = e ∧ rdN (d.readT a) = i)) : d.recT a e i = [] ∧ decide (d.recP a e i) = false := ⟨if_neg fun k => h k.2, decide_eq_false fun k => h k.2⟩
theorem rec_ok {d : GDisk} {a : Int} {e i : Nat} (h0 : d.readE a = 0) (h : isCell (d.readT a) ∧ rdE (d.readT a) = e ∧ rdN (d.readT a) = i) : d.recT a e i = rdP (d.readT a) ∧ decide (d.recP a e i) = true := ⟨if_pos ⟨h0, h⟩, decide_eq_true ⟨h0, h⟩⟩
theorem recT_len {d : GDisk} {a : Int} {e i : Nat} : (d.recT a e i).length ≤ 43 := by
  unfold recT; split
  · exact rdP_len _
  · simp
theorem wrs_no {d : GDisk} {a : Int} {x : List UInt8} (h : d.writeE a x ≠ 0) : d.wrsE a x = d.writeE a x ∧ d.wrsD a x = d.writeD a x := ⟨if_pos h, if_pos h⟩
theorem wrs_ok {d : GDisk} {a : Int} {x : List UInt8} (h : d.writeE a x = 0) : d.wrsE a x = (d.writeD a x).flushE ∧ d.wrsD a x = (d.writeD a x).flushD := ⟨if_neg fun k => k h, if_neg fun k => k h⟩
end GDisk
theorem DkPost.of {S : Nat → Prop} {b : Nat} {d : GDisk} {w0 w : World} {S' : Nat → Prop} (h : DiskAt S' b d w) (lk : ∀ k, S' k → S k ∨ w0.heap.size ≤ k) (K : Keeps S w0 w) : DkPost S b d w0 w := ⟨S', h, lk, K⟩

end Go.Proofs.YtdoenmokahbeaaaGreatDoor
namespace Go.Proofs.YtdoenmokahbeaaaGreatDoor
open Go.RowKit
set_option linter.unusedVariables false
set_option linter.unusedSimpArgs false

theorem GDisk.zero_ok {n : Nat} (h : n ≤ 1024) : (GDisk.zero n).ok := by
  refine ⟨fun s hs => ?_, (fun x hx => by cases hx), (by simp [GDisk.zero]), (by simp [GDisk.zero]), (by simpa [GDisk.zero] using h), (by simp [GDisk.zero])⟩
  rw [List.eq_of_mem_replicate hs]; simp
theorem zlink {b m : Nat} {A : Option Addr} (hb : m ≤ b) (ho : ∀ i, blk A = some i → m ≤ i) : ∀ k, (k = b ∨ blk A = some k ∨ blk none = some k) → m ≤ k := by
  intro k h
  rcases h with rfl | h | h
  · exact hb
  · exact ho k h
  · simp [blk] at h

set_option maxRecDepth 100000 in
set_option maxHeartbeats 4000000 in
theorem dNew_ok {n : Nat} (n0 : 1 ≤ n) (n1 : n ≤ 1024) (w : World) : Calls Tryz.prog 8 #[.int .i64 (n : Int)] w fun e w' => ∃ b S, e = .returned (.pointer (some ⟨b, 0, none⟩)) ∧ w.heap.size ≤ b ∧ DiskAt S b (GDisk.zero n) w' ∧ (∀ k, S k → w.heap.size ≤ k) ∧ Adds w w' := by
  have K : Keeps (fun _ => False) w w := Keeps.refl _ w
  refine Calls.start Tryz.func8 rfl (by kernel_rfl) ?_
  refine WC.seq ?_
  refine WC.region ?_
  refine WL.op (d := 2) (.pointer none) (k := ?_)
  refine WL.nil ?_
  refine WX.seqN ?_
  refine WC.seq ?_
  refine WC.seq ?_
  refine WC.region ?_
  refine WL.op (d := 3) (.int .i64 (n : Int)) (k := ?_)
  refine WL.op (d := 4) (.bool (decide ((n : Int) < 1))) (k := ?_)
  refine WL.op (d := 5) (.bool (decide ((n : Int) < 1))) (k := ?_)
  refine bsplit (decide ((n : Int) < 1)) (fun h1 => ?_) (fun h1 => ?_)
  · have ph1 := of_decide_eq_true h1
    refine WL.rw (t := 5) (v := .bool true) (congrArg Value.bool h1) (k := ?_)
    refine WL.skip (d := 6) (k := ?_)
    refine WL.skip (d := 7) (k := ?_)
    refine WL.op (d := 8) (.bool true) (k := ?_)
    refine WL.nil ?_
    refine WX.seqN ?_
    refine WC.condT (k := ?_)
    refine WC.seq ?_
    refine WC.region ?_
    refine WL.op (d := 2) (.pointer none) (k := ?_)
    refine WL.nil ?_
    refine WX.seqN ?_
    refine WC.ret ?_
    refine WX.seqR ?_
    refine WX.ret (rs := [.tmp 2]) [.pointer none] (.pointer none) ⟨(by kernel_rfl), trivial⟩ (k := ?_)
    exfalso; omega
  · have ph1 := of_decide_eq_false h1
    refine WL.rw (t := 5) (v := .bool false) (congrArg Value.bool h1) (k := ?_)
    refine WL.op (d := 6) (.int .i64 (n : Int)) (k := ?_)
    refine WL.op (d := 7) (.bool (decide ((n : Int) > 1024))) (k := ?_)
    refine WL.op (d := 8) (.bool (decide ((n : Int) > 1024))) (k := ?_)
    refine WL.nil ?_
    refine WX.seqN ?_
    refine WC.cond (b := decide ((n : Int) > 1024)) (ht := fun h2 => ?_) (hf := fun h2 => ?_)
    · have ph2 := of_decide_eq_true h2
      refine WC.seq ?_
      refine WC.region ?_
      refine WL.op (d := 2) (.pointer none) (k := ?_)
      refine WL.nil ?_
      refine WX.seqN ?_
      refine WC.ret ?_
      refine WX.seqR ?_
      refine WX.ret (rs := [.tmp 2]) [.pointer none] (.pointer none) ⟨(by kernel_rfl), trivial⟩ (k := ?_)
      exfalso; omega
    · have ph2 := of_decide_eq_false h2
      refine WC.skip ?_
      refine WX.seqN ?_
      refine WC.seq ?_
      refine WC.region ?_
      refine WL.op (d := 9) (.int .i64 (n : Int)) (k := ?_)
      obtain ⟨b3, w4, g5, hr6, ho7, k8⟩ := run_makeSecs n (by omega) w
      refine WL.makeS (d := 10) (vx := .int .i64 (n : Int)) (vy := .int .i64 (n : Int)) (v := .slice (some ⟨b3, 0, none⟩) n n) hr6 (k := ?_)
      clear hr6
      have z10 := Nat.le_trans K.size g5
      replace K := K.trans (k8.any _)
      have ol9 : ∀ i, blk (some ⟨b3, 0, none⟩) = some i → w.heap.size ≤ i := fun i e => by cases e; exact z10
      refine WL.op (d := 11) (.agg #[.slice (some ⟨b3, 0, none⟩) n n, .slice none 0 0, .int .i64 0, .int .i64 0]) (k := ?_)
      refine WL.new (d := 12) (T := 70) #[.slice (some ⟨b3, 0, none⟩) n n, .slice none 0 0, .int .i64 0, .int .i64 0] (k := fun b11 w12 g13 hb14 k15 => ?_)
      have z16 := Nat.le_trans K.size g13
      have n17 := OwAt.off_new ho7 g13
      replace ho7 := ho7.adds k15
      replace K := K.trans (k15.any _)
      refine WL.op (d := 2) (.pointer (some ⟨b11, 0, none⟩)) (k := ?_)
      refine WL.nil ?_
      refine WX.seqN ?_
      refine WC.ret ?_
      refine WX.ret (rs := [.tmp 2]) [.pointer (some ⟨b11, 0, none⟩)] (.pointer (some ⟨b11, 0, none⟩)) ⟨(by kernel_rfl), trivial⟩ (k := ?_)
      have l_ : (GDisk.zero n).secs.length = n := by simp [GDisk.zero]
      exact ⟨_, _, rfl, z16, DiskAt.mk (d := GDisk.zero n) (by rw [l_]; exact hb14) ho7 OwAt.nil (GDisk.zero_ok (by omega)), zlink z16 ol9, K⟩

end Go.Proofs.YtdoenmokahbeaaaGreatDoor

/- Disks without faults, plainly. -/
namespace Go.Proofs.YtdoenmokahbeaaaGreatDoor
open Go.RowKit
set_option linter.unusedVariables false
set_option linter.unusedSimpArgs false

/-- no fault to come, nothing open -/
def GDisk.good (d : GDisk) : Prop := d.fail = 0 ∧ d.opn = []
/-- a sector's record -/
def recS (s : List UInt8) (e i : Nat) : Prop := isCell s ∧ rdE s = e ∧ rdN s = i
namespace GDisk
section
variable {d : GDisk} {a : Int} {x : List UInt8}
theorem read_good (h : d.good) (ha : d.has a) : d.readE a = 0 ∧ d.readT a = d.secs.getD a.toNat [] ∧ d.readD a = ⟨d.secs, [], 0, IntKind.i64.wrap (d.reads + 1)⟩ := by
  obtain ⟨hf, ho⟩ := h
  obtain ⟨e1, e2, e3⟩ := read_ok ha (show ¬ d.fail = 1 by omega)
  refine ⟨e2, ?_, ?_⟩
  · rw [e1, at_, ho]; rfl
  · rw [e3, hf, ho]; rfl
theorem wrs_good (h : d.good) (ha : d.has a) (hx : x.length = 64) : d.wrsE a x = 0 ∧ d.wrsD a x = ⟨d.secs.set a.toNat x, [], 0, d.reads⟩ := by
  obtain ⟨hf, ho⟩ := h
  obtain ⟨e1, e2⟩ := write_ok (d := d) ⟨ha, hx⟩ (show ¬ d.fail = 1 by omega)
  obtain ⟨e3, e4⟩ := wrs_ok e1
  have h2 : (d.writeD a x) = ⟨d.secs, [(a, x)], 0, d.reads⟩ := by rw [e2, ho, hf]; rfl
  have hf2 : ¬ (d.writeD a x).fail = 1 := by rw [h2]; simp
  obtain ⟨e5, e6⟩ := flush_ok hf2
  refine ⟨by rw [e3, e5], ?_⟩
  rw [e4, e6, h2]; rfl
theorem recP_good (h : d.good) (ha : d.has a) {e i : Nat} : d.recP a e i ↔ recS (d.secs.getD a.toNat []) e i := by
  obtain ⟨e1, e2, e3⟩ := read_good h ha
  unfold recP recS
  rw [e1, e2]; simp
end
end GDisk
theorem recS_mk {p : List UInt8} {e n e' i : Nat} (hp : p.length ≤ 43) (he : e < 18446744073709551616) (hn : n < 18446744073709551616) : recS (makeS p e n) e' i ↔ e = e' ∧ n = i := by
  obtain ⟨h1, h2, h3, h4⟩ := rd_mk hp he hn
  unfold recS
  rw [h2, h3]
  exact ⟨fun k => k.2, fun k => ⟨of_decide_eq_true h4, k⟩⟩
theorem recS_zero {e i : Nat} (he : ¬ e = 0) : ¬ recS (List.replicate 64 0) e i := fun h => by
  have h2 := h.2.1
  rw [rdE, if_pos h.1] at h2
  have : epS (List.replicate 64 0) = 0 := by decide
  omega
end Go.Proofs.YtdoenmokahbeaaaGreatDoor
