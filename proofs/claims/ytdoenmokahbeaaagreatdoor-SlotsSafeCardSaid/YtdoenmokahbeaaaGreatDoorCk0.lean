
/- Crashes, plainly; a part of a row's element copied. -/
import Derived.Test.YtdoenmokahbeaaaGreatDoorDkA
namespace Go.Proofs.YtdoenmokahbeaaaGreatDoor
open Go.RowKit
set_option linter.unusedVariables false
set_option linter.unusedSimpArgs false

def restF (n b : Int) : Int := Int.tmod (Int.tmod n b + b) b
theorem restF_rng {n b : Int} (h : 0 < b) : 0 ≤ restF n b ∧ restF n b < b := by
  unfold restF
  have h1 := tmod_rng n b h
  exact ⟨Int.tmod_nonneg _ (by omega), Int.tmod_lt_of_pos _ h⟩
/-- how many bytes of an open write are there -/
def leftF (k a : Int) : Int := if restF k 3 = 1 then 64 else if restF k 3 = 2 then restF a 65 else 0
theorem leftF_rng (k a : Int) : 0 ≤ leftF k a ∧ leftF k a ≤ 64 := by
  unfold leftF
  have := restF_rng (n := a) (b := 65) (by decide)
  split
  · omega
  · split <;> omega
def fateF (fs : List (Int × Int)) (i : Nat) : Int := match fs[i]? with
  | some f => leftF f.1 f.2
  | none => 0
theorem fateF_rng (fs : List (Int × Int)) (i : Nat) : 0 ≤ fateF fs i ∧ fateF fs i ≤ 64 := by
  unfold fateF; split
  · exact leftF_rng _ _
  · decide
theorem fateF_some {fs : List (Int × Int)} {i : Nat} {f : Int × Int} (h : fs[i]? = some f) : fateF fs i = leftF f.1 f.2 := by rw [fateF, h]
theorem fateF_none {fs : List (Int × Int)} {i : Nat} (h : fs.length ≤ i) : fateF fs i = 0 := by rw [fateF, List.getElem?_eq_none h]
def mixS (n : Int) (x old : List UInt8) : List UInt8 := x.take n.toNat ++ old.drop n.toNat
theorem mixS_len {n : Int} {x old : List UInt8} (hx : x.length = 64) (ho : old.length = 64) : (mixS n x old).length = 64 := by
  simp [mixS, hx, ho]; omega
/-- the sectors, and how many writes are lost, behind so many open writes -/
def crashN (fs : List (Int × Int)) (o : List (Int × List UInt8)) (s0 : List (List UInt8)) : Nat → List (List UInt8) × Int
  | 0 => (s0, 0)
  | i + 1 => match o[i]? with
    | some w => ((crashN fs o s0 i).1.set w.1.toNat (mixS (fateF fs i) w.2 ((crashN fs o s0 i).1.getD w.1.toNat [])), if fateF fs i = 64 then (crashN fs o s0 i).2 else (crashN fs o s0 i).2 + 1)
    | none => crashN fs o s0 i
section
variable {fs : List (Int × Int)} {o : List (Int × List UInt8)} {s0 : List (List UInt8)}
theorem crashN_succ {i : Nat} {w : Int × List UInt8} (h : o[i]? = some w) : crashN fs o s0 (i + 1) = ((crashN fs o s0 i).1.set w.1.toNat (mixS (fateF fs i) w.2 ((crashN fs o s0 i).1.getD w.1.toNat [])), if fateF fs i = 64 then (crashN fs o s0 i).2 else (crashN fs o s0 i).2 + 1) := by
  rw [crashN, h]
theorem crashN_len : ∀ i : Nat, (crashN fs o s0 i).1.length = s0.length
  | 0 => rfl
  | i + 1 => by
    unfold crashN; split
    · simp [crashN_len i]
    · exact crashN_len i
theorem crashN_all (ho : ∀ x ∈ o, x.2.length = 64 ∧ 0 ≤ x.1 ∧ x.1 < s0.length) (hs : ∀ s ∈ s0, s.length = 64) : ∀ (i : Nat), ∀ s ∈ (crashN fs o s0 i).1, s.length = 64
  | 0 => hs
  | i + 1 => by
    unfold crashN; split
    · next w hw =>
      intro s h
      rcases List.mem_or_eq_of_mem_set h with h | rfl
      · exact crashN_all ho hs i s h
      · obtain ⟨h1, h2, h3⟩ := ho w (List.mem_of_getElem? hw)
        refine mixS_len h1 (crashN_all ho hs i _ ?_)
        have hl := crashN_len (fs := fs) (o := o) (s0 := s0) i
        rw [List.getD_eq_getElem?_getD, List.getElem?_eq_getElem (by omega)]
        exact List.getElem_mem _
    · exact crashN_all ho hs i
theorem crashN_less (fs : List (Int × Int)) (o : List (Int × List UInt8)) (s0 : List (List UInt8)) : ∀ i : Nat, 0 ≤ (crashN fs o s0 i).2 ∧ (crashN fs o s0 i).2 ≤ i
  | 0 => by simp [crashN]
  | i + 1 => by
    have := crashN_less fs o s0 i
    unfold crashN; split
    · simp only
      split <;> omega
    · omega
end
theorem crash_step {fs : List (Int × Int)} {o : List (Int × List UInt8)} {s0 : List (List UInt8)} {i n : Int} {q : Int × List UInt8} {r : List UInt8} (h0 : 0 ≤ i) (hq : o[i.toNat]? = some q) (hr : (crashN fs o s0 i.toNat).1[q.1.toNat]? = some r) (hn : fateF fs i.toNat = n) : (crashN fs o s0 i.toNat).1.set q.1.toNat (mixS n q.2 r) = (crashN fs o s0 (i + 1).toNat).1 := by
  rw [show (i + 1).toNat = i.toNat + 1 by omega, crashN_succ hq, hn, List.getD_eq_getElem?_getD, hr]; rfl
theorem crash_l1 {fs : List (Int × Int)} {o : List (Int × List UInt8)} {s0 : List (List UInt8)} {i n : Int} {q : Int × List UInt8} (h0 : 0 ≤ i) (hq : o[i.toNat]? = some q) (hn : fateF fs i.toNat = n) (h : n = 64) : (crashN fs o s0 i.toNat).2 = (crashN fs o s0 (i + 1).toNat).2 := by
  rw [show (i + 1).toNat = i.toNat + 1 by omega, crashN_succ hq, hn]; exact (if_pos h).symm
theorem crash_l2 {fs : List (Int × Int)} {o : List (Int × List UInt8)} {s0 : List (List UInt8)} {i n : Int} {q : Int × List UInt8} (h0 : 0 ≤ i) (hq : o[i.toNat]? = some q) (hn : fateF fs i.toNat = n) (h : ¬ n = 64) : (crashN fs o s0 i.toNat).2 + 1 = (crashN fs o s0 (i + 1).toNat).2 := by
  rw [show (i + 1).toNat = i.toNat + 1 by omega, crashN_succ hq, hn]; exact (if_neg h).symm
namespace GDisk
def crashE (d : GDisk) (fs : List (Int × Int)) : Int := (crashN fs d.opn d.secs d.opn.length).2
def crashD (d : GDisk) (fs : List (Int × Int)) : GDisk := ⟨(crashN fs d.opn d.secs d.opn.length).1, [], 0, 0⟩
theorem crashD_ok {d : GDisk} (h : d.ok) (fs : List (Int × Int)) : (d.crashD fs).ok := by
  obtain ⟨h1, h2, h3, h4, h5, h6⟩ := h
  exact ⟨crashN_all h2 h1 _, by simp [crashD], by simp [crashD], by simp [crashD], by simp only [crashD]; rw [crashN_len]; exact h5, by simp [crashD]⟩
end GDisk
/-! rows -/
section
variable {α : Type} {cl : α → List Value} {m : Nat} {E : TypeId} {A : Option Addr} {cap : Nat} {xs : List α} {w w' : World}
theorem OwAt.same (h : OwAt cl m E A cap xs w) (hs : ∀ i, blk A = some i → w'.heap[i]? = w.heap[i]?) : OwAt cl m E A cap xs w' := by
  refine ⟨h.1, ?_⟩
  rcases h.2 with h1 | ⟨g, cap', cur, h1, h2, hg, h3⟩
  · exact .inl h1
  · refine .inr ⟨g, cap', cur, h1, h2, ?_, h3⟩
    simp only [Value.slice.injEq] at h1
    rw [hs g (by rw [h1.1]; rfl)]; exact hg
/-- the first so many cells of an element stored -/
theorem OwAt.setN {T : TypeId} (hk : EK cl m E) (h : OwAt cl m E A cap xs w) {b o : Nat} (hA : A = some ⟨b, o, none⟩) {i : Int} (h0 : 0 ≤ i) (h1 : i < xs.length) (y : α) {old : α} (hq : xs[i.toNat]? = some old) {n : Nat} (hn : n ≤ m) (hd : (cl y).drop n = (cl old).drop n) (hT : (Tryz.prog.info? T).map (·.size) = some m) :
    ∃ w', (storeCells ⟨b, o + i.toNat * m, none⟩ ((cl y).take n)).run Tryz.prog w = .ok () w' ∧ OwAt cl m E A cap (xs.set i.toNat y) w' ∧ Keeps (fun k => blk A = some k) w w' := by
  rcases h.block with ⟨rfl, _⟩ | ⟨g, cur, rfl, hg, h2, h3, h4, h5⟩
  · cases hA
  · cases hA
    have hi : i.toNat < xs.length := by omega
    have hle : (i.toNat + 1) * m ≤ xs.length * m := Nat.mul_le_mul_right m hi
    rw [Nat.add_mul, Nat.one_mul] at hle
    have hle2 : xs.length * m ≤ cap * m := Nat.mul_le_mul_right m h2
    have hty : ((cl y).take n).length = n := by rw [List.length_take, hk.len]; omega
    have hone := oneC_of hk.one y oneC_of'
    obtain ⟨w1, hr1, hb1, hk1⟩ := run_storeCells (P := Tryz.prog) (i := 0 + i.toNat * m) ((cl y).take n) 0 w cur hg (by rw [hty]; omega) (by
      rw [List.all_eq_true] at hone ⊢
      exact fun u hu => hone u (List.mem_of_mem_take hu))
    obtain ⟨w2, hr2, hb2, hk2⟩ := run_storeCells (P := Tryz.prog) (i := 0 + i.toNat * m) (cl y) 0 w cur hg (by rw [hk.len]; omega) hone
    obtain ⟨w3, hr3, ho3, hk3⟩ := OwAt.set (T := T) hk h rfl h0 h1 y hT
    have hr23 : w3 = w2 := by
      obtain ⟨j, hj, hjs⟩ := Option.map_eq_some_iff.1 hT
      unfold storeVar at hr3
      simp [sizeOf, typeInfo, hj, hjs, Value.cells, hk.len] at hr3
      have e : (0 : Nat) + i.toNat * m = i.toNat * m := Nat.zero_add _
      rw [e] at hr2
      have h9 : Result.ok () w2 = (Result.ok () w3 : Result Unit) := hr2.symm.trans hr3
      exact (Result.ok.inj h9).2.symm
    subst hr23
    refine ⟨w1, hr1, ho3.same ?_, hk1.mono fun k _ e => by simp [blk, e]⟩
    intro k hk'
    simp only [blk, Option.map_some, Option.some.injEq] at hk'
    subst hk'
    have hel : (cur.toList.drop (i.toNat * m)).take m = cl old := by
      have := (SlAt.at (h.sl hk) h0 h1)
      obtain ⟨b', o', r, hr, hA', cs, E', fz, hh, hsz, hcl⟩ := this
      cases hA'
      rw [hg] at hh; cases hh
      rw [hq] at hr; cases hr
      simpa using hcl
    have e1 : cl y = (cl y).take n ++ (cl old).drop n := by rw [← hd, List.take_append_drop]
    have e2 : (cl y).take n ++ cur.toList.drop (i.toNat * m + n) = cl y ++ cur.toList.drop (i.toNat * m + m) := by
      conv => rhs; rw [e1]
      rw [List.append_assoc, ← hel, List.drop_take, List.drop_drop]
      have : cur.toList.drop (i.toNat * m + m) = (cur.toList.drop (i.toNat * m + n)).drop (m - n) := by rw [List.drop_drop, show i.toNat * m + n + (m - n) = i.toNat * m + m by omega]
      rw [this, List.take_append_drop]
    have key : repl cur (0 + i.toNat * m + 0) ((cl y).take n) = repl cur (0 + i.toNat * m + 0) (cl y) := by
      unfold repl
      simp only [Nat.add_zero, Nat.zero_add, hty, hk.len]
      rw [e2]
    rw [hb1, hb2, key]
end
theorem run_sliceArr {P : Program} {T E : TypeId} {b o : Nat} {n : Int} {w : World} (h0 : 0 ≤ n) (h1 : n ≤ 64) (hT : P.underlying T = some (.array 64 E) := by kernel_rfl) (hE : (P.info? E).map (·.size) = some 1 := by kernel_rfl) :
    (Instr.sliceAt T (.pointer (some ⟨b, o, none⟩)) none (some (.int .i64 n)) none).run P w = .ok (.slice (some ⟨b, o, none⟩) n.toNat 64) w := by
  obtain ⟨j, hj, hjs⟩ := Option.map_eq_some_iff.1 hE
  simp [Instr.sliceAt, run_underlying hT, Instr.sureAddr, Instr.sliceBounds, Instr.sliceBound, asIntOf, sizeOf, typeInfo, hj, hjs]
  rw [if_pos ⟨h0, h1⟩, addr_add0]

/-- A part of an open write copied over a sector. -/
theorem run_copyEl {A : Option Addr} {c b o b7 : Nat} {xs : List (List UInt8)} {x : Int × List UInt8} {q : List UInt8} {i n : Int} {T7 ty : TypeId} {w : World} (h : OwAt secC 64 81 A c xs w) (hA : A = some ⟨b, o, none⟩) (h0 : 0 ≤ i) (h1 : i < xs.length) (hq : xs[i.toNat]? = some q) (hn0 : 0 ≤ n) (hn : n ≤ 64)
    (hb7 : w.heap[b7]? = some (.cells (Value.cells (wrV x)) T7 (0, 0))) (hx : x.2.length = 64) (hq64 : q.length = 64) :
    ∃ w', (Builtin.copy_ #[87, 87] ty #[.slice (some ⟨b, o + i.toNat * 64, none⟩) n.toNat 64, .slice (some ⟨b7, 1, none⟩) n.toNat 64]).run Tryz.prog w = .ok (.int .i64 (n.toNat : Int)) w' ∧
      OwAt secC 64 81 A c (xs.set i.toNat (mixS n x.2 q)) w' ∧ Keeps (fun k => blk A = some k) w w' := by
  have hn' : n.toNat ≤ 64 := by omega
  have hm64 := mixS_len (n := n) hx hq64
  have hc1 : (secC (mixS n x.2 q)).take n.toNat = (secC x.2).take n.toNat := by
    rw [secC_bytes hm64, secC_bytes hx, u8C_flat, u8C_flat]
    simp only [Lib.byteCells, mixS, List.map_append, ← List.map_take]
    rw [← List.map_append, ← List.map_take, List.take_append_of_le_length (by simp; omega), List.take_take, Nat.min_self]
  have hc2 : (secC (mixS n x.2 q)).drop n.toNat = (secC q).drop n.toNat := by
    rw [secC_bytes hm64, secC_bytes hq64, u8C_flat, u8C_flat]
    simp only [Lib.byteCells, ← List.map_drop, mixS]
    rw [List.drop_append_of_le_length (by simp; omega), List.drop_of_length_le (by simp; omega), List.nil_append]
  obtain ⟨w', hr, ho, hk⟩ := OwAt.setN (T := 81) ekSec h hA h0 h1 (mixS n x.2 q) hq hn' hc2 (by kernel_rfl)
  refine ⟨w', ?_, ho, hk⟩
  obtain ⟨i0, hi, hz0, hz1, hz2⟩ := info_parts infoByte
  have hsz : (Value.cells (wrV x)).size = 65 := by simp [Value.cells, wrC, secC]
  have hl := run_loadCellsFrom (P := Tryz.prog) (b := b7) (i := 1) hb7 n.toNat 0 #[] (by rw [hsz]; omega)
  rw [hc1] at hr
  simp [Builtin.copy_, run_underlying Tryz.underlying87, Builtin.lenOf, Builtin.firstCells, sizeOf, typeInfo, hi, hz1, loadCells, hl]
  rw [show (Value.cells (wrV x)).toList.tail = secC x.2 from rfl, hr]
  simp [Result.andThen, goInt]

abbrev ftC (x : Int × Int) : List Value := [.int .i64 x.1, .int .i64 x.2]
theorem ekFt : EK ftC 2 86 := EK.of (z := .agg #[.int .i64 0, .int .i64 0]) (bt := 16) (fun _ => rfl) (fun _ => rfl) (by decide) (by kernel_rfl) rfl (by decide)

theorem ne_get {α : Type} {xs : List α} {i : Nat} {r : α} (h : xs[i]? = some r) : xs ≠ [] := fun e => by rw [e] at h; simp at h

theorem OwAt.empty {α : Type} {cl : α → List Value} {m : Nat} {E : TypeId} {b : Nat} {w : World} (hb : w.heap[b]? = some (.cells #[] E (0, 0))) : OwAt cl m E (some ⟨b, 0, none⟩) 0 [] w :=
  ⟨by simp, .inr ⟨b, 0, #[], rfl, Nat.zero_le _, hb, Nat.zero_le _, Nat.zero_le _, by simp, by simp⟩⟩
theorem dFail_at {S : Nat → Prop} {dk : Nat} {sc : List (List UInt8)} {opn : List (Int × List UInt8)} {f0 rd f : Int} {w : World} (hd : DiskAt S dk ⟨sc, opn, f0, rd⟩ w) (h0 : 0 ≤ f) (h1 : f ≤ 9223372036854775807) : Calls Tryz.prog 12 #[.pointer (some ⟨dk, 0, none⟩), .int .i64 f] w fun e w' => e = .returned (.tuple #[]) ∧ DiskAt S dk ⟨sc, opn, f, rd⟩ w' ∧ Keeps S w w' := by
  refine (dFail_c (n := f) (by omega) hd).mono ?_
  rintro e w' ⟨g1, g2, g3⟩
  have : GDisk.failD ⟨sc, opn, f0, rd⟩ f = ⟨sc, opn, f, rd⟩ := by unfold GDisk.failD; rw [if_neg (by omega)]
  rw [this] at g2
  exact ⟨g1, g2, g3⟩
theorem and3_eq {x : Int} : 0 ≤ bits .and .i64 x 3 ∧ bits .and .i64 x 3 ≤ 3 := by
  have h : (BitVec.ofInt 64 x &&& BitVec.ofInt 64 3).toNat = (BitVec.ofInt 64 x).toNat % 4 := by rw [BitVec.toNat_and, show (BitVec.ofInt 64 3).toNat = 2 ^ 2 - 1 from rfl, Nat.and_two_pow_sub_one_eq_mod]
  have e : bits .and .i64 x 3 = IntKind.wrap .i64 ((BitVec.ofInt 64 x &&& BitVec.ofInt 64 3).toNat : Int) := rfl
  rw [e, h]
  have hl := Nat.mod_lt (BitVec.ofInt 64 x).toNat (show 0 < 4 by decide)
  rw [IntWalk.i64_in _ (by omega)]
  omega
theorem and7_eq {x : Int} : 0 ≤ bits .and .i64 x 7 ∧ bits .and .i64 x 7 ≤ 7 := by
  have h : (BitVec.ofInt 64 x &&& BitVec.ofInt 64 7).toNat = (BitVec.ofInt 64 x).toNat % 8 := by rw [BitVec.toNat_and, show (BitVec.ofInt 64 7).toNat = 2 ^ 3 - 1 from rfl, Nat.and_two_pow_sub_one_eq_mod]
  have e : bits .and .i64 x 7 = IntKind.wrap .i64 ((BitVec.ofInt 64 x &&& BitVec.ofInt 64 7).toNat : Int) := rfl
  rw [e, h]
  have hl := Nat.mod_lt (BitVec.ofInt 64 x).toNat (show 0 < 8 by decide)
  rw [IntWalk.i64_in _ (by omega)]
  omega
/-- a try of a law: a text, an operation that fails, fates -/
structure GTry where
  t : List UInt8
  f : Int
  A : Option Addr
  c : Nat
  fs : List (Int × Int)
abbrev tryC (y : GTry) : List Value := [.string ⟨y.t.toArray⟩, .int .i64 y.f, .slice y.A y.fs.length y.c]
theorem ekTry7 : EK tryC 3 41 := EK.of (z := .agg #[.string ⟨#[]⟩, .int .i64 0, .slice none 0 0]) (bt := 48) (fun _ => rfl) (fun _ => rfl) (by decide) (by kernel_rfl) rfl (by decide)
theorem ekTry6 : EK tryC 3 57 := EK.of (z := .agg #[.string ⟨#[]⟩, .int .i64 0, .slice none 0 0]) (bt := 48) (fun _ => rfl) (fun _ => rfl) (by decide) (by kernel_rfl) rfl (by decide)
/-- the tries as they came in -/
def TriesOk (ys : List GTry) (w : World) : Prop := ∀ y ∈ ys, y.t.length ≤ 9223372036854775807 ∧ SlAt ftC 2 86 y.A y.fs w ∧ y.fs.length ≤ 9223372036854775807

/-- A torn sector that has the new one's tag is the new one. -/
theorem torn_tag {p old : List UInt8} {e n k : Nat} (hp : p.length ≤ 43) (ho : old.length = 64) (hk : k ≤ 64) (he : e < 18446744073709551616) (hn : n < 18446744073709551616) (hne : ¬ (epS old = e ∧ nuS old = n)) (h2 : epS ((makeS p e n).take k ++ old.drop k) = e) (h3 : nuS ((makeS p e n).take k ++ old.drop k) = n) :
    (makeS p e n).take k ++ old.drop k = makeS p e n := by
  have hl := makeS_len hp e n
  have ht : ((makeS p e n).take k ++ old.drop k).length = 64 := by simp [hl, ho]; omega
  have e1 := tag_back ht
  rw [h2, h3, ← make_tag (p := p) hp] at e1
  by_cases k48 : k ≤ 48
  · exfalso
    have e2 : ((makeS p e n).take k ++ old.drop k).drop 48 = old.drop 48 := by
      rw [List.drop_append, List.drop_of_length_le (by simp; omega)]
      simp [hl]
      congr 1; omega
    have e3 := tag_back ho
    rw [e2, make_tag hp] at e1
    rw [← e1] at e3
    unfold tagsS at e3
    obtain ⟨e4, e5⟩ := List.append_inj e3 (by rw [be_len, be_len])
    exact hne ⟨be_inj (epS_lt ho) he e4, be_inj (nuS_lt ho) hn e5⟩
  · have e2 : ((makeS p e n).take k ++ old.drop k).take 48 = (makeS p e n).take 48 := by
      rw [List.take_append_of_le_length (by simp [hl]; omega), List.take_take, Nat.min_eq_left (by omega)]
    rw [← List.take_append_drop 48 ((makeS p e n).take k ++ old.drop k), e2, ← e1, List.take_append_drop]

end Go.Proofs.YtdoenmokahbeaaaGreatDoor
