/- Ck0, Ck1, Sx9, Rd0, Rd1: one behind the other. -/
import Derived.Test.YtnkkbeafcfjkmaaGreatDoorPk2
namespace Go.Proofs.YtnkkbeafcfjkmaaGreatDoor
open Go.RowKit
set_option linter.unusedVariables false
set_option linter.unusedSimpArgs false
def restF (n b : Int) : Int := Int.tmod (Int.tmod n b + b) b
theorem restF_rng {n b : Int} (h : 0 < b) : 0 ≤ restF n b ∧ restF n b < b := by
  unfold restF
  have h1 := tmod_rng n b h
  exact ⟨Int.tmod_nonneg _ (by omega), Int.tmod_lt_of_pos _ h⟩
def leftF (k a : Int) : Int := if restF k 3 = 1 then 64 else if restF k 3 = 2 then restF a 65 else 0
theorem leftF_rng (k a : Int) : 0 ≤ leftF k a ∧ leftF k a ≤ 64 := by
  unfold leftF
  have := restF_rng (n := a) (b := 65) (by decide)
  split
  · omega
  · split <;> omega
def fateF (fs : List (Int × Int)) (i : Nat) : Int := match fs[i]? with
  | some f => leftF f.1 f.2
  | none => 0
theorem fateF_some {fs : List (Int × Int)} {i : Nat} {f : Int × Int} (h : fs[i]? = some f) : fateF fs i = leftF f.1 f.2 := by rw [fateF, h]
theorem fateF_none {fs : List (Int × Int)} {i : Nat} (h : fs.length ≤ i) : fateF fs i = 0 := by rw [fateF, List.getElem?_eq_none h]
def mixS (n : Int) (x old : List UInt8) : List UInt8 := x.take n.toNat ++ old.drop n.toNat
theorem mixS_len {n : Int} {x old : List UInt8} (hx : x.length = 64) (ho : old.length = 64) : (mixS n x old).length = 64 := by
  simp [mixS, hx, ho]; omega
def crashN (fs : List (Int × Int)) (o : List (Int × List UInt8)) (s0 : List (List UInt8)) : Nat → List (List UInt8) × Int
  | 0 => (s0, 0)
  | i + 1 => match o[i]? with
    | some w => ((crashN fs o s0 i).1.set w.1.toNat (mixS (fateF fs i) w.2 ((crashN fs o s0 i).1.getD w.1.toNat [])), if fateF fs i = 64 then (crashN fs o s0 i).2 else (crashN fs o s0 i).2 + 1)
    | none => crashN fs o s0 i
section
variable {fs : List (Int × Int)} {o : List (Int × List UInt8)} {s0 : List (List UInt8)}
theorem crashN_succ {i : Nat} {w : Int × List UInt8} (h : o[i]? = some w) : crashN fs o s0 (i + 1) = ((crashN fs o s0 i).1.set w.1.toNat (mixS (fateF fs i) w.2 ((crashN fs o s0 i).1.getD w.1.toNat [])), if fateF fs i = 64 then (crashN fs o s0 i).2 else (crashN fs o s0 i).2 + 1) := by
  rw [crashN, h]
theorem crashN_len : ∀ i : Nat, (crashN fs o s0 i).1.length = s0.length
  | 0 => rfl
  | i + 1 => by
    unfold crashN; split
    · simp [crashN_len i]
    · exact crashN_len i
theorem crashN_all (ho : ∀ x ∈ o, x.2.length = 64 ∧ 0 ≤ x.1 ∧ x.1 < s0.length) (hs : ∀ s ∈ s0, s.length = 64) : ∀ (i : Nat), ∀ s ∈ (crashN fs o s0 i).1, s.length = 64
  | 0 => hs
  | i + 1 => by
    unfold crashN; split
    · next w hw =>
      intro s h
      rcases List.mem_or_eq_of_mem_set h with h | rfl
      · exact crashN_all ho hs i s h
      · obtain ⟨h1, h2, h3⟩ := ho w (List.mem_of_getElem? hw)
        refine mixS_len h1 (crashN_all ho hs i _ ?_)
        have hl := crashN_len (fs := fs) (o := o) (s0 := s0) i
        rw [List.getD_eq_getElem?_getD, List.getElem?_eq_getElem (by omega)]
        exact List.getElem_mem _
    · exact crashN_all ho hs i
theorem crashN_less (fs : List (Int × Int)) (o : List (Int × List UInt8)) (s0 : List (List UInt8)) : ∀ i : Nat, 0 ≤ (crashN fs o s0 i).2 ∧ (crashN fs o s0 i).2 ≤ i
  | 0 => by simp [crashN]
  | i + 1 => by
    have := crashN_less fs o s0 i
    unfold crashN; split
    · simp only
      split <;> omega
    · omega
end
theorem crash_step {fs : List (Int × Int)} {o : List (Int × List UInt8)} {s0 : List (List UInt8)} {i n : Int} {q : Int × List UInt8} {r : List UInt8} (h0 : 0 ≤ i) (hq : o[i.toNat]? = some q) (hr : (crashN fs o s0 i.toNat).1[q.1.toNat]? = some r) (hn : fateF fs i.toNat = n) : (crashN fs o s0 i.toNat).1.set q.1.toNat (mixS n q.2 r) = (crashN fs o s0 (i + 1).toNat).1 := by
  rw [show (i + 1).toNat = i.toNat + 1 by omega, crashN_succ hq, hn, List.getD_eq_getElem?_getD, hr]; rfl
theorem crash_l1 {fs : List (Int × Int)} {o : List (Int × List UInt8)} {s0 : List (List UInt8)} {i n : Int} {q : Int × List UInt8} (h0 : 0 ≤ i) (hq : o[i.toNat]? = some q) (hn : fateF fs i.toNat = n) (h : n = 64) : (crashN fs o s0 i.toNat).2 = (crashN fs o s0 (i + 1).toNat).2 := by
  rw [show (i + 1).toNat = i.toNat + 1 by omega, crashN_succ hq, hn]; exact (if_pos h).symm
theorem crash_l2 {fs : List (Int × Int)} {o : List (Int × List UInt8)} {s0 : List (List UInt8)} {i n : Int} {q : Int × List UInt8} (h0 : 0 ≤ i) (hq : o[i.toNat]? = some q) (hn : fateF fs i.toNat = n) (h : ¬ n = 64) : (crashN fs o s0 i.toNat).2 + 1 = (crashN fs o s0 (i + 1).toNat).2 := by
  rw [show (i + 1).toNat = i.toNat + 1 by omega, crashN_succ hq, hn]; exact (if_neg h).symm
namespace GDisk
def crashE (d : GDisk) (fs : List (Int × Int)) : Int := (crashN fs d.opn d.secs d.opn.length).2
def crashD (d : GDisk) (fs : List (Int × Int)) : GDisk := ⟨(crashN fs d.opn d.secs d.opn.length).1, [], 0, 0⟩
theorem crashD_ok {d : GDisk} (h : d.ok) (fs : List (Int × Int)) : (d.crashD fs).ok := by
  obtain ⟨h1, h2, h3, h4, h5, h6⟩ := h
  exact ⟨crashN_all h2 h1 _, by simp [crashD], by simp [crashD], by simp [crashD], by simp only [crashD]; rw [crashN_len]; exact h5, by simp [crashD]⟩
end GDisk
section
variable {α : Type} {cl : α → List Value} {m : Nat} {E : TypeId} {A : Option Addr} {cap : Nat} {xs : List α} {w w' : World}
theorem OwAt.same (h : OwAt cl m E A cap xs w) (hs : ∀ i, blk A = some i → w'.heap[i]? = w.heap[i]?) : OwAt cl m E A cap xs w' := by
  refine ⟨h.1, ?_⟩
  rcases h.2 with h1 | ⟨g, cap', cur, h1, h2, hg, h3⟩
  · exact .inl h1
  · refine .inr ⟨g, cap', cur, h1, h2, ?_, h3⟩
    simp only [Value.slice.injEq] at h1
    rw [hs g (by rw [h1.1]; rfl)]; exact hg
theorem OwAt.setN {T : TypeId} (hk : EK cl m E) (h : OwAt cl m E A cap xs w) {b o : Nat} (hA : A = some ⟨b, o, none⟩) {i : Int} (h0 : 0 ≤ i) (h1 : i < xs.length) (y : α) {old : α} (hq : xs[i.toNat]? = some old) {n : Nat} (hn : n ≤ m) (hd : (cl y).drop n = (cl old).drop n) (hT : (Tryz.prog.info? T).map (·.size) = some m) :
    ∃ w', (storeCells ⟨b, o + i.toNat * m, none⟩ ((cl y).take n)).run Tryz.prog w = .ok () w' ∧ OwAt cl m E A cap (xs.set i.toNat y) w' ∧ Keeps (fun k => blk A = some k) w w' := by
  rcases h.block with ⟨rfl, _⟩ | ⟨g, cur, rfl, hg, h2, h3, h4, h5⟩
  · cases hA
  · cases hA
    have hi : i.toNat < xs.length := by omega
    have hle : (i.toNat + 1) * m ≤ xs.length * m := Nat.mul_le_mul_right m hi
    rw [Nat.add_mul, Nat.one_mul] at hle
    have hle2 : xs.length * m ≤ cap * m := Nat.mul_le_mul_right m h2
    have hty : ((cl y).take n).length = n := by rw [List.length_take, hk.len]; omega
    have hone := oneC_of hk.one y oneC_of'
    obtain ⟨w1, hr1, hb1, hk1⟩ := run_storeCells (P := Tryz.prog) (i := 0 + i.toNat * m) ((cl y).take n) 0 w cur hg (by rw [hty]; omega) (by
      rw [List.all_eq_true] at hone ⊢
      exact fun u hu => hone u (List.mem_of_mem_take hu))
    obtain ⟨w2, hr2, hb2, hk2⟩ := run_storeCells (P := Tryz.prog) (i := 0 + i.toNat * m) (cl y) 0 w cur hg (by rw [hk.len]; omega) hone
    obtain ⟨w3, hr3, ho3, hk3⟩ := OwAt.set (T := T) hk h rfl h0 h1 y hT
    have hr23 : w3 = w2 := by
      obtain ⟨j, hj, hjs⟩ := Option.map_eq_some_iff.1 hT
      unfold storeVar at hr3
      simp [sizeOf, typeInfo, hj, hjs, Value.cells, hk.len] at hr3
      have e : (0 : Nat) + i.toNat * m = i.toNat * m := Nat.zero_add _
      rw [e] at hr2
      have h9 : Result.ok () w2 = (Result.ok () w3 : Result Unit) := hr2.symm.trans hr3
      exact (Result.ok.inj h9).2.symm
    subst hr23
    refine ⟨w1, hr1, ho3.same ?_, hk1.mono fun k _ e => by simp [blk, e]⟩
    intro k hk'
    simp only [blk, Option.map_some, Option.some.injEq] at hk'
    subst hk'
    have hel : (cur.toList.drop (i.toNat * m)).take m = cl old := by
      have := (SlAt.at (h.sl hk) h0 h1)
      obtain ⟨b', o', r, hr, hA', cs, E', fz, hh, hsz, hcl⟩ := this
      cases hA'
      rw [hg] at hh; cases hh
      rw [hq] at hr; cases hr
      simpa using hcl
    have e1 : cl y = (cl y).take n ++ (cl old).drop n := by rw [← hd, List.take_append_drop]
    have e2 : (cl y).take n ++ cur.toList.drop (i.toNat * m + n) = cl y ++ cur.toList.drop (i.toNat * m + m) := by
      conv => rhs; rw [e1]
      rw [List.append_assoc, ← hel, List.drop_take, List.drop_drop]
      have : cur.toList.drop (i.toNat * m + m) = (cur.toList.drop (i.toNat * m + n)).drop (m - n) := by rw [List.drop_drop, show i.toNat * m + n + (m - n) = i.toNat * m + m by omega]
      rw [this, List.take_append_drop]
    have key : repl cur (0 + i.toNat * m + 0) ((cl y).take n) = repl cur (0 + i.toNat * m + 0) (cl y) := by
      unfold repl
      simp only [Nat.add_zero, Nat.zero_add, hty, hk.len]
      rw [e2]
    rw [hb1, hb2, key]
end
theorem run_sliceArr {P : Program} {T E : TypeId} {b o : Nat} {n : Int} {w : World} (h0 : 0 ≤ n) (h1 : n ≤ 64) (hT : P.underlying T = some (.array 64 E) := by kernel_rfl) (hE : (P.info? E).map (·.size) = some 1 := by kernel_rfl) :
    (Instr.sliceAt T (.pointer (some ⟨b, o, none⟩)) none (some (.int .i64 n)) none).run P w = .ok (.slice (some ⟨b, o, none⟩) n.toNat 64) w := by
  obtain ⟨j, hj, hjs⟩ := Option.map_eq_some_iff.1 hE
  simp [Instr.sliceAt, run_underlying hT, Instr.sureAddr, Instr.sliceBounds, Instr.sliceBound, asIntOf, sizeOf, typeInfo, hj, hjs]
  rw [if_pos ⟨h0, h1⟩, addr_add0]
theorem run_copyEl {A : Option Addr} {c b o b7 : Nat} {xs : List (List UInt8)} {x : Int × List UInt8} {q : List UInt8} {i n : Int} {T7 ty : TypeId} {w : World} (h : OwAt secC 64 76 A c xs w) (hA : A = some ⟨b, o, none⟩) (h0 : 0 ≤ i) (h1 : i < xs.length) (hq : xs[i.toNat]? = some q) (hn0 : 0 ≤ n) (hn : n ≤ 64)
    (hb7 : w.heap[b7]? = some (.cells (Value.cells (wrV x)) T7 (0, 0))) (hx : x.2.length = 64) (hq64 : q.length = 64) :
    ∃ w', (Builtin.copy_ #[61, 61] ty #[.slice (some ⟨b, o + i.toNat * 64, none⟩) n.toNat 64, .slice (some ⟨b7, 1, none⟩) n.toNat 64]).run Tryz.prog w = .ok (.int .i64 (n.toNat : Int)) w' ∧
      OwAt secC 64 76 A c (xs.set i.toNat (mixS n x.2 q)) w' ∧ Keeps (fun k => blk A = some k) w w' := by
  have hn' : n.toNat ≤ 64 := by omega
  have hm64 := mixS_len (n := n) hx hq64
  have hc1 : (secC (mixS n x.2 q)).take n.toNat = (secC x.2).take n.toNat := by
    rw [secC_bytes hm64, secC_bytes hx, u8C_flat, u8C_flat]
    simp only [Lib.byteCells, mixS, List.map_append, ← List.map_take]
    rw [← List.map_append, ← List.map_take, List.take_append_of_le_length (by simp; omega), List.take_take, Nat.min_self]
  have hc2 : (secC (mixS n x.2 q)).drop n.toNat = (secC q).drop n.toNat := by
    rw [secC_bytes hm64, secC_bytes hq64, u8C_flat, u8C_flat]
    simp only [Lib.byteCells, ← List.map_drop, mixS]
    rw [List.drop_append_of_le_length (by simp; omega), List.drop_of_length_le (by simp; omega), List.nil_append]
  obtain ⟨w', hr, ho, hk⟩ := OwAt.setN (T := 76) ekSec h hA h0 h1 (mixS n x.2 q) hq hn' hc2 (by kernel_rfl)
  refine ⟨w', ?_, ho, hk⟩
  obtain ⟨i0, hi, hz0, hz1, hz2⟩ := info_parts infoByte
  have hsz : (Value.cells (wrV x)).size = 65 := by simp [Value.cells, wrC, secC]
  have hl := run_loadCellsFrom (P := Tryz.prog) (b := b7) (i := 1) hb7 n.toNat 0 #[] (by rw [hsz]; omega)
  rw [hc1] at hr
  simp [Builtin.copy_, run_underlying Tryz.underlying61, Builtin.lenOf, Builtin.firstCells, sizeOf, typeInfo, hi, hz1, loadCells, hl]
  rw [show (Value.cells (wrV x)).toList.tail = secC x.2 from rfl, hr]
  simp [Result.andThen, goInt]
abbrev ftC (x : Int × Int) : List Value := [.int .i64 x.1, .int .i64 x.2]
theorem ne_get {α : Type} {xs : List α} {i : Nat} {r : α} (h : xs[i]? = some r) : xs ≠ [] := fun e => by rw [e] at h; simp at h
theorem OwAt.empty {α : Type} {cl : α → List Value} {m : Nat} {E : TypeId} {b : Nat} {w : World} (hb : w.heap[b]? = some (.cells #[] E (0, 0))) : OwAt cl m E (some ⟨b, 0, none⟩) 0 [] w :=
  ⟨by simp, .inr ⟨b, 0, #[], rfl, Nat.zero_le _, hb, Nat.zero_le _, Nat.zero_le _, by simp, by simp⟩⟩
theorem and3_eq {x : Int} : 0 ≤ bits .and .i64 x 3 ∧ bits .and .i64 x 3 ≤ 3 := by
  have h : (BitVec.ofInt 64 x &&& BitVec.ofInt 64 3).toNat = (BitVec.ofInt 64 x).toNat % 4 := by rw [BitVec.toNat_and, show (BitVec.ofInt 64 3).toNat = 2 ^ 2 - 1 from rfl, Nat.and_two_pow_sub_one_eq_mod]
  have e : bits .and .i64 x 3 = IntKind.wrap .i64 ((BitVec.ofInt 64 x &&& BitVec.ofInt 64 3).toNat : Int) := rfl
  rw [e, h]
  have hl := Nat.mod_lt (BitVec.ofInt 64 x).toNat (show 0 < 4 by decide)
  rw [IntWalk.i64_in _ (by omega)]
  omega
theorem and7_eq {x : Int} : 0 ≤ bits .and .i64 x 7 ∧ bits .and .i64 x 7 ≤ 7 := by
  have h : (BitVec.ofInt 64 x &&& BitVec.ofInt 64 7).toNat = (BitVec.ofInt 64 x).toNat % 8 := by rw [BitVec.toNat_and, show (BitVec.ofInt 64 7).toNat = 2 ^ 3 - 1 from rfl, Nat.and_two_pow_sub_one_eq_mod]
  have e : bits .and .i64 x 7 = IntKind.wrap .i64 ((BitVec.ofInt 64 x &&& BitVec.ofInt 64 7).toNat : Int) := rfl
  rw [e, h]
  have hl := Nat.mod_lt (BitVec.ofInt 64 x).toNat (show 0 < 8 by decide)
  rw [IntWalk.i64_in _ (by omega)]
  omega
end Go.Proofs.YtnkkbeafcfjkmaaGreatDoor
namespace Go.Proofs.YtnkkbeafcfjkmaaGreatDoor
open Go.RowKit
set_option linter.unusedVariables false
set_option linter.unusedSimpArgs false
set_option maxRecDepth 100000 in
set_option maxHeartbeats 4000000 in
theorem dRest_c {x y : Int} (h0 : 0 < y) (h1 : y ≤ 1000) (w : World) : Calls Tryz.prog 43 #[.int .i64 x, .int .i64 y] w fun e w' => e = .returned (.int .i64 (restF x y)) ∧ Adds w w' := by
  have K : Keeps (fun _ => False) w w := Keeps.refl _ w
  refine Calls.start Tryz.func43 rfl (by kernel_rfl) ?_
  refine WC.seq ?_
  refine WC.region ?_
  refine WL.op (d := 4) (.int .i64 0) (k := ?_)
  refine WL.nil ?_
  refine WX.seqN ?_
  refine WC.seq ?_
  refine WC.region ?_
  refine WL.op (d := 5) (.int .i64 x) (k := ?_)
  refine WL.op (d := 6) (.int .i64 y) (k := ?_)
  refine WL.bin (d := 7) (v := .int .i64 (Int.tmod x y)) (rem_run (by omega)) (k := ?_)
  have m1 := tmod_rng x y (by omega)
  obtain ⟨r2, e3⟩ : ∃ r : Int, Int.tmod x y = r := ⟨_, rfl⟩
  rw [e3] at m1
  refine WL.rw (t := 7) (v := .int .i64 r2) (congrArg (Value.int .i64) e3) (k := ?_)
  refine WL.op (d := 8) (.int .i64 y) (k := ?_)
  refine WL.opE (d := 9) (.int .i64 (IntKind.i64.wrap (r2 + y))) (v := .int .i64 (r2 + y)) (congrArg (Value.int .i64) (IntWalk.i64_in _ (by omega))) (k := ?_)
  refine WL.op (d := 10) (.int .i64 y) (k := ?_)
  refine WL.bin (d := 11) (v := .int .i64 (Int.tmod (r2 + y) y)) (rem_run (by omega)) (k := ?_)
  have m4 := tmod_rng (r2 + y) y (by omega)
  obtain ⟨r5, e6⟩ : ∃ r : Int, Int.tmod (r2 + y) y = r := ⟨_, rfl⟩
  rw [e6] at m4
  refine WL.rw (t := 11) (v := .int .i64 r5) (congrArg (Value.int .i64) e6) (k := ?_)
  refine WL.op (d := 4) (.int .i64 r5) (k := ?_)
  refine WL.nil ?_
  refine WX.seqN ?_
  refine WC.ret ?_
  refine WX.ret (rs := [.tmp 4]) [.int .i64 r5] (.int .i64 r5) ⟨(by kernel_rfl), trivial⟩ (k := ?_)
  exact ⟨by rw [restF, e3, e6], K⟩
set_option maxRecDepth 100000 in
set_option maxHeartbeats 4000000 in
theorem dLeft_c {x y : Int} (w : World) : Calls Tryz.prog 33 #[.agg #[.int .i64 x, .int .i64 y]] w fun e w' => e = .returned (.int .i64 (leftF x y)) ∧ Adds w w' := by
  have K : Keeps (fun _ => False) w w := Keeps.refl _ w
  refine Calls.start Tryz.func33 rfl (by kernel_rfl) ?_
  refine WC.seq ?_
  refine WC.region ?_
  refine WL.new (d := 1) (T := 81) #[.int .i64 x, .int .i64 y] (k := fun b1 w2 g3 hb4 k5 => ?_)
  have z6 := Nat.le_trans K.size g3
  replace K := K.trans (k5.any _)
  refine WL.op (d := 2) (.int .i64 0) (k := ?_)
  refine WL.nil ?_
  refine WX.seqN ?_
  refine WC.seq ?_
  refine WC.seq ?_
  refine WC.region ?_
  refine WL.op (d := 3) (.pointer (some ⟨b1, 0, none⟩)) (k := ?_)
  refine WL.load (v := .int .i64 x) (ld1 (T := 3) (i := 0) hb4) (k := ?_)
  refine WL.callG (d := 5) (f := 43) (args := #[.int .i64 x, .int .i64 3]) (dRest_c (x := x) (y := 3) (by decide) (by decide) w2) (k := fun e_ w8 h_ => ⟨.int .i64 (restF x 3), h_.1, ?_⟩)
  have k9 := h_.2; clear h_
  replace hb4 := k9.heap hb4 id
  replace K := K.trans (k9.any _)
  have rr7 := restF_rng (n := x) (b := 3) (by decide)
  refine WL.nil ?_
  refine WX.seqN ?_
  refine WC.block ?_
  refine WC.seq ?_
  refine WC.region ?_
  refine WL.op (d := 7) (.bool ((restF x 3) == 1)) (k := ?_)
  refine WL.op (d := 6) (.bool ((restF x 3) == 1)) (k := ?_)
  refine WL.nil ?_
  refine WX.seqN ?_
  refine WC.cond (b := (restF x 3) == 1) (ht := fun h10 => ?_) (hf := fun h10 => ?_)
  · have ph10 := eq_of_beq h10
    refine WC.seq ?_
    refine WC.region ?_
    refine WL.op (d := 2) (.int .i64 64) (k := ?_)
    refine WL.nil ?_
    refine WX.seqN ?_
    refine WC.ret ?_
    refine WX.blockR ?_
    refine WX.seqR ?_
    refine WX.ret (rs := [.tmp 2]) [.int .i64 64] (.int .i64 64) ⟨(by kernel_rfl), trivial⟩ (k := ?_)
    exact ⟨by rw [leftF, if_pos ph10], K⟩
  · have ph10 := ne_of_beq_false h10
    refine WC.seq ?_
    refine WC.region ?_
    refine WL.op (d := 9) (.bool ((restF x 3) == 2)) (k := ?_)
    refine WL.op (d := 8) (.bool ((restF x 3) == 2)) (k := ?_)
    refine WL.nil ?_
    refine WX.seqN ?_
    refine WC.cond (b := (restF x 3) == 2) (ht := fun h11 => ?_) (hf := fun h11 => ?_)
    · have ph11 := eq_of_beq h11
      refine WC.seq ?_
      refine WC.region ?_
      refine WL.op (d := 10) (.pointer (some ⟨b1, 1, none⟩)) (k := ?_)
      refine WL.load (v := .int .i64 y) (ld1 (T := 3) (i := 1) hb4) (k := ?_)
      refine WL.callG (d := 12) (f := 43) (args := #[.int .i64 y, .int .i64 65]) (dRest_c (x := y) (y := 65) (by decide) (by decide) w8) (k := fun e_ w13 h_ => ⟨.int .i64 (restF y 65), h_.1, ?_⟩)
      have k14 := h_.2; clear h_
      replace hb4 := k14.heap hb4 id
      replace K := K.trans (k14.any _)
      have rr12 := restF_rng (n := y) (b := 65) (by decide)
      refine WL.op (d := 2) (.int .i64 (restF y 65)) (k := ?_)
      refine WL.nil ?_
      refine WX.seqN ?_
      refine WC.ret ?_
      refine WX.blockR ?_
      refine WX.seqR ?_
      refine WX.ret (rs := [.tmp 2]) [.int .i64 (restF y 65)] (.int .i64 (restF y 65)) ⟨(by kernel_rfl), trivial⟩ (k := ?_)
      exact ⟨by rw [leftF, if_neg ph10, if_pos ph11], K⟩
    · have ph11 := ne_of_beq_false h11
      refine WC.seq ?_
      refine WC.region ?_
      refine WL.op (d := 14) (.bool ((restF x 3) == 0)) (k := ?_)
      refine WL.op (d := 13) (.bool ((restF x 3) == 0)) (k := ?_)
      refine WL.nil ?_
      refine WX.seqN ?_
      refine WC.cond (b := (restF x 3) == 0) (ht := fun h15 => ?_) (hf := fun h15 => ?_)
      · have ph15 := eq_of_beq h15
        refine WC.seq ?_
        refine WC.region ?_
        refine WL.op (d := 2) (.int .i64 0) (k := ?_)
        refine WL.nil ?_
        refine WX.seqN ?_
        refine WC.ret ?_
        refine WX.blockR ?_
        refine WX.seqR ?_
        refine WX.ret (rs := [.tmp 2]) [.int .i64 0] (.int .i64 0) ⟨(by kernel_rfl), trivial⟩ (k := ?_)
        exact ⟨by rw [leftF, if_neg ph10, if_neg ph11], K⟩
      · have ph15 := ne_of_beq_false h15
        refine WC.skip ?_
        refine WX.blockN ?_
        refine WX.seqN ?_
        refine WC.seq ?_
        refine WC.region ?_
        refine WL.op (d := 2) (.int .i64 0) (k := ?_)
        refine WL.nil ?_
        refine WX.seqN ?_
        refine WC.ret ?_
        refine WX.ret (rs := [.tmp 2]) [.int .i64 0] (.int .i64 0) ⟨(by kernel_rfl), trivial⟩ (k := ?_)
        exact ⟨by rw [leftF, if_neg ph10, if_neg ph11], K⟩
set_option maxRecDepth 100000 in
set_option maxHeartbeats 4000000 in
theorem dCrash_c {fs : List (Int × Int)} {A : Option Addr} {cf : Nat} {S : Nat → Prop} {b : Nat} {d : GDisk} {w : World} (hd : DiskAt S b d w) (hF : SlAt ftC 2 81 A fs w) (hFo : fs ≠ [] → ∀ p, A = some p → ¬ S p.block) (hfl : fs.length ≤ 9223372036854775807) : Calls Tryz.prog 16 #[.pointer (some ⟨b, 0, none⟩), .slice A fs.length cf] w fun e w' => e = .returned (.int .i64 (d.crashE fs)) ∧ DkPost S b (d.crashD fs) w w' := by
  have K : Keeps S w w := Keeps.refl _ w
  obtain ⟨A1, c1, A2, c2, hb, h1, h2, hS, ho⟩ := hd
  have ho2 := ho
  obtain ⟨os_, ow_, of0_, of1_, on_, om_⟩ := ho2
  refine Calls.start Tryz.func16 rfl (by kernel_rfl) ?_
  refine WC.seq ?_
  refine WC.region ?_
  refine WL.op (d := 4) (.int .i64 0) (k := ?_)
  refine WL.nil ?_
  refine WX.seqN ?_
  refine WC.scope ?_
  refine WC.seq ?_
  refine WC.seq ?_
  refine WC.region ?_
  refine WL.op (d := 9) (.pointer (some ⟨b, 0, none⟩)) (k := ?_)
  refine WL.op (d := 10) (.bool false) (k := ?_)
  refine WL.nil ?_
  refine WX.seqN ?_
  refine WC.condF (k := ?_)
  refine WC.skip ?_
  refine WX.seqN ?_
  refine WC.seq ?_
  refine WC.region ?_
  refine WL.op (d := 5) (.int .i64 0) (k := ?_)
  refine WL.nil ?_
  refine WX.seqN ?_
  refine WC.seq ?_
  refine WC.label ?_
  refine WX.seqN ?_
  refine WC.seq ?_
  refine WC.seq ?_
  refine WC.region ?_
  refine WL.op (d := 11) (.pointer (some ⟨b, 0, none⟩)) (k := ?_)
  refine WL.op (d := 12) (.pointer (some ⟨b, 0, none⟩)) (k := ?_)
  refine WL.op (d := 13) (.pointer (some ⟨b, 1, none⟩)) (k := ?_)
  refine WL.load (v := .slice A2 d.opn.length c2) (ld1 (T := 52) (i := 1) hb) (k := ?_)
  refine WL.op (d := 15) (.int .i64 (d.opn.length : Int)) (k := ?_)
  refine WL.op (d := 16) (.int .i64 0) (k := ?_)
  refine WL.nil ?_
  refine WX.seqN ?_
  refine WC.block ?_
  change OwAt secC 64 76 A1 c1 (Prod.fst (crashN fs d.opn d.secs (0 : Int).toNat)) w at h1
  refine WC.rw (t := 5) (v := .int .i64 (Prod.snd (crashN fs d.opn d.secs (0 : Int).toNat))) (rfl) (k := ?_)
  refine WC.loop (ι := Int) (fun (i : Int) => [(0, .pointer (some ⟨b, 0, none⟩)), (1, .slice A fs.length cf), (4, .int .i64 0), (9, .pointer (some ⟨b, 0, none⟩)), (10, .bool false), (11, .pointer (some ⟨b, 0, none⟩)), (12, .pointer (some ⟨b, 0, none⟩)), (13, .pointer (some ⟨b, 1, none⟩)), (14, .slice A2 d.opn.length c2), (15, .int .i64 (d.opn.length : Int)), (16, .int .i64 i), (5, .int .i64 (Prod.snd (crashN fs d.opn d.secs i.toNat)))]) (fun (i : Int) (w_ : World) => (Keeps S w w_) ∧ (w_.heap[b]? = some (.cells #[.slice A1 d.secs.length c1, .slice A2 d.opn.length c2, .int .i64 d.fail, .int .i64 d.reads] 54 (0, 0))) ∧ (OwAt secC 64 76 A1 c1 (Prod.fst (crashN fs d.opn d.secs i.toNat)) w_) ∧ (OwAt wrC 65 78 A2 c2 d.opn w_) ∧ (0 ≤ i) ∧ (i ≤ d.opn.length)) (fun (i : Int) => (d.opn.length - i).toNat) 0 ⟨(by kernel_rfl), (by kernel_rfl), (by kernel_rfl), (by kernel_rfl), (by kernel_rfl), (by kernel_rfl), (by kernel_rfl), (by kernel_rfl), (by kernel_rfl), (by kernel_rfl), (by kernel_rfl), (by kernel_rfl), trivial⟩ ⟨K, hb, h1, h2, Int.le_refl 0, (by omega)⟩ ?_
  rintro i w1 ⟨K, hb2, hb3, hb5, i0, i1⟩
  have pl_ := crashN_len (fs := fs) (o := d.opn) (s0 := d.secs) i.toNat
  have pc_ := crashN_less fs d.opn d.secs i.toNat
  refine WC.seq ?_
  refine WC.region ?_
  refine WL.op (d := 17) (.bool (decide (i < (d.opn.length : Int)))) (k := ?_)
  refine WL.nil ?_
  refine WX.seqN ?_
  refine WC.seq ?_
  refine WC.cond (b := decide (i < (d.opn.length : Int))) (ht := fun h7 => ?_) (hf := fun h7 => ?_)
  · have ph7 := of_decide_eq_true h7
    refine WC.skip ?_
    refine WX.seqN ?_
    refine WC.seq ?_
    refine WC.block ?_
    refine WC.seq ?_
    refine WC.region ?_
    refine WL.op (d := 18) (.int .i64 i) (k := ?_)
    obtain ⟨b8, o9, r10, hr11, hA12, he13⟩ := SlAt.at (hb5.sl ekWr) (i := i) (by omega) (by omega)
    refine WL.rw (t := 14) (v := .slice (some ⟨b8, o9, none⟩) d.opn.length c2) (congrArg (fun a => Value.slice a d.opn.length c2) hA12) (k := ?_)
    obtain ⟨w1_, w2_, w3_⟩ := ow_ _ (List.mem_of_getElem? hr11)
    refine WL.idx (T := 52) (E := 78) (m := 65) (b := b8) (o := o9) (len := d.opn.length) (cap := c2) (i := i) (kk := .i64) (d := 19) (by omega) (by omega) (k := ?_)
    refine WL.rw (t := 14) (v := .slice A2 d.opn.length c2) (congrArg (fun a => Value.slice a d.opn.length c2) (Eq.symm hA12)) (k := ?_)
    refine WL.load (v := wrV r10) (he13.ldW (T := 78)) (k := ?_)
    refine WL.new (d := 7) (T := 78) (Value.cells (wrV (0, []))) (k := fun b14 w15 g16 hb17 k18 => ?_)
    have z19 := Nat.le_trans K.size g16
    have n20 : b ≠ b14 := Nat.ne_of_lt (Nat.lt_of_lt_of_le (lt_of_heap hb2) g16)
    have n21 := OwAt.off_new hb3 g16
    have n22 := OwAt.off_new hb5 g16
    replace hb2 := k18.heap hb2 id
    replace hb3 := hb3.adds k18
    replace hb5 := hb5.adds k18
    replace he13 := he13.adds k18
    replace K := K.trans (k18.any _)
    refine WL.op (d := 6) (.int .i64 i) (k := ?_)
    refine WL.store (v := wrV r10) (i := 0) (cs' := (Value.cells (wrV r10))) hb17 (k := fun w23 hb24 k25 => ?_)
    replace hb2 := k25.heap hb2 n20
    replace hb3 := hb3.keeps k25 (fun i hi e => (n21) (e ▸ hi))
    replace hb5 := hb5.keeps k25 (fun i hi e => (n22) (e ▸ hi))
    replace K := K.trans' k25 (fun i hi e => absurd (e ▸ hi) (Nat.not_lt.2 z19))
    clear hb17
    refine WL.nil ?_
    refine WX.seqN ?_
    refine WC.seq ?_
    refine WC.region ?_
    refine WL.op (d := 8) (.int .i64 0) (k := ?_)
    refine WL.nil ?_
    refine WX.seqN ?_
    refine WC.seq ?_
    refine WC.seq ?_
    refine WC.region ?_
    refine WL.op (d := 21) (.int .i64 i) (k := ?_)
    refine WL.op (d := 22) (.slice A fs.length cf) (k := ?_)
    refine WL.op (d := 23) (.int .i64 (fs.length : Int)) (k := ?_)
    refine WL.op (d := 24) (.bool (decide (i < (fs.length : Int)))) (k := ?_)
    refine WL.nil ?_
    refine WX.seqN ?_
    refine WC.cond (b := decide (i < (fs.length : Int))) (ht := fun h26 => ?_) (hf := fun h26 => ?_)
    · have ph26 := of_decide_eq_true h26
      refine WC.region ?_
      refine WL.op (d := 25) (.slice A fs.length cf) (k := ?_)
      refine WL.op (d := 26) (.int .i64 i) (k := ?_)
      obtain ⟨b27, o28, r29, hr30, hA31, he32⟩ := SlAt.at hF (i := i) (by omega) (by omega)
      refine WL.rw (t := 25) (v := .slice (some ⟨b27, o28, none⟩) fs.length cf) (congrArg (fun a => Value.slice a fs.length cf) hA31) (k := ?_)
      refine WL.idx (T := 33) (E := 81) (m := 2) (b := b27) (o := o28) (len := fs.length) (cap := cf) (i := i) (kk := .i64) (d := 27) (by omega) (by omega) (k := ?_)
      refine WL.rw (t := 25) (v := .slice A fs.length cf) (congrArg (fun a => Value.slice a fs.length cf) (Eq.symm hA31)) (k := ?_)
      refine WL.load (v := .agg #[.int .i64 r29.1, .int .i64 r29.2]) ((he32.keeps K (hFo (ne_get hr30) _ hA31)).ldW (T := 81)) (k := ?_)
      refine WL.callG (d := 29) (f := 33) (args := #[.agg #[.int .i64 r29.1, .int .i64 r29.2]]) (dLeft_c (x := r29.1) (y := r29.2) w23) (k := fun e_ w34 h_ => ⟨.int .i64 (leftF r29.1 r29.2), h_.1, ?_⟩)
      have k35 := h_.2; clear h_
      replace hb2 := k35.heap hb2 id
      replace hb3 := hb3.adds k35
      replace hb5 := hb5.adds k35
      replace hb24 := k35.heap hb24 id
      replace K := K.trans (k35.any _)
      have rr33 := leftF_rng r29.1 r29.2
      refine WL.op (d := 8) (.int .i64 (leftF r29.1 r29.2)) (k := ?_)
      refine WL.nil ?_
      refine WX.seqN ?_
      refine WC.seq ?_
      refine WC.mixed (fun k => blk A1 = some k) 13 (k := fun w36 k37 => ?_)
      replace hb2 := k37.heap hb2 id
      replace hb3 := hb3.adds k37
      replace hb5 := hb5.adds k37
      replace hb24 := k37.heap hb24 id
      replace K := K.trans (k37.any _)
      have KC := Keeps.refl (fun k => blk A1 = some k) w36
      have bh38 := hb2
      have bh39 := hb24
      have Kb := K
      refine WA.quiet2 0 (d := 30) (.pointer (some ⟨b, 0, none⟩)) KC (hi := rfl) (k := ?_)
      refine WA.quiet2 1 (d := 31) (.pointer (some ⟨b, 0, none⟩)) KC (hi := rfl) (k := ?_)
      refine WA.quiet2 2 (d := 32) (.pointer (some ⟨b, 0, none⟩)) KC (hi := rfl) (k := ?_)
      refine WA.quietR2 3 (d := 33) (.slice A1 d.secs.length c1) KC (exec_load (fun w_ k_ => ld1 (T := 51) (i := 0) (k_.heap bh38 (hb3.offT hb2 (by decide))))) (hi := rfl) (k := ?_)
      refine WA.quiet2 4 (d := 34) (.pointer (some ⟨b14, 0, none⟩)) KC (hi := rfl) (k := ?_)
      refine WA.quietR2 5 (d := 35) (.int .i64 r10.1) KC (exec_load (fun w_ k_ => ld1 (T := 3) (i := 0) (k_.heap bh39 n21))) (hi := rfl) (k := ?_)
      obtain ⟨b40, o41, r42, hr43, hA44, he45⟩ := SlAt.at (hb3.sl ekSec) (i := r10.1) (by omega) (by omega)
      refine WA.rw (t := 33) (v := .slice (some ⟨b40, o41, none⟩) d.secs.length c1) (congrArg (fun a => Value.slice a d.secs.length c1) hA44) (k := ?_)
      have s1_ := crashN_all (fs := fs) ow_ os_ i.toNat _ (List.mem_of_getElem? hr43)
      refine WA.quietR2 6 (d := 36) (.pointer (some ⟨b40, o41 + (r10.1).toNat * 64, none⟩)) KC (exec_idx (T := 51) (E := 76) (m := 64) (b := b40) (o := o41) (len := d.secs.length) (cap := c1) (i := r10.1) (kk := .i64) (by omega) (by omega)) (hi := rfl) (k := ?_)
      refine WA.rw (t := 33) (v := .slice A1 d.secs.length c1) (congrArg (fun a => Value.slice a d.secs.length c1) (Eq.symm hA44)) (k := ?_)
      refine WA.quiet2 7 (d := 37) (.int .i64 (leftF r29.1 r29.2)) KC (hi := rfl) (k := ?_)
      refine WA.quietR2 8 (d := 38) (.slice (some ⟨b40, o41 + (r10.1).toNat * 64, none⟩) ((leftF r29.1 r29.2).toNat) 64) KC (exec_cut (vx := .pointer (some ⟨b40, o41 + (r10.1).toNat * 64, none⟩)) (lo' := none) (hi' := (some (.int .i64 (leftF r29.1 r29.2)))) (mx' := none) (fun w_ => run_sliceArr (E := 5) (n := leftF r29.1 r29.2) (by omega) (by omega))) (hi := rfl) (k := ?_)
      refine WA.quiet2 9 (d := 39) (.pointer (some ⟨b14, 1, none⟩)) KC (hi := rfl) (k := ?_)
      refine WA.quiet2 10 (d := 40) (.int .i64 (leftF r29.1 r29.2)) KC (hi := rfl) (k := ?_)
      refine WA.quietR2 11 (d := 41) (.slice (some ⟨b14, 1, none⟩) ((leftF r29.1 r29.2).toNat) 64) KC (exec_cut (vx := .pointer (some ⟨b14, 1, none⟩)) (lo' := none) (hi' := (some (.int .i64 (leftF r29.1 r29.2)))) (mx' := none) (fun w_ => run_sliceArr (E := 5) (n := leftF r29.1 r29.2) (by omega) (by omega))) (hi := rfl) (k := ?_)
      refine WA.step 12 (hi := rfl) (k := ?_)
      obtain ⟨w46, hc47, ho48, k49⟩ := run_copyEl (i := r10.1) (n := leftF r29.1 r29.2) (x := r10) hb3 hA44 (by omega) (by omega) hr43 (by omega) (by omega) hb24 (by omega) (by omega)
      refine WL.copyB (d := 42) (vx := .slice (some ⟨b40, o41 + (r10.1).toNat * 64, none⟩) ((leftF r29.1 r29.2).toNat) 64) (vy := .slice (some ⟨b14, 1, none⟩) ((leftF r29.1 r29.2).toNat) 64) (v := _) hc47 (k := ?_)
      clear hc47
      replace hb2 := k49.heap hb2 (hb3.offT hb2 (by decide))
      replace hb5 := hb5.keeps k49 (OwAt.offOw hb5 hb3 (by decide))
      replace hb24 := k49.heap hb24 n21
      replace K := K.trans' k49 (fun i hi e => (hS i).2 (.inr (.inl e)))
      replace KC := KC.trans' k49 (fun i hi e => e)
      clear hb3
      refine WL.nil ?_
      refine WX.nxt KC ?_
      refine WA.done (k := ?_)
      clear KC
      refine WX.seqN ?_
      refine WC.seq ?_
      refine WC.seq ?_
      refine WC.region ?_
      refine WL.op (d := 43) (.int .i64 (leftF r29.1 r29.2)) (k := ?_)
      refine WL.op (d := 44) (.bool ((leftF r29.1 r29.2) == 64)) (k := ?_)
      refine WL.nil ?_
      refine WX.seqN ?_
      refine WC.cond (b := (leftF r29.1 r29.2) == 64) (ht := fun h50 => ?_) (hf := fun h50 => ?_)
      · have ph50 := eq_of_beq h50
        refine WC.exit ?_
        refine WX.seqE ?_
        refine WX.blockE ?_
        refine WX.seqN ?_
        refine WC.region ?_
        refine WL.opE (d := 47) (.int .i64 (IntKind.i64.wrap (i + 1))) (v := .int .i64 (i + 1)) (congrArg (Value.int .i64) (IntWalk.i64_in _ (by omega))) (k := ?_)
        refine WL.op (d := 16) (.int .i64 (i + 1)) (k := ?_)
        refine WL.nil ?_
        refine WX.rw (t := 5) (v := .int .i64 (Prod.snd (crashN fs d.opn d.secs (i + 1).toNat))) (congrArg (Value.int .i64) (crash_l1 i0 hr11 (fateF_some hr30) ph50)) (k := ?_)
        have e51 : List.set (Prod.fst (crashN fs d.opn d.secs i.toNat)) (r10.1).toNat (mixS (leftF r29.1 r29.2) r10.2 r42) = Prod.fst (crashN fs d.opn d.secs (i + 1).toNat) := crash_step i0 hr11 hr43 (fateF_some hr30)
        rw [e51] at ho48
        refine WX.round (i + 1) (by show (d.opn.length - (i + 1)).toNat < (d.opn.length - i).toNat; omega) ⟨(by kernel_rfl), (by kernel_rfl), (by kernel_rfl), (by kernel_rfl), (by kernel_rfl), (by kernel_rfl), (by kernel_rfl), (by kernel_rfl), (by kernel_rfl), (by kernel_rfl), (by kernel_rfl), (by kernel_rfl), trivial⟩ ⟨K, hb2, ho48, hb5, (by omega), (by omega)⟩
      · have ph50 := ne_of_beq_false h50
        refine WC.skip ?_
        refine WX.seqN ?_
        refine WC.region ?_
        refine WL.op (d := 45) (.int .i64 (Prod.snd (crashN fs d.opn d.secs i.toNat))) (k := ?_)
        refine WL.opE (d := 46) (.int .i64 (IntKind.i64.wrap ((Prod.snd (crashN fs d.opn d.secs i.toNat)) + 1))) (v := .int .i64 ((Prod.snd (crashN fs d.opn d.secs i.toNat)) + 1)) (congrArg (Value.int .i64) (IntWalk.i64_in _ (by omega))) (k := ?_)
        refine WL.op (d := 5) (.int .i64 ((Prod.snd (crashN fs d.opn d.secs i.toNat)) + 1)) (k := ?_)
        refine WL.nil ?_
        refine WX.blockN ?_
        refine WX.seqN ?_
        refine WC.region ?_
        refine WL.opE (d := 47) (.int .i64 (IntKind.i64.wrap (i + 1))) (v := .int .i64 (i + 1)) (congrArg (Value.int .i64) (IntWalk.i64_in _ (by omega))) (k := ?_)
        refine WL.op (d := 16) (.int .i64 (i + 1)) (k := ?_)
        refine WL.nil ?_
        refine WX.rw (t := 5) (v := .int .i64 (Prod.snd (crashN fs d.opn d.secs (i + 1).toNat))) (congrArg (Value.int .i64) (crash_l2 i0 hr11 (fateF_some hr30) ph50)) (k := ?_)
        have e52 : List.set (Prod.fst (crashN fs d.opn d.secs i.toNat)) (r10.1).toNat (mixS (leftF r29.1 r29.2) r10.2 r42) = Prod.fst (crashN fs d.opn d.secs (i + 1).toNat) := crash_step i0 hr11 hr43 (fateF_some hr30)
        rw [e52] at ho48
        refine WX.round (i + 1) (by show (d.opn.length - (i + 1)).toNat < (d.opn.length - i).toNat; omega) ⟨(by kernel_rfl), (by kernel_rfl), (by kernel_rfl), (by kernel_rfl), (by kernel_rfl), (by kernel_rfl), (by kernel_rfl), (by kernel_rfl), (by kernel_rfl), (by kernel_rfl), (by kernel_rfl), (by kernel_rfl), trivial⟩ ⟨K, hb2, ho48, hb5, (by omega), (by omega)⟩
    · have ph26 := of_decide_eq_false h26
      refine WC.skip ?_
      refine WX.seqN ?_
      refine WC.seq ?_
      refine WC.mixed (fun k => blk A1 = some k) 13 (k := fun w53 k54 => ?_)
      replace hb2 := k54.heap hb2 id
      replace hb3 := hb3.adds k54
      replace hb5 := hb5.adds k54
      replace hb24 := k54.heap hb24 id
      replace K := K.trans (k54.any _)
      have KC := Keeps.refl (fun k => blk A1 = some k) w53
      have bh55 := hb2
      have bh56 := hb24
      have Kb := K
      refine WA.quiet2 0 (d := 30) (.pointer (some ⟨b, 0, none⟩)) KC (hi := rfl) (k := ?_)
      refine WA.quiet2 1 (d := 31) (.pointer (some ⟨b, 0, none⟩)) KC (hi := rfl) (k := ?_)
      refine WA.quiet2 2 (d := 32) (.pointer (some ⟨b, 0, none⟩)) KC (hi := rfl) (k := ?_)
      refine WA.quietR2 3 (d := 33) (.slice A1 d.secs.length c1) KC (exec_load (fun w_ k_ => ld1 (T := 51) (i := 0) (k_.heap bh55 (hb3.offT hb2 (by decide))))) (hi := rfl) (k := ?_)
      refine WA.quiet2 4 (d := 34) (.pointer (some ⟨b14, 0, none⟩)) KC (hi := rfl) (k := ?_)
      refine WA.quietR2 5 (d := 35) (.int .i64 r10.1) KC (exec_load (fun w_ k_ => ld1 (T := 3) (i := 0) (k_.heap bh56 n21))) (hi := rfl) (k := ?_)
      obtain ⟨b57, o58, r59, hr60, hA61, he62⟩ := SlAt.at (hb3.sl ekSec) (i := r10.1) (by omega) (by omega)
      refine WA.rw (t := 33) (v := .slice (some ⟨b57, o58, none⟩) d.secs.length c1) (congrArg (fun a => Value.slice a d.secs.length c1) hA61) (k := ?_)
      have s1_ := crashN_all (fs := fs) ow_ os_ i.toNat _ (List.mem_of_getElem? hr60)
      refine WA.quietR2 6 (d := 36) (.pointer (some ⟨b57, o58 + (r10.1).toNat * 64, none⟩)) KC (exec_idx (T := 51) (E := 76) (m := 64) (b := b57) (o := o58) (len := d.secs.length) (cap := c1) (i := r10.1) (kk := .i64) (by omega) (by omega)) (hi := rfl) (k := ?_)
      refine WA.rw (t := 33) (v := .slice A1 d.secs.length c1) (congrArg (fun a => Value.slice a d.secs.length c1) (Eq.symm hA61)) (k := ?_)
      refine WA.quiet2 7 (d := 37) (.int .i64 0) KC (hi := rfl) (k := ?_)
      refine WA.quietR2 8 (d := 38) (.slice (some ⟨b57, o58 + (r10.1).toNat * 64, none⟩) 0 64) KC (exec_cut (vx := .pointer (some ⟨b57, o58 + (r10.1).toNat * 64, none⟩)) (lo' := none) (hi' := (some (.int .i64 0))) (mx' := none) (fun w_ => run_sliceArr (E := 5) (n := 0) (by omega) (by omega))) (hi := rfl) (k := ?_)
      refine WA.quiet2 9 (d := 39) (.pointer (some ⟨b14, 1, none⟩)) KC (hi := rfl) (k := ?_)
      refine WA.quiet2 10 (d := 40) (.int .i64 0) KC (hi := rfl) (k := ?_)
      refine WA.quietR2 11 (d := 41) (.slice (some ⟨b14, 1, none⟩) 0 64) KC (exec_cut (vx := .pointer (some ⟨b14, 1, none⟩)) (lo' := none) (hi' := (some (.int .i64 0))) (mx' := none) (fun w_ => run_sliceArr (E := 5) (n := 0) (by omega) (by omega))) (hi := rfl) (k := ?_)
      refine WA.step 12 (hi := rfl) (k := ?_)
      obtain ⟨w63, hc64, ho65, k66⟩ := run_copyEl (i := r10.1) (n := 0) (x := r10) hb3 hA61 (by omega) (by omega) hr60 (by omega) (by omega) hb24 (by omega) (by omega)
      refine WL.copyB (d := 42) (vx := .slice (some ⟨b57, o58 + (r10.1).toNat * 64, none⟩) 0 64) (vy := .slice (some ⟨b14, 1, none⟩) 0 64) (v := _) hc64 (k := ?_)
      clear hc64
      replace hb2 := k66.heap hb2 (hb3.offT hb2 (by decide))
      replace hb5 := hb5.keeps k66 (OwAt.offOw hb5 hb3 (by decide))
      replace hb24 := k66.heap hb24 n21
      replace K := K.trans' k66 (fun i hi e => (hS i).2 (.inr (.inl e)))
      replace KC := KC.trans' k66 (fun i hi e => e)
      clear hb3
      refine WL.nil ?_
      refine WX.nxt KC ?_
      refine WA.done (k := ?_)
      clear KC
      refine WX.seqN ?_
      refine WC.seq ?_
      refine WC.seq ?_
      refine WC.region ?_
      refine WL.op (d := 43) (.int .i64 0) (k := ?_)
      refine WL.op (d := 44) (.bool false) (k := ?_)
      refine WL.nil ?_
      refine WX.seqN ?_
      refine WC.condF (k := ?_)
      refine WC.skip ?_
      refine WX.seqN ?_
      refine WC.region ?_
      refine WL.op (d := 45) (.int .i64 (Prod.snd (crashN fs d.opn d.secs i.toNat))) (k := ?_)
      refine WL.opE (d := 46) (.int .i64 (IntKind.i64.wrap ((Prod.snd (crashN fs d.opn d.secs i.toNat)) + 1))) (v := .int .i64 ((Prod.snd (crashN fs d.opn d.secs i.toNat)) + 1)) (congrArg (Value.int .i64) (IntWalk.i64_in _ (by omega))) (k := ?_)
      refine WL.op (d := 5) (.int .i64 ((Prod.snd (crashN fs d.opn d.secs i.toNat)) + 1)) (k := ?_)
      refine WL.nil ?_
      refine WX.blockN ?_
      refine WX.seqN ?_
      refine WC.region ?_
      refine WL.opE (d := 47) (.int .i64 (IntKind.i64.wrap (i + 1))) (v := .int .i64 (i + 1)) (congrArg (Value.int .i64) (IntWalk.i64_in _ (by omega))) (k := ?_)
      refine WL.op (d := 16) (.int .i64 (i + 1)) (k := ?_)
      refine WL.nil ?_
      refine WX.rw (t := 5) (v := .int .i64 (Prod.snd (crashN fs d.opn d.secs (i + 1).toNat))) (congrArg (Value.int .i64) (crash_l2 i0 hr11 (fateF_none (by omega)) (by decide))) (k := ?_)
      have e67 : List.set (Prod.fst (crashN fs d.opn d.secs i.toNat)) (r10.1).toNat (mixS 0 r10.2 r59) = Prod.fst (crashN fs d.opn d.secs (i + 1).toNat) := crash_step i0 hr11 hr60 (fateF_none (by omega))
      rw [e67] at ho65
      refine WX.round (i + 1) (by show (d.opn.length - (i + 1)).toNat < (d.opn.length - i).toNat; omega) ⟨(by kernel_rfl), (by kernel_rfl), (by kernel_rfl), (by kernel_rfl), (by kernel_rfl), (by kernel_rfl), (by kernel_rfl), (by kernel_rfl), (by kernel_rfl), (by kernel_rfl), (by kernel_rfl), (by kernel_rfl), trivial⟩ ⟨K, hb2, ho65, hb5, (by omega), (by omega)⟩
  · have ph7 := of_decide_eq_false h7
    refine WC.exit ?_
    refine WX.seqE ?_
    refine WX.seqE ?_
    refine WX.blockE ?_
    refine WX.seqN ?_
    refine WC.seq ?_
    refine WC.region ?_
    refine WL.op (d := 48) (.pointer (some ⟨b, 0, none⟩)) (k := ?_)
    refine WL.op (d := 49) (.pointer (some ⟨b, 0, none⟩)) (k := ?_)
    refine WL.op (d := 50) (.pointer (some ⟨b, 0, none⟩)) (k := ?_)
    refine WL.op (d := 51) (.pointer (some ⟨b, 0, none⟩)) (k := ?_)
    refine WL.op (d := 52) (.pointer (some ⟨b, 1, none⟩)) (k := ?_)
    refine WL.store (v := .slice none 0 0) (i := 1) (cs' := #[.slice A1 d.secs.length c1, .slice none 0 0, .int .i64 d.fail, .int .i64 d.reads]) hb2 (k := fun w68 hb69 k70 => ?_)
    replace hb3 := hb3.keeps k70 (fun i hi e => (hb3.offT hb2 (by decide)) (e ▸ hi))
    replace hb5 := hb5.keeps k70 (fun i hi e => (hb5.offT hb2 (by decide)) (e ▸ hi))
    replace K := K.trans' k70 (fun i hi e => (hS i).2 (.inl e))
    clear hb2
    refine WL.op (d := 53) (.pointer (some ⟨b, 0, none⟩)) (k := ?_)
    refine WL.op (d := 54) (.pointer (some ⟨b, 2, none⟩)) (k := ?_)
    refine WL.store (v := .int .i64 0) (i := 2) (cs' := #[.slice A1 d.secs.length c1, .slice none 0 0, .int .i64 0, .int .i64 d.reads]) hb69 (k := fun w71 hb72 k73 => ?_)
    replace hb3 := hb3.keeps k73 (fun i hi e => (hb3.offT hb69 (by decide)) (e ▸ hi))
    replace hb5 := hb5.keeps k73 (fun i hi e => (hb5.offT hb69 (by decide)) (e ▸ hi))
    replace K := K.trans' k73 (fun i hi e => (hS i).2 (.inl e))
    clear hb69
    refine WL.op (d := 55) (.pointer (some ⟨b, 0, none⟩)) (k := ?_)
    refine WL.op (d := 56) (.pointer (some ⟨b, 3, none⟩)) (k := ?_)
    refine WL.store (v := .int .i64 0) (i := 3) (cs' := #[.slice A1 d.secs.length c1, .slice none 0 0, .int .i64 0, .int .i64 0]) hb72 (k := fun w74 hb75 k76 => ?_)
    replace hb3 := hb3.keeps k76 (fun i hi e => (hb3.offT hb72 (by decide)) (e ▸ hi))
    replace hb5 := hb5.keeps k76 (fun i hi e => (hb5.offT hb72 (by decide)) (e ▸ hi))
    replace K := K.trans' k76 (fun i hi e => (hS i).2 (.inl e))
    clear hb72
    refine WL.nil ?_
    refine WX.seqN ?_
    refine WC.seq ?_
    refine WC.region ?_
    refine WL.op (d := 57) (.int .i64 (Prod.snd (crashN fs d.opn d.secs i.toNat))) (k := ?_)
    refine WL.op (d := 4) (.int .i64 (Prod.snd (crashN fs d.opn d.secs i.toNat))) (k := ?_)
    refine WL.nil ?_
    refine WX.seqN ?_
    refine WC.ret ?_
    refine WX.scopeR ?_
    refine WX.ret (rs := [.tmp 4]) [.int .i64 (Prod.snd (crashN fs d.opn d.secs i.toNat))] (.int .i64 (Prod.snd (crashN fs d.opn d.secs i.toNat))) ⟨(by kernel_rfl), trivial⟩ (k := ?_)
    have q_ : i.toNat = d.opn.length := by omega
    rw [q_] at hb3
    rw [← crashN_len (fs := fs) (o := d.opn) (s0 := d.secs) d.opn.length] at hb75
    exact ⟨by rw [q_]; rfl, _, DiskAt.mk (d := d.crashD fs) hb75 hb3 OwAt.nil (GDisk.crashD_ok ho fs), flink hS, K⟩
end Go.Proofs.YtnkkbeafcfjkmaaGreatDoor
namespace Go.Proofs.YtnkkbeafcfjkmaaGreatDoor
open Go.RowKit
set_option linter.unusedVariables false
set_option linter.unusedSimpArgs false
abbrev Rec (fn : FuncId) (tmps : Array Value) (ps : Array Tmp) (asg body : Code) (D : Nat) : LoopState → Option Code → Obj := fun st pe => .loop { state := st, pending := pe, fn := fn, tmps := tmps, params := ps, assign := asg, body := body, defers := D }
theorem Keeps.putObj {w : World} {l : Nat} {o o' : Obj} (h : w.heap[l]? = some o) : Keeps (fun k => k = l) w (w.putObj l o') ∧ (w.putObj l o').heap[l]? = some o' :=
  ⟨⟨rfl, rfl, rfl, by simp, fun k _ hk => World.putObj_heap_other hk⟩, World.putObj_heap_same (lt_of_heap h)⟩
def Ylds (P : Program) (l : Nat) (args : Array Value) (w : World) (R : Ending → World → Prop) : Prop :=
  ∃ fn tmps asg body, (Instr.yield l args).run P w = .ok (.round l fn tmps asg body) w ∧ RoundIn Fence.wide 0 P l fn tmps asg body w R
theorem Ylds.mono {P : Program} {l : Nat} {args : Array Value} {w : World} {R R' : Ending → World → Prop} (h : Ylds P l args w R) (hr : ∀ e w, R e w → R' e w) : Ylds P l args w R' := by
  obtain ⟨fn, tmps, asg, body, hy, hR⟩ := h
  exact ⟨fn, tmps, asg, body, hy, hR.mono hr⟩
section
variable {P : Program} {ops : Array Oper} {n : Md} {Q : Exit → Act → World → Prop} {rest : List Oper} {fr : Fr} {w : World}
theorem WL.yield {l : Nat} {gx : Operand} {xs : Array Operand} {ats : Array TypeId} {args : Array Value} {R : Ending → World → Prop} {d : Nat} {ty : TypeId} {ps : String} {af : Array Edge} {g : Option (Nat × Bool)} (hY : Ylds P l args w R)
    (hw : want ops fr ⟨some d, .call ⟨.value gx, xs, ats⟩, ty, ps, af, g⟩ = some true := by kernel_rfl) (hg : ev fr gx = some (.func (.yield l) #[] #[]) := by kernel_rfl) (he : evs fr xs.toList = some args.toList := by kernel_rfl) (hn : Nat.blt d n.n = true := by kernel_rfl)
    (k : ∀ e w', R e w' → ∃ v, e = .returned v ∧ WL P ops n Q rest ((d, v) :: fr) w') : WL P ops n Q (⟨some d, .call ⟨.value gx, xs, ats⟩, ty, ps, af, g⟩ :: rest) fr w := by
  intro a ha
  refine wpListIn_step fun K hK => ?_
  rw [ha.want hw, if_pos rfl]
  refine ⟨fun _ _ => trivial, ?_⟩
  rw [Oper.semAt_eq _ _ _ (by simp)]
  have hargs : xs.map a.eval = args := by
    apply Array.ext'
    simpa using ha.evs he
  obtain ⟨fn, tmps, asg, body, hy, hR⟩ := hY
  have hr : (execOp a.eval ⟨some d, .call ⟨.value gx, xs, ats⟩, ty, ps, af, g⟩).run P w = .ok (.round l fn tmps asg body) w := by
    simp only [execOp, resolve, ha.eval hg, Deferred.ofValue, hargs, Sem.run_bind, Sem.run_pure, Result.andThen_ok, invoke, Array.empty_append, Array.append_empty, hy]
  rw [hr]
  refine ⟨fun h => by simp [Fence.wide] at h, RoundIn.mono hR fun e w' he => ?_⟩
  obtain ⟨v, rfl, h⟩ := k e w' he
  exact hK _ _ (h _ (ha.put hn _))
abbrev mkd (D : Nat) : Deferred := { target := .collected D, args := #[] }
def RangeEnd (P : Program) (n : Md) (Q : Exit → Act → World → Prop) (fr : Fr) (l D : Nat) : Ending → World → Prop := fun e w => ∃ v r, e = .returned v ∧ w.heap[l]? = some (.loop r) ∧ r.state ≠ .busy ∧
  (∀ w', Keeps (fun k => k = l) w w' →
    (r.pending = none ∧ WX ⟨n.n, none, [mkd D]⟩ Q .normal fr w') ∨ (∃ c, r.pending = some c ∧ WC P ⟨n.n, none, [mkd D]⟩ Q c fr w'))
theorem WC.range {m : Nat} {gx : Operand} {ps : Array Tmp} {asg body : Code} {gf : FuncId} {lb : Array Value} (hg : ev fr gx = some (.func (.func gf) #[] lb) := by kernel_rfl) (he : ∀ args w, (callFunc gf args).run P w = .ok (.enter gf args) w)
    (h : ∀ (fn : FuncId) (tmps : Array Value) (rec : LoopState → Option Code → Obj) (l D : Nat) (w1 : World), rec = Rec fn tmps ps asg body D → w.heap.size ≤ D → w.heap.size ≤ l → D ≠ l → Adds w w1 → FrOk ⟨m, some l, []⟩ fr ⟨tmps, []⟩ → w1.heap[D]? = some (.deferred (some [])) → w1.heap[l]? = some (rec .ready none) →
      Calls P gf (#[.func (.yield l) #[] #[]] ++ lb) w1 (RangeEnd P ⟨m, none, []⟩ Q fr l D)) : WC P ⟨m, none, []⟩ Q (.rangeFunc gx ps asg body) fr w := by
  intro a ha
  refine wpIn_rangeFunc fun fn _ => ?_
  have hd : a.defers = [] := ha.defers
  have hL := World.alloc_heap_new (w.alloc (.deferred (some []))) (Rec fn a.tmps ps asg body w.heap.size .ready none)
  rw [World.size_alloc] at hL
  have hK : ((w.alloc (.deferred (some []))).alloc (Rec fn a.tmps ps asg body w.heap.size .ready none)).heap[w.heap.size]? = some (.deferred (some [])) := (Below.heap_alloc _ _ _ (by simp)).trans (World.alloc_heap_new w _)
  have hA : Adds w ((w.alloc (.deferred (some []))).alloc (Rec fn a.tmps ps asg body w.heap.size .ready none)) := ((Keeps.refl _ w).alloc _).alloc _
  have hE := run_enterLoop_outer (P := P) (w := w) fn a.tmps ps asg body
  obtain ⟨W1, hW1⟩ : ∃ W1, (w.alloc (.deferred (some []))).alloc (Rec fn a.tmps ps asg body w.heap.size .ready none) = W1 := ⟨_, rfl⟩
  rw [hW1] at hL hK hA hE
  refine ⟨w.heap.size + 1, [mkd w.heap.size], W1, { target := .fn (.func gf) lb, args := #[.func (.yield (w.heap.size + 1)) #[] #[]] }, W1, gf, #[.func (.yield (w.heap.size + 1)) #[] #[]] ++ lb, W1, hE, ?_, fun _ _ => trivial, ?_, fun h => by simp [Fence.wide] at h, ?_⟩
  · simp only [resolve, ha.eval hg]
    simp [go_sem]
  · simp [invoke, go_sem, he]
  · refine calls_fz ((h fn a.tmps _ (w.heap.size + 1) w.heap.size _ rfl (Nat.le_refl _) (by omega) (by omega) hA ⟨rfl, ha.size, ha.val⟩ hK hL).mono ?_)
    rintro e w3 ⟨v, ⟨st, pe, f1, t1, p1, a1, b1, d1⟩, rfl, hl, hb, hk⟩
    have hk := hk _ (Keeps.putObj (o' := .loop ⟨.exhausted, pe, f1, t1, p1, a1, b1, d1⟩) hl).1
    have ha' : FrOk ⟨m, none, [mkd w.heap.size]⟩ fr { a with defers := [mkd w.heap.size] ++ a.defers } := ⟨by simp [hd], ha.size, ha.val⟩
    refine ⟨pe, _, run_endLoop hl hb, ?_⟩
    rcases hk with ⟨hp, hx⟩ | ⟨c, hp, hx⟩
    · simp only at hp; subst hp; exact hx _ ha'
    · simp only at hp; subst hp; exact hx _ ha'
def bindF : List Tmp → List Value → Fr → Fr
  | t :: ts, v :: vs, fr => bindF ts vs ((t, v) :: fr)
  | _, _, fr => fr
theorem FrOk.binds {n : Md} (hn0 : n.D = []) : ∀ {ts : List Tmp} {vs : List Value} {fr : Fr} {tmps : Array Value}, ts.all (fun t => Nat.blt t n.n) = true → FrOk n fr ⟨tmps, []⟩ → FrOk n (bindF ts vs fr) ⟨(ts.zip vs).foldl (fun tmps (t, a) => tmps.setIfInBounds t a) tmps, []⟩
  | [], _, fr, tmps, _, h => by simpa [bindF] using h
  | t :: ts, [], fr, tmps, _, h => by simpa [bindF] using h
  | t :: ts, v :: vs, fr, tmps, ht, h => by
    simp only [List.all_cons, Bool.and_eq_true] at ht
    have h1 := h.put (d := t) ht.1 v
    have h2 := FrOk.binds (vs := vs) (tmps := tmps.setIfInBounds t v) hn0 ht.2 (by simpa [Act.put] using h1)
    simpa [bindF] using h2
def Beg (P : Program) (l : Nat) (body : Code) (R : Ending → World → Prop) : Exit → Act → World → Prop :=
  Exit.then (fun a1 w1 => ∃ w2, (Instr.beginRound l).run P w1 = .ok () w2 ∧ body.wpIn (fz (some l)) 0 P (roundPost P l R) a1 w2) (fun _ _ _ => False)
section
variable {m l D : Nat} {fn : FuncId} {tmps args : Array Value} {ps : Array Tmp} {asg body body' : Code} {R : Ending → World → Prop} {rec : LoopState → Option Code → Obj} {st : LoopState} {pe : Option Code}
theorem Ylds.mk (hrec : rec = Rec fn tmps ps asg body D) (hl : w.heap[l]? = some (rec .ready none)) (hF : FrOk ⟨m, some l, []⟩ fr ⟨tmps, []⟩)
    (hb : ps.size = args.size := by kernel_rfl) (hp : ps.toList.all (fun t => Nat.blt t m) = true := by kernel_rfl)
    (k : WC P ⟨m, some l, []⟩ (Beg P l body R) asg (bindF ps.toList args.toList fr) w) : Ylds P l args w R := by
  subst hrec
  have h2 := FrOk.binds (vs := args.toList) (n := ⟨m, some l, []⟩) rfl hp hF
  refine ⟨_, _, _, _, run_yield hl hb.symm, ?_⟩
  have h3 := roundIn_of_wpIn (F := Fence.wide) (l := l) (f := fn) (R := R) trivial (k _ h2)
  rw [← Array.foldl_toList, Array.toList_zip]
  exact h3
end
end
section
variable {P : Program} {ops : Array Oper} {Q : Exit → Act → World → Prop} {C : World → Prop}
def reachB (ops : Array Oper) : Nat → Nat → Nat → Bool
  | 0, _, _ => false
  | f + 1, t, i => ((ops[t]?).map fun o => o.after.any fun e => Region.binds .any e && (e.on == i || reachB ops f e.on i)).getD false
def Closed (ops : Array Oper) (listed : Array Bool) : Prop := ∀ (j : Nat) (oj : Oper), ops[j]? = some oj → listed.getD j false = true → ∀ e ∈ oj.after, Region.binds .any e = true → listed.getD e.on false = true
def closedB (ops : Array Oper) (listed : Array Bool) : Bool := (List.range ops.size).all fun j => !(listed.getD j false) || ((ops[j]?).map (·.after.all fun e => !Region.binds .any e || listed.getD e.on false)).getD false
theorem closedB_spec {listed : Array Bool} (h : closedB ops listed = true) : Closed ops listed := fun j oj hj hl e he hb => by
  have h1 := List.all_eq_true.1 h j (List.mem_range.2 (Array.getElem?_eq_some_iff.1 hj).1)
  simp only [hl, hj, Option.map_some, Option.getD_some, Bool.not_true, Bool.false_or] at h1
  have h2 := Array.all_eq_true'.1 h1 e he
  simpa [hb] using h2
theorem reach_un {listed : Array Bool} {i : Nat} (hc : Closed ops listed) (hi : listed.getD i false = false) : ∀ (f t : Nat), reachB ops f t i = true → ∃ o, ops[t]? = some o ∧ ∃ e ∈ o.after, Region.binds .any e = true ∧ listed.getD e.on false = false
  | 0, t, h => by simp [reachB] at h
  | f + 1, t, h => by
    unfold reachB at h
    cases ho : ops[t]? with
    | none => rw [ho] at h; simp at h
    | some o =>
      rw [ho] at h
      simp only [Option.map_some, Option.getD_some] at h
      obtain ⟨e, he, h⟩ := Array.any_eq_true'.1 h
      simp only [Bool.and_eq_true, Bool.or_eq_true, beq_iff_eq] at h
      refine ⟨o, rfl, e, he, h.1, ?_⟩
      rcases h.2 with h2 | h2
      · rw [h2]; exact hi
      · obtain ⟨o2, ho2, e2, he2, hb2, hu2⟩ := reach_un hc hi f e.on h2
        cases hl : listed.getD e.on false with
        | false => rfl
        | true => rw [hc e.on o2 ho2 hl e2 he2 hb2] at hu2; cases hu2
theorem getDf_both {l : Array Bool} {i : Nat} (h : l.getD i true = false) : l.getD i false = false := by
  simp only [Array.getD_eq_getD_getElem?] at *
  cases hi : l[i]? with
  | none => rfl
  | some x => rw [hi] at h; exact h
theorem Closed.set {listed : Array Bool} {j : Nat} {oj : Oper} (hc : Closed ops listed) (hj : ops[j]? = some oj) (ha : ∀ e ∈ oj.after, Region.binds .any e = true → listed.getD e.on false = true) : Closed ops (listed.setIfInBounds j true) := fun t ot ht hl e he hb => by
  have up : ∀ u, listed.getD u false = true → (listed.setIfInBounds j true).getD u false = true := fun u hu => by
    simp only [Array.getD_eq_getD_getElem?, Array.getElem?_setIfInBounds] at *
    split
    · split
      · rfl
      · next h => subst_vars; rw [Array.getElem?_eq_none (by omega)] at hu; exact hu
    · exact hu
  by_cases e2 : j = t
  · subst e2; rw [hj] at ht; cases ht; exact up _ (ha e he hb)
  · rw [getDf_set e2] at hl; exact up _ (hc t ot ht hl e he hb)
theorem AnyW.first3 {R0 : Option Nat} {last i g : Nat} {oi : Oper} {v : Value} (hi : ops[i]? = some oi) (nd : Nds ops) (hl : reachB ops g last i = true) (hil : i ≠ last) :
    ∀ (f : Nat) (listed : Array Bool) (a : Act) (w : World), C w → Closed ops listed → listed.getD last false = false →
      (∀ j oj, ops[j]? = some oj → j ≠ i → listed.getD j true = false → (∀ e ∈ oj.after, Region.binds .any e = true → e.on ≠ i) → oi.apart ops oj = true) →
      i ∈ Region.ready .any ops listed → YieldsC P ops C oi v a → AnyW R0 P .any ops Q C last f (listed.setIfInBounds i true) (a.put oi.dst v) w → AnyW R0 P .any ops Q C last (f + 1) listed a w := by
  intro f
  induction f with
  | zero =>
    intro listed a w hC hcl hu _ hr hy H
    refine ⟨fun h => (by rw [h] at hr; cases hr), fun j hj => ?_⟩
    by_cases hji : j = i
    · subst hji; exact hy.wpOp nd hi hC ⟨fun _ _ => hC, H⟩
    · have := ready_mono hj hji
      rw [H.1] at this; cases this
  | succ f ih =>
    intro listed a w hC hcl hu hfree hr hy H
    have hun := (mem_ready.1 hr).1
    refine ⟨fun h => (by rw [h] at hr; cases hr), fun j hj => ?_⟩
    by_cases hji : j = i
    · subst hji; exact hy.wpOp nd hi hC ⟨fun _ _ => hC, H⟩
    · obtain ⟨hjun, oj, hoj, hall⟩ := mem_ready.1 hj
      have hnot : ∀ e ∈ oj.after, Region.binds .any e = true → e.on ≠ i := fun e he hb heq => by
        have h1 := hall e he hb
        rw [heq, getD_both hun] at h1; cases h1
      have hjl : j ≠ last := fun h => by
        subst h
        obtain ⟨o', ho', e, he, hb, hon⟩ := reach_un hcl (getDf_both hun) _ _ hl
        rw [hoj] at ho'; cases ho'
        have h1 := hall e he hb
        rw [hon] at h1; cases h1
      refine wpOpIn_mono (fun a' w' h3 => ⟨fun _ hj => h3.2.1 (by rw [getDf_set hil]; exact hu) hj, ?_⟩) (wpOp_putC hoj (hfree j oj hoj hji hjun hnot) (nd i oi hi) (nd j oj hoj) hy (H.2 j (ready_mono hj hji)))
      refine ih _ a' w' (h3.2.1 (by rw [getDf_set hil]; exact hu) hjl) (hcl.set hoj hall) (by rw [getDf_set hjl]; exact hu) (fun k ok hk hki hun' hno => hfree k ok hk hki ?_ hno) (ready_mono hr (Ne.symm hji)) h3.1 ?_
      · by_cases hjk : j = k
        · subst hjk; exact hjun
        · rw [getD_set_ne true hjk] at hun'; exact hun'
      · rw [Array.setIfInBounds_comm _ _ hji]
        exact h3.2.2
end
section
variable {P : Program} {ops : Array Oper} {n : Md} {Q : Exit → Act → World → Prop} {C : World → Prop} {last f : Nat} {listed : Array Bool} {fr : Fr} {w : World}
def freeB3 (ops : Array Oper) (listed : Array Bool) (last i : Nat) : Bool := (Region.ready .any ops listed).contains i && Region.free .any ops listed i && reachB ops ops.size last i && !(i == last) && !(listed.getD last false) && closedB ops listed
theorem WA.firstT (i : Nat) {oi : Oper} {d : Nat} (v : Value) (hC : C w) (hs : ndsB ops = true) (hi : ops[i]? = some oi) (hf : freeB3 ops listed last i = true) (hd : oi.dst = some d) (hn : Nat.blt d n.n = true)
    (hy : ∀ a, FrOk n fr a → YieldsC P ops C oi v a) (k : WA P ops n Q C last f (listed.setIfInBounds i true) ((d, v) :: fr) w) : WA P ops n Q C last (f + 1) listed fr w := fun a ha => by
  simp only [freeB3, Bool.and_eq_true, Bool.not_eq_true', beq_eq_false_iff_ne] at hf
  obtain ⟨⟨⟨⟨⟨h1, h2⟩, h3⟩, h4⟩, h5⟩, h6⟩ := hf
  refine AnyW.first3 (v := v) hi (ndsB_spec hs) h3 h4 f listed a w hC (closedB_spec h6) h5 (Region.free_spec hi h2) (by simpa using h1) (hy a ha) ?_
  rw [hd]; exact k _ (ha.put hn v)
theorem WA.quietT (i : Nat) {oi : Oper} {d : Nat} (v : Value) (hC : C w) (hr : ∀ w, C w → (execOp (evf fr) oi).run P w = .ok (.value v) w := by intro _ _; kernel_rfl)
    (hs : ndsB ops = true := by kernel_rfl) (hi : ops[i]? = some oi := by kernel_rfl) (hf : freeB3 ops listed last i = true := by kernel_rfl) (hw : want ops fr oi = some true := by kernel_rfl) (ho : okOps fr oi = true := by kernel_rfl) (hd : oi.dst = some d := by kernel_rfl) (hn : Nat.blt d n.n = true := by kernel_rfl)
    (k : WA P ops n Q C last f (listed.setIfInBounds i true) ((d, v) :: fr) w) : WA P ops n Q C last (f + 1) listed fr w :=
  WA.firstT i v hC hs hi hf hd hn (fun a ha => .inl ⟨ha.want hw, fun w' hw' => by rw [ha.exec ho]; exact hr w' hw'⟩) k
theorem WA.quietRT (i : Nat) {oi : Oper} {d : Nat} (v : Value) (hC : C w) (hr : ∀ a, FrOk n fr a → ∀ w, C w → (execOp a.eval oi).run P w = .ok (.value v) w)
    (hs : ndsB ops = true := by kernel_rfl) (hi : ops[i]? = some oi := by kernel_rfl) (hf : freeB3 ops listed last i = true := by kernel_rfl) (hw : want ops fr oi = some true := by kernel_rfl) (hd : oi.dst = some d := by kernel_rfl) (hn : Nat.blt d n.n = true := by kernel_rfl)
    (k : WA P ops n Q C last f (listed.setIfInBounds i true) ((d, v) :: fr) w) : WA P ops n Q C last (f + 1) listed fr w :=
  WA.firstT i v hC hs hi hf hd hn (fun a ha => .inl ⟨ha.want hw, fun w' hw' => hr a ha w' hw'⟩) k
end
theorem WC.seqW {P : Program} {n : Md} {Q : Exit → Act → World → Prop} {fr : Fr} {w : World} {ι : Type} {x y : Code} (F : ι → Fr) (I : ι → World → Prop) (h : ∀ i w', I i w' → WC P n Q y (F i) w') (hx : WC P n (Exit.then (fun a' w' => ∃ i, I i w' ∧ FrOk n (F i) a') Q) x fr w) : WC P n Q (.seq x y) fr w := fun a ha =>
  wpIn_seq (wpIn_mono (hx a ha) (fun e a' w' q => by
    cases e with
    | normal => obtain ⟨i, hi, hf⟩ := q; exact h i w' hi a' hf
    | _ => exact q))
theorem WX.joinW {n : Md} {Q : Exit → Act → World → Prop} {fr : Fr} {w : World} {ι : Type} {F : ι → Fr} {I : ι → World → Prop} (i : ι) (hi : I i w) (hs : Sub (F i) fr) : WX n (Exit.then (fun a' w' => ∃ i, I i w' ∧ FrOk n (F i) a') Q) .normal fr w := fun a ha => ⟨i, hi, ha.sub hs⟩
end Go.Proofs.YtnkkbeafcfjkmaaGreatDoor
namespace Go.Proofs.YtnkkbeafcfjkmaaGreatDoor
open Go.RowKit
set_option linter.unusedVariables false
set_option linter.unusedSimpArgs false
abbrev putC (x : Int × List UInt8) : List Value := [.int .i64 x.1, .string ⟨x.2.toArray⟩]
theorem ekPut : EK putC 2 83 := EK.of (z := .agg #[.int .i64 0, .string ⟨#[]⟩]) (bt := 24) (fun _ => rfl) (fun _ => rfl) (by decide) (by kernel_rfl) rfl (by decide)
def RefAt (S : Nat → Prop) (b : Nat) (d : GDisk) (w : World) : Prop :=
  ∃ A1 c1 A2 c2, w.heap[b]? = some (.cells #[.slice A1 d.secs.length c1, .slice A2 d.opn.length c2, .int .i64 d.fail, .int .i64 d.reads] 49 (0, 0)) ∧
    OwAt strC 1 9 A1 c1 d.secs w ∧ OwAt putC 2 83 A2 c2 d.opn w ∧ (∀ k, S k ↔ k = b ∨ blk A1 = some k ∨ blk A2 = some k) ∧ d.ok
section
variable {S S' : Nat → Prop} {b : Nat} {d : GDisk} {w w' : World}
theorem RefAt.keeps (h : RefAt S b d w) (k : Keeps S' w w') (hn : ∀ i, S i → ¬ S' i) : RefAt S b d w' := by
  obtain ⟨A1, c1, A2, c2, hb, h1, h2, hS, ho⟩ := h
  exact ⟨A1, c1, A2, c2, k.heap hb (hn b ((hS b).2 (.inl rfl))), h1.keeps k (fun i hi => hn i ((hS i).2 (.inr (.inl hi)))), h2.keeps k (fun i hi => hn i ((hS i).2 (.inr (.inr hi)))), hS, ho⟩
theorem RefAt.adds (h : RefAt S b d w) (k : Adds w w') : RefAt S b d w' := h.keeps k (fun _ _ x => x)
theorem RefAt.lt (h : RefAt S b d w) : ∀ i, S i → i < w.heap.size := by
  obtain ⟨A1, c1, A2, c2, hb, h1, h2, hS, ho⟩ := h
  intro i hi
  rcases (hS i).1 hi with rfl | hi | hi
  · exact lt_of_heap hb
  · exact h1.lt i hi
  · exact h2.lt i hi
theorem RefAt.mem (h : RefAt S b d w) : S b := by
  obtain ⟨A1, c1, A2, c2, hb, h1, h2, hS, ho⟩ := h; exact (hS b).2 (.inl rfl)
theorem RefAt.ok (h : RefAt S b d w) : d.ok := by
  obtain ⟨A1, c1, A2, c2, hb, h1, h2, hS, ho⟩ := h; exact ho
end
def RefPost (S : Nat → Prop) (b : Nat) (d : GDisk) (w w' : World) : Prop := ∃ S', RefAt S' b d w' ∧ (∀ k, S' k → S k ∨ w.heap.size ≤ k) ∧ Keeps S w w'
section
variable {A1 A2 : Option Addr} {c1 c2 b : Nat} {d : GDisk} {w : World}
theorem RefAt.mk (hb : w.heap[b]? = some (.cells #[.slice A1 d.secs.length c1, .slice A2 d.opn.length c2, .int .i64 d.fail, .int .i64 d.reads] 49 (0, 0))) (h1 : OwAt strC 1 9 A1 c1 d.secs w) (h2 : OwAt putC 2 83 A2 c2 d.opn w) (ho : d.ok) : RefAt (fun k => k = b ∨ blk A1 = some k ∨ blk A2 = some k) b d w :=
  ⟨A1, c1, A2, c2, hb, h1, h2, fun _ => Iff.rfl, ho⟩
theorem RefAt.mkS {S : Nat → Prop} (hS : ∀ k, S k ↔ k = b ∨ blk A1 = some k ∨ blk A2 = some k) (hb : w.heap[b]? = some (.cells #[.slice A1 d.secs.length c1, .slice A2 d.opn.length c2, .int .i64 d.fail, .int .i64 d.reads] 49 (0, 0))) (h1 : OwAt strC 1 9 A1 c1 d.secs w) (h2 : OwAt putC 2 83 A2 c2 d.opn w) (ho : d.ok) : RefAt S b d w :=
  ⟨A1, c1, A2, c2, hb, h1, h2, hS, ho⟩
end
namespace GDisk
theorem over_none {a : Int} : ∀ {o : List (Int × List UInt8)} {s : List UInt8}, (∀ x ∈ o, ¬ x.1 = a) → o.foldl (over a) s = s
  | [], _, _ => rfl
  | x :: o, s, h => by
    rw [List.foldl_cons, over, if_neg (h x (List.mem_cons_self ..))]
    exact over_none (fun y hy => h y (List.mem_cons_of_mem _ hy))
theorem at_none {d : GDisk} {a i : Int} {r : List UInt8} (hi : i < 0) (h : ∀ x ∈ d.opn.drop (i + 1).toNat, ¬ x.1 = a) (hr : d.secs[a.toNat]? = some r) : d.at_ a = r := by
  rw [show (i + 1).toNat = 0 by omega, List.drop_zero] at h
  rw [at_, over_none h, List.getD_eq_getElem?_getD, hr]; rfl
theorem at_hit {d : GDisk} {a i : Int} {q : Int × List UInt8} (h0 : 0 ≤ i) (hq : d.opn[i.toNat]? = some q) (he : q.1 = a) (h : ∀ x ∈ d.opn.drop (i + 1).toNat, ¬ x.1 = a) : d.at_ a = q.2 := by
  have hlt := (List.getElem?_eq_some_iff.1 hq).1
  have e : d.opn = d.opn.take i.toNat ++ q :: d.opn.drop (i + 1).toNat := by
    have e1 := List.take_append_drop i.toNat d.opn
    rw [List.drop_eq_getElem_cons hlt, show d.opn[i.toNat] = q from (List.getElem?_eq_some_iff.1 hq).2] at e1
    rw [show (i + 1).toNat = i.toNat + 1 by omega]; exact e1.symm
  rw [at_, e, List.foldl_append, List.foldl_cons, over, if_pos he, over_none h]
theorem back_step {d : GDisk} {a i : Int} {q : Int × List UInt8} (h0 : 0 ≤ i) (hq : d.opn[i.toNat]? = some q) (he : ¬ q.1 = a) (h : ∀ x ∈ d.opn.drop (i + 1).toNat, ¬ x.1 = a) : ∀ x ∈ d.opn.drop (i - 1 + 1).toNat, ¬ x.1 = a := by
  have hlt := (List.getElem?_eq_some_iff.1 hq).1
  rw [show (i - 1 + 1).toNat = i.toNat by omega, List.drop_eq_getElem_cons hlt]
  intro x hx
  rcases List.mem_cons.1 hx with rfl | hx
  · rw [(List.getElem?_eq_some_iff.1 hq).2]; exact he
  · exact h x (by rw [show (i + 1).toNat = i.toNat + 1 by omega]; exact hx)
theorem back_start {d : GDisk} {a : Int} : ∀ x ∈ d.opn.drop ((d.opn.length : Int) - 1 + 1).toNat, ¬ x.1 = a := by
  rw [show ((d.opn.length : Int) - 1 + 1).toNat = d.opn.length by omega, List.drop_length]
  intro x hx; simp at hx
end GDisk
end Go.Proofs.YtnkkbeafcfjkmaaGreatDoor
namespace Go.Proofs.YtnkkbeafcfjkmaaGreatDoor
open Go.RowKit
set_option linter.unusedVariables false
set_option linter.unusedSimpArgs false
set_option maxRecDepth 100000 in
set_option maxHeartbeats 4000000 in
theorem rdFails_b {b : Nat} {f : Int} {s1 s2 v4 : Value} {w : World} (hb : w.heap[b]? = some (.cells #[s1, s2, .int .i64 f, v4] 49 (0, 0))) (hf : 0 ≤ f ∧ f ≤ 9223372036854775807) : Calls Tryz.prog 41 #[.pointer (some ⟨b, 0, none⟩)] w fun e w' => e = .returned (.bool (decide (f = 1))) ∧ w'.heap[b]? = some (.cells #[s1, s2, .int .i64 (tickF f), v4] 49 (0, 0)) ∧ Keeps (fun k => k = b) w w' := by
  have K : Keeps (fun k => k = b) w w := Keeps.refl _ w
  refine Calls.start Tryz.func41 rfl (by as_aux_lemma => kernel_rfl) ?_
  refine WC.seq ?_
  refine WC.region ?_
  refine WL.op (d := 2) (.bool false) (by as_aux_lemma => kernel_rfl) (by as_aux_lemma => kernel_rfl) (by as_aux_lemma => kernel_rfl) rfl (by as_aux_lemma => kernel_rfl) (k := ?_)
  refine WL.nil ?_
  refine WX.seqN ?_
  refine WC.seq ?_
  refine WC.seq ?_
  refine WC.region ?_
  refine WL.op (d := 3) (.pointer (some ⟨b, 0, none⟩)) (by as_aux_lemma => kernel_rfl) (by as_aux_lemma => kernel_rfl) (by as_aux_lemma => kernel_rfl) rfl (by as_aux_lemma => kernel_rfl) (k := ?_)
  refine WL.op (d := 4) (.pointer (some ⟨b, 0, none⟩)) (by as_aux_lemma => kernel_rfl) (by as_aux_lemma => kernel_rfl) (by as_aux_lemma => kernel_rfl) rfl (by as_aux_lemma => kernel_rfl) (k := ?_)
  refine WL.op (d := 5) (.pointer (some ⟨b, 2, none⟩)) (by as_aux_lemma => kernel_rfl) (by as_aux_lemma => kernel_rfl) (by as_aux_lemma => kernel_rfl) rfl (by as_aux_lemma => kernel_rfl) (k := ?_)
  refine WL.load (v := .int .i64 f) (ld1 (T := 3) (i := 2) hb (by as_aux_lemma => kernel_rfl) (by as_aux_lemma => kernel_rfl)) (by as_aux_lemma => kernel_rfl) (by as_aux_lemma => kernel_rfl) (by as_aux_lemma => kernel_rfl) (k := ?_)
  refine WL.op (d := 7) (.bool (f == 0)) (by as_aux_lemma => kernel_rfl) (by as_aux_lemma => kernel_rfl) (by as_aux_lemma => kernel_rfl) rfl (by as_aux_lemma => kernel_rfl) (k := ?_)
  refine WL.nil ?_
  refine WX.seqN ?_
  refine WC.cond (b := f == 0) (by as_aux_lemma => kernel_rfl) (ht := fun h1 => ?_) (hf := fun h1 => ?_)
  · have ph1 := eq_of_beq h1
    refine WC.seq ?_
    refine WC.region ?_
    refine WL.op (d := 2) (.bool false) (by as_aux_lemma => kernel_rfl) (by as_aux_lemma => kernel_rfl) (by as_aux_lemma => kernel_rfl) rfl (by as_aux_lemma => kernel_rfl) (k := ?_)
    refine WL.nil ?_
    refine WX.seqN ?_
    refine WC.ret ?_
    refine WX.seqR ?_
    refine WX.ret (rs := [.tmp 2]) [.bool false] (.bool false) ⟨(by as_aux_lemma => kernel_rfl), trivial⟩ rfl rfl (k := ?_)
    have q_ : tickF f = f := by rw [ph1]; rfl
    have q2_ : ¬ f = 1 := by omega
    exact ⟨ret_bool (decide_eq_false q2_).symm, by rw [q_]; exact hb, K⟩
  · have ph1 := ne_of_beq_false h1
    refine WC.skip ?_
    refine WX.seqN ?_
    refine WC.seq ?_
    refine WC.region ?_
    refine WL.op (d := 8) (.pointer (some ⟨b, 0, none⟩)) (by as_aux_lemma => kernel_rfl) (by as_aux_lemma => kernel_rfl) (by as_aux_lemma => kernel_rfl) rfl (by as_aux_lemma => kernel_rfl) (k := ?_)
    refine WL.op (d := 9) (.pointer (some ⟨b, 0, none⟩)) (by as_aux_lemma => kernel_rfl) (by as_aux_lemma => kernel_rfl) (by as_aux_lemma => kernel_rfl) rfl (by as_aux_lemma => kernel_rfl) (k := ?_)
    refine WL.op (d := 10) (.pointer (some ⟨b, 2, none⟩)) (by as_aux_lemma => kernel_rfl) (by as_aux_lemma => kernel_rfl) (by as_aux_lemma => kernel_rfl) rfl (by as_aux_lemma => kernel_rfl) (k := ?_)
    refine WL.load (v := .int .i64 f) (ld1 (T := 3) (i := 2) hb (by as_aux_lemma => kernel_rfl) (by as_aux_lemma => kernel_rfl)) (by as_aux_lemma => kernel_rfl) (by as_aux_lemma => kernel_rfl) (by as_aux_lemma => kernel_rfl) (k := ?_)
    refine WL.opE (d := 12) (.int .i64 (IntKind.i64.wrap (f - 1))) (v := .int .i64 (f - 1)) (congrArg (Value.int .i64) (IntWalk.i64_in _ (by omega))) (by as_aux_lemma => kernel_rfl) (by as_aux_lemma => kernel_rfl) (by as_aux_lemma => kernel_rfl) rfl (by as_aux_lemma => kernel_rfl) (k := ?_)
    refine WL.op (d := 13) (.pointer (some ⟨b, 0, none⟩)) (by as_aux_lemma => kernel_rfl) (by as_aux_lemma => kernel_rfl) (by as_aux_lemma => kernel_rfl) rfl (by as_aux_lemma => kernel_rfl) (k := ?_)
    refine WL.op (d := 14) (.pointer (some ⟨b, 2, none⟩)) (by as_aux_lemma => kernel_rfl) (by as_aux_lemma => kernel_rfl) (by as_aux_lemma => kernel_rfl) rfl (by as_aux_lemma => kernel_rfl) (k := ?_)
    refine WL.store (v := .int .i64 (f - 1)) (i := 2) (cs' := #[s1, s2, .int .i64 (f - 1), v4]) hb (by as_aux_lemma => kernel_rfl) (by as_aux_lemma => kernel_rfl) (by as_aux_lemma => kernel_rfl) (by as_aux_lemma => kernel_rfl) (by as_aux_lemma => kernel_rfl) (by as_aux_lemma => kernel_rfl) (by as_aux_lemma => kernel_rfl) (k := fun w2 hb3 k4 => ?_)
    replace K := K.trans' k4 (fun i hi e => e)
    clear hb
    refine WL.nil ?_
    refine WX.seqN ?_
    refine WC.seq ?_
    refine WC.region ?_
    refine WL.op (d := 15) (.pointer (some ⟨b, 0, none⟩)) (by as_aux_lemma => kernel_rfl) (by as_aux_lemma => kernel_rfl) (by as_aux_lemma => kernel_rfl) rfl (by as_aux_lemma => kernel_rfl) (k := ?_)
    refine WL.op (d := 16) (.pointer (some ⟨b, 0, none⟩)) (by as_aux_lemma => kernel_rfl) (by as_aux_lemma => kernel_rfl) (by as_aux_lemma => kernel_rfl) rfl (by as_aux_lemma => kernel_rfl) (k := ?_)
    refine WL.op (d := 17) (.pointer (some ⟨b, 2, none⟩)) (by as_aux_lemma => kernel_rfl) (by as_aux_lemma => kernel_rfl) (by as_aux_lemma => kernel_rfl) rfl (by as_aux_lemma => kernel_rfl) (k := ?_)
    refine WL.load (v := .int .i64 (f - 1)) (ld1 (T := 3) (i := 2) hb3 (by as_aux_lemma => kernel_rfl) (by as_aux_lemma => kernel_rfl)) (by as_aux_lemma => kernel_rfl) (by as_aux_lemma => kernel_rfl) (by as_aux_lemma => kernel_rfl) (k := ?_)
    refine WL.op (d := 19) (.bool ((f - 1) == 0)) (by as_aux_lemma => kernel_rfl) (by as_aux_lemma => kernel_rfl) (by as_aux_lemma => kernel_rfl) rfl (by as_aux_lemma => kernel_rfl) (k := ?_)
    refine WL.op (d := 2) (.bool ((f - 1) == 0)) (by as_aux_lemma => kernel_rfl) (by as_aux_lemma => kernel_rfl) (by as_aux_lemma => kernel_rfl) rfl (by as_aux_lemma => kernel_rfl) (k := ?_)
    refine WL.nil ?_
    refine WX.seqN ?_
    refine WC.ret ?_
    refine WX.ret (rs := [.tmp 2]) [.bool ((f - 1) == 0)] (.bool ((f - 1) == 0)) ⟨(by as_aux_lemma => kernel_rfl), trivial⟩ rfl rfl (k := ?_)
    have q_ : tickF f = f - 1 := if_neg ph1
    exact ⟨ret_bool (by rw [Bool.eq_iff_iff, beq_iff_eq, decide_eq_true_eq]; omega), by rw [q_]; exact hb3, K⟩
set_option maxRecDepth 100000 in
set_option maxHeartbeats 4000000 in
theorem rdRead_c {a : Int} {S : Nat → Prop} {b : Nat} {d : GDisk} {w : World} (hd : RefAt S b d w) : Calls Tryz.prog 30 #[.pointer (some ⟨b, 0, none⟩), .int .i64 a] w fun e w' => e = .returned (.tuple #[.string ⟨(d.readT a).toArray⟩, .int .i64 (d.readE a)]) ∧ RefAt S b (d.readD a) w' ∧ Keeps S w w' := by
  have K : Keeps S w w := Keeps.refl _ w
  obtain ⟨A1, c1, A2, c2, hb, hw1, hw2, hS, ho⟩ := hd
  have ho2 := ho
  obtain ⟨os_, ow_, of0_, of1_, on_, om_⟩ := ho2
  refine Calls.start Tryz.func30 rfl (by as_aux_lemma => kernel_rfl) ?_
  refine WC.seq ?_
  refine WC.region ?_
  refine WL.op (d := 4) (.string ⟨#[]⟩) (by as_aux_lemma => kernel_rfl) (by as_aux_lemma => kernel_rfl) (by as_aux_lemma => kernel_rfl) rfl (by as_aux_lemma => kernel_rfl) (k := ?_)
  refine WL.op (d := 5) (.int .i64 0) (by as_aux_lemma => kernel_rfl) (by as_aux_lemma => kernel_rfl) (by as_aux_lemma => kernel_rfl) rfl (by as_aux_lemma => kernel_rfl) (k := ?_)
  refine WL.nil ?_
  refine WX.seqN ?_
  refine WC.seq ?_
  refine WC.seq ?_
  refine WC.region ?_
  refine WL.op (d := 8) (.int .i64 a) (by as_aux_lemma => kernel_rfl) (by as_aux_lemma => kernel_rfl) (by as_aux_lemma => kernel_rfl) rfl (by as_aux_lemma => kernel_rfl) (k := ?_)
  refine WL.op (d := 9) (.bool (decide (a < 0))) (by as_aux_lemma => kernel_rfl) (by as_aux_lemma => kernel_rfl) (by as_aux_lemma => kernel_rfl) rfl (by as_aux_lemma => kernel_rfl) (k := ?_)
  refine WL.op (d := 10) (.bool (decide (a < 0))) (by as_aux_lemma => kernel_rfl) (by as_aux_lemma => kernel_rfl) (by as_aux_lemma => kernel_rfl) rfl (by as_aux_lemma => kernel_rfl) (k := ?_)
  refine bsplit (decide (a < 0)) (fun h1 => ?_) (fun h1 => ?_)
  · have ph1 := of_decide_eq_true h1
    refine WL.rw (t := 10) (v := .bool true) (congrArg Value.bool h1) (by as_aux_lemma => kernel_rfl) (k := ?_)
    refine WL.skip (d := 11) (by as_aux_lemma => kernel_rfl) rfl (by as_aux_lemma => kernel_rfl) (k := ?_)
    refine WL.skip (d := 12) (by as_aux_lemma => kernel_rfl) rfl (by as_aux_lemma => kernel_rfl) (k := ?_)
    refine WL.skip (d := 13) (by as_aux_lemma => kernel_rfl) rfl (by as_aux_lemma => kernel_rfl) (k := ?_)
    refine WL.skip (d := 14) (by as_aux_lemma => kernel_rfl) rfl (by as_aux_lemma => kernel_rfl) (k := ?_)
    refine WL.skip (d := 15) (by as_aux_lemma => kernel_rfl) rfl (by as_aux_lemma => kernel_rfl) (k := ?_)
    refine WL.skip (d := 16) (by as_aux_lemma => kernel_rfl) rfl (by as_aux_lemma => kernel_rfl) (k := ?_)
    refine WL.skip (d := 17) (by as_aux_lemma => kernel_rfl) rfl (by as_aux_lemma => kernel_rfl) (k := ?_)
    refine WL.op (d := 18) (.bool true) (by as_aux_lemma => kernel_rfl) (by as_aux_lemma => kernel_rfl) (by as_aux_lemma => kernel_rfl) rfl (by as_aux_lemma => kernel_rfl) (k := ?_)
    refine WL.nil ?_
    refine WX.seqN ?_
    refine WC.condT (by as_aux_lemma => kernel_rfl) (k := ?_)
    refine WC.seq ?_
    refine WC.region ?_
    refine WL.op (d := 4) (.string ⟨#[]⟩) (by as_aux_lemma => kernel_rfl) (by as_aux_lemma => kernel_rfl) (by as_aux_lemma => kernel_rfl) rfl (by as_aux_lemma => kernel_rfl) (k := ?_)
    refine WL.op (d := 5) (.int .i64 1) (by as_aux_lemma => kernel_rfl) (by as_aux_lemma => kernel_rfl) (by as_aux_lemma => kernel_rfl) rfl (by as_aux_lemma => kernel_rfl) (k := ?_)
    refine WL.nil ?_
    refine WX.seqN ?_
    refine WC.ret ?_
    refine WX.seqR ?_
    refine WX.ret (rs := [.tmp 4, .tmp 5]) [.string ⟨#[]⟩, .int .i64 1] (.tuple #[.string ⟨#[]⟩, .int .i64 1]) ⟨(by as_aux_lemma => kernel_rfl), (by as_aux_lemma => kernel_rfl), trivial⟩ rfl rfl (k := ?_)
    obtain ⟨e1_, e2_, e3_⟩ := GDisk.read_no (d := d) (a := a) (fun h_ => by have h1_ := h_.1; have h2_ := h_.2; omega)
    exact ⟨by rw [e1_, e2_], by rw [e3_]; exact RefAt.mkS hS hb hw1 hw2 ho, K⟩
  · have ph1 := of_decide_eq_false h1
    refine WL.rw (t := 10) (v := .bool false) (congrArg Value.bool h1) (by as_aux_lemma => kernel_rfl) (k := ?_)
    refine WL.op (d := 11) (.int .i64 a) (by as_aux_lemma => kernel_rfl) (by as_aux_lemma => kernel_rfl) (by as_aux_lemma => kernel_rfl) rfl (by as_aux_lemma => kernel_rfl) (k := ?_)
    refine WL.op (d := 12) (.pointer (some ⟨b, 0, none⟩)) (by as_aux_lemma => kernel_rfl) (by as_aux_lemma => kernel_rfl) (by as_aux_lemma => kernel_rfl) rfl (by as_aux_lemma => kernel_rfl) (k := ?_)
    refine WL.op (d := 13) (.pointer (some ⟨b, 0, none⟩)) (by as_aux_lemma => kernel_rfl) (by as_aux_lemma => kernel_rfl) (by as_aux_lemma => kernel_rfl) rfl (by as_aux_lemma => kernel_rfl) (k := ?_)
    refine WL.op (d := 14) (.pointer (some ⟨b, 0, none⟩)) (by as_aux_lemma => kernel_rfl) (by as_aux_lemma => kernel_rfl) (by as_aux_lemma => kernel_rfl) rfl (by as_aux_lemma => kernel_rfl) (k := ?_)
    refine WL.load (v := .slice A1 d.secs.length c1) (ld1 (T := 36) (i := 0) hb (by as_aux_lemma => kernel_rfl) (by as_aux_lemma => kernel_rfl)) (by as_aux_lemma => kernel_rfl) (by as_aux_lemma => kernel_rfl) (by as_aux_lemma => kernel_rfl) (k := ?_)
    refine WL.op (d := 16) (.int .i64 (d.secs.length : Int)) (by as_aux_lemma => kernel_rfl) (by as_aux_lemma => kernel_rfl) (by as_aux_lemma => kernel_rfl) rfl (by as_aux_lemma => kernel_rfl) (k := ?_)
    refine WL.op (d := 17) (.bool (decide (a ≥ (d.secs.length : Int)))) (by as_aux_lemma => kernel_rfl) (by as_aux_lemma => kernel_rfl) (by as_aux_lemma => kernel_rfl) rfl (by as_aux_lemma => kernel_rfl) (k := ?_)
    refine WL.op (d := 18) (.bool (decide (a ≥ (d.secs.length : Int)))) (by as_aux_lemma => kernel_rfl) (by as_aux_lemma => kernel_rfl) (by as_aux_lemma => kernel_rfl) rfl (by as_aux_lemma => kernel_rfl) (k := ?_)
    refine WL.nil ?_
    refine WX.seqN ?_
    refine WC.cond (b := decide (a ≥ (d.secs.length : Int))) (by as_aux_lemma => kernel_rfl) (ht := fun h2 => ?_) (hf := fun h2 => ?_)
    · have ph2 := of_decide_eq_true h2
      refine WC.seq ?_
      refine WC.region ?_
      refine WL.op (d := 4) (.string ⟨#[]⟩) (by as_aux_lemma => kernel_rfl) (by as_aux_lemma => kernel_rfl) (by as_aux_lemma => kernel_rfl) rfl (by as_aux_lemma => kernel_rfl) (k := ?_)
      refine WL.op (d := 5) (.int .i64 1) (by as_aux_lemma => kernel_rfl) (by as_aux_lemma => kernel_rfl) (by as_aux_lemma => kernel_rfl) rfl (by as_aux_lemma => kernel_rfl) (k := ?_)
      refine WL.nil ?_
      refine WX.seqN ?_
      refine WC.ret ?_
      refine WX.seqR ?_
      refine WX.ret (rs := [.tmp 4, .tmp 5]) [.string ⟨#[]⟩, .int .i64 1] (.tuple #[.string ⟨#[]⟩, .int .i64 1]) ⟨(by as_aux_lemma => kernel_rfl), (by as_aux_lemma => kernel_rfl), trivial⟩ rfl rfl (k := ?_)
      obtain ⟨e1_, e2_, e3_⟩ := GDisk.read_no (d := d) (a := a) (fun h_ => by have h1_ := h_.1; have h2_ := h_.2; omega)
      exact ⟨by rw [e1_, e2_], by rw [e3_]; exact RefAt.mkS hS hb hw1 hw2 ho, K⟩
    · have ph2 := of_decide_eq_false h2
      refine WC.skip ?_
      refine WX.seqN ?_
      refine WC.seq ?_
      refine WC.region ?_
      refine WL.op (d := 19) (.pointer (some ⟨b, 0, none⟩)) (by as_aux_lemma => kernel_rfl) (by as_aux_lemma => kernel_rfl) (by as_aux_lemma => kernel_rfl) rfl (by as_aux_lemma => kernel_rfl) (k := ?_)
      refine WL.op (d := 20) (.pointer (some ⟨b, 0, none⟩)) (by as_aux_lemma => kernel_rfl) (by as_aux_lemma => kernel_rfl) (by as_aux_lemma => kernel_rfl) rfl (by as_aux_lemma => kernel_rfl) (k := ?_)
      refine WL.op (d := 21) (.pointer (some ⟨b, 3, none⟩)) (by as_aux_lemma => kernel_rfl) (by as_aux_lemma => kernel_rfl) (by as_aux_lemma => kernel_rfl) rfl (by as_aux_lemma => kernel_rfl) (k := ?_)
      refine WL.load (v := .int .i64 d.reads) (ld1 (T := 3) (i := 3) hb (by as_aux_lemma => kernel_rfl) (by as_aux_lemma => kernel_rfl)) (by as_aux_lemma => kernel_rfl) (by as_aux_lemma => kernel_rfl) (by as_aux_lemma => kernel_rfl) (k := ?_)
      refine WL.op (d := 23) (.int .i64 (IntKind.i64.wrap (d.reads + 1))) (by as_aux_lemma => kernel_rfl) (by as_aux_lemma => kernel_rfl) (by as_aux_lemma => kernel_rfl) rfl (by as_aux_lemma => kernel_rfl) (k := ?_)
      refine WL.op (d := 24) (.pointer (some ⟨b, 0, none⟩)) (by as_aux_lemma => kernel_rfl) (by as_aux_lemma => kernel_rfl) (by as_aux_lemma => kernel_rfl) rfl (by as_aux_lemma => kernel_rfl) (k := ?_)
      refine WL.op (d := 25) (.pointer (some ⟨b, 3, none⟩)) (by as_aux_lemma => kernel_rfl) (by as_aux_lemma => kernel_rfl) (by as_aux_lemma => kernel_rfl) rfl (by as_aux_lemma => kernel_rfl) (k := ?_)
      refine WL.store (v := .int .i64 (IntKind.i64.wrap (d.reads + 1))) (i := 3) (cs' := #[.slice A1 d.secs.length c1, .slice A2 d.opn.length c2, .int .i64 d.fail, .int .i64 (IntKind.i64.wrap (d.reads + 1))]) hb (by as_aux_lemma => kernel_rfl) (by as_aux_lemma => kernel_rfl) (by as_aux_lemma => kernel_rfl) (by as_aux_lemma => kernel_rfl) (by as_aux_lemma => kernel_rfl) (by as_aux_lemma => kernel_rfl) (by as_aux_lemma => kernel_rfl) (k := fun w3 hb4 k5 => ?_)
      replace hw1 := hw1.keeps k5 (fun i hi e => (hw1.offT hb (by decide)) (e ▸ hi))
      replace hw2 := hw2.keeps k5 (fun i hi e => (hw2.offT hb (by decide)) (e ▸ hi))
      replace K := K.trans' k5 (fun i hi e => (hS i).2 (.inl e))
      clear hb
      refine WL.nil ?_
      refine WX.seqN ?_
      refine WC.seq ?_
      refine WC.region ?_
      refine WL.op (d := 26) (.pointer (some ⟨b, 0, none⟩)) (by as_aux_lemma => kernel_rfl) (by as_aux_lemma => kernel_rfl) (by as_aux_lemma => kernel_rfl) rfl (by as_aux_lemma => kernel_rfl) (k := ?_)
      refine WL.callG (d := 27) (f := 41) (args := #[.pointer (some ⟨b, 0, none⟩)]) (rdFails_b hb4 (by omega)) (by as_aux_lemma => kernel_rfl) (by as_aux_lemma => kernel_rfl) (by as_aux_lemma => kernel_rfl) rfl (by as_aux_lemma => kernel_rfl) (k := fun e_ w6 h_ => ?_)
      obtain ⟨rfl, hb7, k8⟩ := h_
      refine ⟨_, rfl, ?_⟩
      replace hw1 := hw1.keeps k8 (fun i hi e => (hw1.offT hb4 (by decide)) (e ▸ hi))
      replace hw2 := hw2.keeps k8 (fun i hi e => (hw2.offT hb4 (by decide)) (e ▸ hi))
      replace K := K.trans' k8 (fun i hi e => (hS i).2 (.inl e))
      clear hb4
      refine WL.op (d := 6) (.bool (decide (d.fail = 1))) (by as_aux_lemma => kernel_rfl) (by as_aux_lemma => kernel_rfl) (by as_aux_lemma => kernel_rfl) rfl (by as_aux_lemma => kernel_rfl) (k := ?_)
      refine WL.nil ?_
      refine WX.seqN ?_
      refine WC.seq ?_
      refine WC.seq ?_
      refine WC.region ?_
      refine WL.op (d := 28) (.bool (decide (d.fail = 1))) (by as_aux_lemma => kernel_rfl) (by as_aux_lemma => kernel_rfl) (by as_aux_lemma => kernel_rfl) rfl (by as_aux_lemma => kernel_rfl) (k := ?_)
      refine WL.nil ?_
      refine WX.seqN ?_
      refine WC.cond (b := decide (d.fail = 1)) (by as_aux_lemma => kernel_rfl) (ht := fun h9 => ?_) (hf := fun h9 => ?_)
      · have ph9 := of_decide_eq_true h9
        refine WC.seq ?_
        refine WC.region ?_
        refine WL.op (d := 4) (.string ⟨#[]⟩) (by as_aux_lemma => kernel_rfl) (by as_aux_lemma => kernel_rfl) (by as_aux_lemma => kernel_rfl) rfl (by as_aux_lemma => kernel_rfl) (k := ?_)
        refine WL.op (d := 5) (.int .i64 18) (by as_aux_lemma => kernel_rfl) (by as_aux_lemma => kernel_rfl) (by as_aux_lemma => kernel_rfl) rfl (by as_aux_lemma => kernel_rfl) (k := ?_)
        refine WL.nil ?_
        refine WX.seqN ?_
        refine WC.ret ?_
        refine WX.seqR ?_
        refine WX.ret (rs := [.tmp 4, .tmp 5]) [.string ⟨#[]⟩, .int .i64 18] (.tuple #[.string ⟨#[]⟩, .int .i64 18]) ⟨(by as_aux_lemma => kernel_rfl), (by as_aux_lemma => kernel_rfl), trivial⟩ rfl rfl (k := ?_)
        obtain ⟨e1_, e2_, e3_⟩ := GDisk.read_io (d := d) (a := a) (show d.has a from ⟨by omega, by omega⟩) ph9
        exact ⟨by rw [e1_, e2_], by rw [e3_]; exact RefAt.mkS (d := ⟨d.secs, d.opn, tickF d.fail, IntKind.i64.wrap (d.reads + 1)⟩) hS hb7 hw1 hw2 (GDisk.ok_of ho), K⟩
      · have ph9 := of_decide_eq_false h9
        refine WC.skip ?_
        refine WX.seqN ?_
        refine WC.seq ?_
        refine WC.seq ?_
        refine WC.region ?_
        refine WL.op (d := 29) (.pointer (some ⟨b, 0, none⟩)) (by as_aux_lemma => kernel_rfl) (by as_aux_lemma => kernel_rfl) (by as_aux_lemma => kernel_rfl) rfl (by as_aux_lemma => kernel_rfl) (k := ?_)
        refine WL.op (d := 30) (.pointer (some ⟨b, 0, none⟩)) (by as_aux_lemma => kernel_rfl) (by as_aux_lemma => kernel_rfl) (by as_aux_lemma => kernel_rfl) rfl (by as_aux_lemma => kernel_rfl) (k := ?_)
        refine WL.op (d := 31) (.pointer (some ⟨b, 1, none⟩)) (by as_aux_lemma => kernel_rfl) (by as_aux_lemma => kernel_rfl) (by as_aux_lemma => kernel_rfl) rfl (by as_aux_lemma => kernel_rfl) (k := ?_)
        refine WL.load (v := .slice A2 d.opn.length c2) (ld1 (T := 47) (i := 1) hb7 (by as_aux_lemma => kernel_rfl) (by as_aux_lemma => kernel_rfl)) (by as_aux_lemma => kernel_rfl) (by as_aux_lemma => kernel_rfl) (by as_aux_lemma => kernel_rfl) (k := ?_)
        refine WL.op (d := 33) (.int .i64 (d.opn.length : Int)) (by as_aux_lemma => kernel_rfl) (by as_aux_lemma => kernel_rfl) (by as_aux_lemma => kernel_rfl) rfl (by as_aux_lemma => kernel_rfl) (k := ?_)
        refine WL.opE (d := 34) (.int .i64 (IntKind.i64.wrap ((d.opn.length : Int) - 1))) (v := .int .i64 ((d.opn.length : Int) - 1)) (congrArg (Value.int .i64) (IntWalk.i64_in _ (by omega))) (by as_aux_lemma => kernel_rfl) (by as_aux_lemma => kernel_rfl) (by as_aux_lemma => kernel_rfl) rfl (by as_aux_lemma => kernel_rfl) (k := ?_)
        refine WL.op (d := 7) (.int .i64 ((d.opn.length : Int) - 1)) (by as_aux_lemma => kernel_rfl) (by as_aux_lemma => kernel_rfl) (by as_aux_lemma => kernel_rfl) rfl (by as_aux_lemma => kernel_rfl) (k := ?_)
        refine WL.nil ?_
        refine WX.seqN ?_
        refine WC.block ?_
        refine WC.loop (ι := Int) (fun (i : Int) => [(0, .pointer (some ⟨b, 0, none⟩)), (1, .int .i64 a), (8, .int .i64 a), (9, .bool (decide (a < 0))), (10, .bool false), (11, .int .i64 a), (12, .pointer (some ⟨b, 0, none⟩)), (13, .pointer (some ⟨b, 0, none⟩)), (14, .pointer (some ⟨b, 0, none⟩)), (15, .slice A1 d.secs.length c1), (16, .int .i64 (d.secs.length : Int)), (17, .bool (decide (a ≥ (d.secs.length : Int)))), (18, .bool (decide (a ≥ (d.secs.length : Int)))), (19, .pointer (some ⟨b, 0, none⟩)), (20, .pointer (some ⟨b, 0, none⟩)), (21, .pointer (some ⟨b, 3, none⟩)), (22, .int .i64 d.reads), (23, .int .i64 (IntKind.i64.wrap (d.reads + 1))), (24, .pointer (some ⟨b, 0, none⟩)), (25, .pointer (some ⟨b, 3, none⟩)), (26, .pointer (some ⟨b, 0, none⟩)), (27, .bool (decide (d.fail = 1))), (6, .bool (decide (d.fail = 1))), (28, .bool (decide (d.fail = 1))), (29, .pointer (some ⟨b, 0, none⟩)), (30, .pointer (some ⟨b, 0, none⟩)), (31, .pointer (some ⟨b, 1, none⟩)), (32, .slice A2 d.opn.length c2), (33, .int .i64 (d.opn.length : Int)), (34, .int .i64 ((d.opn.length : Int) - 1)), (7, .int .i64 i)]) (fun (i : Int) (w_ : World) => (Keeps S w w_) ∧ (w_.heap[b]? = some (.cells #[.slice A1 d.secs.length c1, .slice A2 d.opn.length c2, .int .i64 (tickF d.fail), .int .i64 (IntKind.i64.wrap (d.reads + 1))] 49 (0, 0))) ∧ (OwAt strC 1 9 A1 c1 d.secs w_) ∧ (OwAt putC 2 83 A2 c2 d.opn w_) ∧ (-1 ≤ i) ∧ (i < d.opn.length) ∧ (∀ x ∈ d.opn.drop (i + 1).toNat, ¬ x.1 = a)) (fun (i : Int) => (i + 1).toNat) ((d.opn.length : Int) - 1) ⟨(by as_aux_lemma => kernel_rfl), (by as_aux_lemma => kernel_rfl), (by as_aux_lemma => kernel_rfl), (by as_aux_lemma => kernel_rfl), (by as_aux_lemma => kernel_rfl), (by as_aux_lemma => kernel_rfl), (by as_aux_lemma => kernel_rfl), (by as_aux_lemma => kernel_rfl), (by as_aux_lemma => kernel_rfl), (by as_aux_lemma => kernel_rfl), (by as_aux_lemma => kernel_rfl), (by as_aux_lemma => kernel_rfl), (by as_aux_lemma => kernel_rfl), (by as_aux_lemma => kernel_rfl), (by as_aux_lemma => kernel_rfl), (by as_aux_lemma => kernel_rfl), (by as_aux_lemma => kernel_rfl), (by as_aux_lemma => kernel_rfl), (by as_aux_lemma => kernel_rfl), (by as_aux_lemma => kernel_rfl), (by as_aux_lemma => kernel_rfl), (by as_aux_lemma => kernel_rfl), (by as_aux_lemma => kernel_rfl), (by as_aux_lemma => kernel_rfl), (by as_aux_lemma => kernel_rfl), (by as_aux_lemma => kernel_rfl), (by as_aux_lemma => kernel_rfl), (by as_aux_lemma => kernel_rfl), (by as_aux_lemma => kernel_rfl), (by as_aux_lemma => kernel_rfl), (by as_aux_lemma => kernel_rfl), trivial⟩ ⟨K, hb7, hw1, hw2, (by omega), (by omega), GDisk.back_start⟩ ?_
        rintro i w10 ⟨K, hb11, hb12, hb14, i0, i1, hno⟩
        refine WC.seq ?_
        refine WC.seq ?_
        refine WC.region ?_
        refine WL.op (d := 35) (.int .i64 i) (by as_aux_lemma => kernel_rfl) (by as_aux_lemma => kernel_rfl) (by as_aux_lemma => kernel_rfl) rfl (by as_aux_lemma => kernel_rfl) (k := ?_)
        refine WL.op (d := 36) (.bool (decide (i ≥ 0))) (by as_aux_lemma => kernel_rfl) (by as_aux_lemma => kernel_rfl) (by as_aux_lemma => kernel_rfl) rfl (by as_aux_lemma => kernel_rfl) (k := ?_)
        refine WL.nil ?_
        refine WX.seqN ?_
        refine WC.cond (b := decide (i ≥ 0)) (by as_aux_lemma => kernel_rfl) (ht := fun h16 => ?_) (hf := fun h16 => ?_)
        · have ph16 := of_decide_eq_true h16
          refine WC.skip ?_
          refine WX.seqN ?_
          refine WC.seq ?_
          refine WC.block ?_
          refine WC.seq ?_
          refine WC.region ?_
          refine WL.op (d := 39) (.pointer (some ⟨b, 0, none⟩)) (by as_aux_lemma => kernel_rfl) (by as_aux_lemma => kernel_rfl) (by as_aux_lemma => kernel_rfl) rfl (by as_aux_lemma => kernel_rfl) (k := ?_)
          refine WL.op (d := 40) (.pointer (some ⟨b, 0, none⟩)) (by as_aux_lemma => kernel_rfl) (by as_aux_lemma => kernel_rfl) (by as_aux_lemma => kernel_rfl) rfl (by as_aux_lemma => kernel_rfl) (k := ?_)
          refine WL.op (d := 41) (.pointer (some ⟨b, 1, none⟩)) (by as_aux_lemma => kernel_rfl) (by as_aux_lemma => kernel_rfl) (by as_aux_lemma => kernel_rfl) rfl (by as_aux_lemma => kernel_rfl) (k := ?_)
          refine WL.load (v := .slice A2 d.opn.length c2) (ld1 (T := 47) (i := 1) hb11 (by as_aux_lemma => kernel_rfl) (by as_aux_lemma => kernel_rfl)) (by as_aux_lemma => kernel_rfl) (by as_aux_lemma => kernel_rfl) (by as_aux_lemma => kernel_rfl) (k := ?_)
          refine WL.op (d := 43) (.int .i64 i) (by as_aux_lemma => kernel_rfl) (by as_aux_lemma => kernel_rfl) (by as_aux_lemma => kernel_rfl) rfl (by as_aux_lemma => kernel_rfl) (k := ?_)
          obtain ⟨b17, o18, r19, hr20, hA21, he22⟩ := SlAt.at (hb14.sl ekPut) (i := i) (by omega) (by omega)
          refine WL.rw (t := 42) (v := .slice (some ⟨b17, o18, none⟩) d.opn.length c2) (congrArg (fun a => Value.slice a d.opn.length c2) hA21) (by as_aux_lemma => kernel_rfl) (k := ?_)
          refine WL.idx (T := 47) (E := 83) (m := 2) (b := b17) (o := o18) (len := d.opn.length) (cap := c2) (i := i) (kk := .i64) (d := 44) (by omega) (by omega) (by as_aux_lemma => kernel_rfl) (by as_aux_lemma => kernel_rfl) (by as_aux_lemma => kernel_rfl) (by as_aux_lemma => kernel_rfl) (by as_aux_lemma => kernel_rfl) (by as_aux_lemma => kernel_rfl) (k := ?_)
          refine WL.rw (t := 42) (v := .slice A2 d.opn.length c2) (congrArg (fun a => Value.slice a d.opn.length c2) (Eq.symm hA21)) (by as_aux_lemma => kernel_rfl) (k := ?_)
          refine WL.op (d := 45) (.pointer (some ⟨b17, o18 + (i).toNat * 2, none⟩)) (by as_aux_lemma => kernel_rfl) (by as_aux_lemma => kernel_rfl) (by as_aux_lemma => kernel_rfl) rfl (by as_aux_lemma => kernel_rfl) (k := ?_)
          refine WL.load (v := .int .i64 r19.1) (he22.ld0 (T := 3)) (by as_aux_lemma => kernel_rfl) (by as_aux_lemma => kernel_rfl) (by as_aux_lemma => kernel_rfl) (k := ?_)
          refine WL.op (d := 47) (.int .i64 a) (by as_aux_lemma => kernel_rfl) (by as_aux_lemma => kernel_rfl) (by as_aux_lemma => kernel_rfl) rfl (by as_aux_lemma => kernel_rfl) (k := ?_)
          refine WL.op (d := 48) (.bool (r19.1 == a)) (by as_aux_lemma => kernel_rfl) (by as_aux_lemma => kernel_rfl) (by as_aux_lemma => kernel_rfl) rfl (by as_aux_lemma => kernel_rfl) (k := ?_)
          refine WL.nil ?_
          refine WX.seqN ?_
          refine WC.cond (b := r19.1 == a) (by as_aux_lemma => kernel_rfl) (ht := fun h23 => ?_) (hf := fun h23 => ?_)
          · have ph23 := eq_of_beq h23
            refine WC.seq ?_
            refine WC.region ?_
            refine WL.op (d := 49) (.pointer (some ⟨b, 0, none⟩)) (by as_aux_lemma => kernel_rfl) (by as_aux_lemma => kernel_rfl) (by as_aux_lemma => kernel_rfl) rfl (by as_aux_lemma => kernel_rfl) (k := ?_)
            refine WL.op (d := 50) (.pointer (some ⟨b, 0, none⟩)) (by as_aux_lemma => kernel_rfl) (by as_aux_lemma => kernel_rfl) (by as_aux_lemma => kernel_rfl) rfl (by as_aux_lemma => kernel_rfl) (k := ?_)
            refine WL.op (d := 51) (.pointer (some ⟨b, 1, none⟩)) (by as_aux_lemma => kernel_rfl) (by as_aux_lemma => kernel_rfl) (by as_aux_lemma => kernel_rfl) rfl (by as_aux_lemma => kernel_rfl) (k := ?_)
            refine WL.load (v := .slice A2 d.opn.length c2) (ld1 (T := 47) (i := 1) hb11 (by as_aux_lemma => kernel_rfl) (by as_aux_lemma => kernel_rfl)) (by as_aux_lemma => kernel_rfl) (by as_aux_lemma => kernel_rfl) (by as_aux_lemma => kernel_rfl) (k := ?_)
            refine WL.op (d := 53) (.int .i64 i) (by as_aux_lemma => kernel_rfl) (by as_aux_lemma => kernel_rfl) (by as_aux_lemma => kernel_rfl) rfl (by as_aux_lemma => kernel_rfl) (k := ?_)
            obtain ⟨b24, o25, r26, hr27, hA28, he29⟩ := SlAt.at (hb14.sl ekPut) (i := i) (by omega) (by omega)
            refine WL.rw (t := 52) (v := .slice (some ⟨b24, o25, none⟩) d.opn.length c2) (congrArg (fun a => Value.slice a d.opn.length c2) hA28) (by as_aux_lemma => kernel_rfl) (k := ?_)
            obtain rfl : r19 = r26 := Option.some.inj (hr20.symm.trans hr27)
            refine WL.idx (T := 47) (E := 83) (m := 2) (b := b24) (o := o25) (len := d.opn.length) (cap := c2) (i := i) (kk := .i64) (d := 54) (by omega) (by omega) (by as_aux_lemma => kernel_rfl) (by as_aux_lemma => kernel_rfl) (by as_aux_lemma => kernel_rfl) (by as_aux_lemma => kernel_rfl) (by as_aux_lemma => kernel_rfl) (by as_aux_lemma => kernel_rfl) (k := ?_)
            refine WL.rw (t := 52) (v := .slice A2 d.opn.length c2) (congrArg (fun a => Value.slice a d.opn.length c2) (Eq.symm hA28)) (by as_aux_lemma => kernel_rfl) (k := ?_)
            refine WL.op (d := 55) (.pointer (some ⟨b24, o25 + (i).toNat * 2 + 1, none⟩)) (by as_aux_lemma => kernel_rfl) (by as_aux_lemma => kernel_rfl) (by as_aux_lemma => kernel_rfl) rfl (by as_aux_lemma => kernel_rfl) (k := ?_)
            refine WL.load (v := .string ⟨(r19.2).toArray⟩) (he29.ldF (T := 9) (off := 1)) (by as_aux_lemma => kernel_rfl) (by as_aux_lemma => kernel_rfl) (by as_aux_lemma => kernel_rfl) (k := ?_)
            refine WL.op (d := 4) (.string ⟨(r19.2).toArray⟩) (by as_aux_lemma => kernel_rfl) (by as_aux_lemma => kernel_rfl) (by as_aux_lemma => kernel_rfl) rfl (by as_aux_lemma => kernel_rfl) (k := ?_)
            refine WL.op (d := 5) (.int .i64 0) (by as_aux_lemma => kernel_rfl) (by as_aux_lemma => kernel_rfl) (by as_aux_lemma => kernel_rfl) rfl (by as_aux_lemma => kernel_rfl) (k := ?_)
            refine WL.nil ?_
            refine WX.seqN ?_
            refine WC.ret ?_
            refine WX.blockR ?_
            refine WX.seqR ?_
            refine WX.seqR ?_
            refine WX.blockR ?_
            refine WX.seqR ?_
            refine WX.ret (rs := [.tmp 4, .tmp 5]) [.string ⟨(r19.2).toArray⟩, .int .i64 0] (.tuple #[.string ⟨(r19.2).toArray⟩, .int .i64 0]) ⟨(by as_aux_lemma => kernel_rfl), (by as_aux_lemma => kernel_rfl), trivial⟩ rfl rfl (k := ?_)
            obtain ⟨e1_, e2_, e3_⟩ := GDisk.read_ok (d := d) (a := a) (show d.has a from ⟨by omega, by omega⟩) ph9
            have e4_ := GDisk.at_hit (by omega) hr20 ph23 hno
            exact ⟨by rw [e1_, e2_, e4_], by rw [e3_]; exact RefAt.mkS (d := ⟨d.secs, d.opn, tickF d.fail, IntKind.i64.wrap (d.reads + 1)⟩) hS hb11 hb12 hb14 (GDisk.ok_of ho), K⟩
          · have ph23 := ne_of_beq_false h23
            refine WC.skip ?_
            refine WX.blockN ?_
            refine WX.seqN ?_
            refine WC.region ?_
            refine WL.op (d := 37) (.int .i64 i) (by as_aux_lemma => kernel_rfl) (by as_aux_lemma => kernel_rfl) (by as_aux_lemma => kernel_rfl) rfl (by as_aux_lemma => kernel_rfl) (k := ?_)
            refine WL.opE (d := 38) (.int .i64 (IntKind.i64.wrap (i - 1))) (v := .int .i64 (i - 1)) (congrArg (Value.int .i64) (IntWalk.i64_in _ (by omega))) (by as_aux_lemma => kernel_rfl) (by as_aux_lemma => kernel_rfl) (by as_aux_lemma => kernel_rfl) rfl (by as_aux_lemma => kernel_rfl) (k := ?_)
            refine WL.op (d := 7) (.int .i64 (i - 1)) (by as_aux_lemma => kernel_rfl) (by as_aux_lemma => kernel_rfl) (by as_aux_lemma => kernel_rfl) rfl (by as_aux_lemma => kernel_rfl) (k := ?_)
            refine WL.nil ?_
            refine WX.round (i - 1) (by show ((i - 1) + 1).toNat < (i + 1).toNat; omega) ⟨(by as_aux_lemma => kernel_rfl), (by as_aux_lemma => kernel_rfl), (by as_aux_lemma => kernel_rfl), (by as_aux_lemma => kernel_rfl), (by as_aux_lemma => kernel_rfl), (by as_aux_lemma => kernel_rfl), (by as_aux_lemma => kernel_rfl), (by as_aux_lemma => kernel_rfl), (by as_aux_lemma => kernel_rfl), (by as_aux_lemma => kernel_rfl), (by as_aux_lemma => kernel_rfl), (by as_aux_lemma => kernel_rfl), (by as_aux_lemma => kernel_rfl), (by as_aux_lemma => kernel_rfl), (by as_aux_lemma => kernel_rfl), (by as_aux_lemma => kernel_rfl), (by as_aux_lemma => kernel_rfl), (by as_aux_lemma => kernel_rfl), (by as_aux_lemma => kernel_rfl), (by as_aux_lemma => kernel_rfl), (by as_aux_lemma => kernel_rfl), (by as_aux_lemma => kernel_rfl), (by as_aux_lemma => kernel_rfl), (by as_aux_lemma => kernel_rfl), (by as_aux_lemma => kernel_rfl), (by as_aux_lemma => kernel_rfl), (by as_aux_lemma => kernel_rfl), (by as_aux_lemma => kernel_rfl), (by as_aux_lemma => kernel_rfl), (by as_aux_lemma => kernel_rfl), (by as_aux_lemma => kernel_rfl), trivial⟩ ⟨K, hb11, hb12, hb14, (by omega), (by omega), (GDisk.back_step (by omega) hr20 ph23 hno)⟩
        · have ph16 := of_decide_eq_false h16
          refine WC.exit ?_
          refine WX.seqE ?_
          refine WX.seqE ?_
          refine WX.blockE ?_
          refine WX.seqN ?_
          refine WC.seq ?_
          refine WC.region ?_
          refine WL.op (d := 57) (.pointer (some ⟨b, 0, none⟩)) (by as_aux_lemma => kernel_rfl) (by as_aux_lemma => kernel_rfl) (by as_aux_lemma => kernel_rfl) rfl (by as_aux_lemma => kernel_rfl) (k := ?_)
          refine WL.op (d := 58) (.pointer (some ⟨b, 0, none⟩)) (by as_aux_lemma => kernel_rfl) (by as_aux_lemma => kernel_rfl) (by as_aux_lemma => kernel_rfl) rfl (by as_aux_lemma => kernel_rfl) (k := ?_)
          refine WL.op (d := 59) (.pointer (some ⟨b, 0, none⟩)) (by as_aux_lemma => kernel_rfl) (by as_aux_lemma => kernel_rfl) (by as_aux_lemma => kernel_rfl) rfl (by as_aux_lemma => kernel_rfl) (k := ?_)
          refine WL.load (v := .slice A1 d.secs.length c1) (ld1 (T := 36) (i := 0) hb11 (by as_aux_lemma => kernel_rfl) (by as_aux_lemma => kernel_rfl)) (by as_aux_lemma => kernel_rfl) (by as_aux_lemma => kernel_rfl) (by as_aux_lemma => kernel_rfl) (k := ?_)
          refine WL.op (d := 61) (.int .i64 a) (by as_aux_lemma => kernel_rfl) (by as_aux_lemma => kernel_rfl) (by as_aux_lemma => kernel_rfl) rfl (by as_aux_lemma => kernel_rfl) (k := ?_)
          obtain ⟨b30, o31, r32, hr33, hA34, he35⟩ := SlAt.at (hb12.sl ekStr) (i := a) (by omega) (by omega)
          refine WL.rw (t := 60) (v := .slice (some ⟨b30, o31, none⟩) d.secs.length c1) (congrArg (fun a => Value.slice a d.secs.length c1) hA34) (by as_aux_lemma => kernel_rfl) (k := ?_)
          refine WL.idx (T := 36) (E := 9) (m := 1) (b := b30) (o := o31) (len := d.secs.length) (cap := c1) (i := a) (kk := .i64) (d := 62) (by omega) (by omega) (by as_aux_lemma => kernel_rfl) (by as_aux_lemma => kernel_rfl) (by as_aux_lemma => kernel_rfl) (by as_aux_lemma => kernel_rfl) (by as_aux_lemma => kernel_rfl) (by as_aux_lemma => kernel_rfl) (k := ?_)
          refine WL.rw (t := 60) (v := .slice A1 d.secs.length c1) (congrArg (fun a => Value.slice a d.secs.length c1) (Eq.symm hA34)) (by as_aux_lemma => kernel_rfl) (k := ?_)
          refine WL.load (v := .string ⟨(r32).toArray⟩) (he35.ld0 (T := 9)) (by as_aux_lemma => kernel_rfl) (by as_aux_lemma => kernel_rfl) (by as_aux_lemma => kernel_rfl) (k := ?_)
          refine WL.op (d := 4) (.string ⟨(r32).toArray⟩) (by as_aux_lemma => kernel_rfl) (by as_aux_lemma => kernel_rfl) (by as_aux_lemma => kernel_rfl) rfl (by as_aux_lemma => kernel_rfl) (k := ?_)
          refine WL.op (d := 5) (.int .i64 0) (by as_aux_lemma => kernel_rfl) (by as_aux_lemma => kernel_rfl) (by as_aux_lemma => kernel_rfl) rfl (by as_aux_lemma => kernel_rfl) (k := ?_)
          refine WL.nil ?_
          refine WX.seqN ?_
          refine WC.ret ?_
          refine WX.ret (rs := [.tmp 4, .tmp 5]) [.string ⟨(r32).toArray⟩, .int .i64 0] (.tuple #[.string ⟨(r32).toArray⟩, .int .i64 0]) ⟨(by as_aux_lemma => kernel_rfl), (by as_aux_lemma => kernel_rfl), trivial⟩ rfl rfl (k := ?_)
          obtain ⟨e1_, e2_, e3_⟩ := GDisk.read_ok (d := d) (a := a) (show d.has a from ⟨by omega, by omega⟩) ph9
          have e4_ := GDisk.at_none (by omega) hno hr33
          exact ⟨by rw [e1_, e2_, e4_], by rw [e3_]; exact RefAt.mkS (d := ⟨d.secs, d.opn, tickF d.fail, IntKind.i64.wrap (d.reads + 1)⟩) hS hb11 hb12 hb14 (GDisk.ok_of ho), K⟩
set_option maxRecDepth 100000 in
set_option maxHeartbeats 4000000 in
theorem rdFail_c {n : Int} (hn : n ≤ 9223372036854775807) {S : Nat → Prop} {b : Nat} {d : GDisk} {w : World} (hd : RefAt S b d w) : Calls Tryz.prog 15 #[.pointer (some ⟨b, 0, none⟩), .int .i64 n] w fun e w' => e = .returned (.tuple #[]) ∧ RefAt S b (d.failD n) w' ∧ Keeps S w w' := by
  have K : Keeps S w w := Keeps.refl _ w
  obtain ⟨A1, c1, A2, c2, hb, hw1, hw2, hS, ho⟩ := hd
  have ho2 := ho
  obtain ⟨os_, ow_, of0_, of1_, on_, om_⟩ := ho2
  refine Calls.start Tryz.func15 rfl (by as_aux_lemma => kernel_rfl) ?_
  refine WC.seq ?_
  refine WC.seq ?_
  refine WC.region ?_
  refine WL.op (d := 4) (.int .i64 n) (by as_aux_lemma => kernel_rfl) (by as_aux_lemma => kernel_rfl) (by as_aux_lemma => kernel_rfl) rfl (by as_aux_lemma => kernel_rfl) (k := ?_)
  refine WL.op (d := 5) (.bool (decide (n < 0))) (by as_aux_lemma => kernel_rfl) (by as_aux_lemma => kernel_rfl) (by as_aux_lemma => kernel_rfl) rfl (by as_aux_lemma => kernel_rfl) (k := ?_)
  refine WL.nil ?_
  refine WX.seqN ?_
  refine WC.cond (b := decide (n < 0)) (by as_aux_lemma => kernel_rfl) (ht := fun h1 => ?_) (hf := fun h1 => ?_)
  · have ph1 := of_decide_eq_true h1
    refine WC.region ?_
    refine WL.op (d := 1) (.int .i64 0) (by as_aux_lemma => kernel_rfl) (by as_aux_lemma => kernel_rfl) (by as_aux_lemma => kernel_rfl) rfl (by as_aux_lemma => kernel_rfl) (k := ?_)
    refine WL.nil ?_
    refine WX.seqN ?_
    refine WC.region ?_
    refine WL.op (d := 6) (.pointer (some ⟨b, 0, none⟩)) (by as_aux_lemma => kernel_rfl) (by as_aux_lemma => kernel_rfl) (by as_aux_lemma => kernel_rfl) rfl (by as_aux_lemma => kernel_rfl) (k := ?_)
    refine WL.op (d := 7) (.int .i64 0) (by as_aux_lemma => kernel_rfl) (by as_aux_lemma => kernel_rfl) (by as_aux_lemma => kernel_rfl) rfl (by as_aux_lemma => kernel_rfl) (k := ?_)
    refine WL.op (d := 8) (.pointer (some ⟨b, 0, none⟩)) (by as_aux_lemma => kernel_rfl) (by as_aux_lemma => kernel_rfl) (by as_aux_lemma => kernel_rfl) rfl (by as_aux_lemma => kernel_rfl) (k := ?_)
    refine WL.op (d := 9) (.pointer (some ⟨b, 2, none⟩)) (by as_aux_lemma => kernel_rfl) (by as_aux_lemma => kernel_rfl) (by as_aux_lemma => kernel_rfl) rfl (by as_aux_lemma => kernel_rfl) (k := ?_)
    refine WL.store (v := .int .i64 0) (i := 2) (cs' := #[.slice A1 d.secs.length c1, .slice A2 d.opn.length c2, .int .i64 0, .int .i64 d.reads]) hb (by as_aux_lemma => kernel_rfl) (by as_aux_lemma => kernel_rfl) (by as_aux_lemma => kernel_rfl) (by as_aux_lemma => kernel_rfl) (by as_aux_lemma => kernel_rfl) (by as_aux_lemma => kernel_rfl) (by as_aux_lemma => kernel_rfl) (k := fun w2 hb3 k4 => ?_)
    replace hw1 := hw1.keeps k4 (fun i hi e => (hw1.offT hb (by decide)) (e ▸ hi))
    replace hw2 := hw2.keeps k4 (fun i hi e => (hw2.offT hb (by decide)) (e ▸ hi))
    replace K := K.trans' k4 (fun i hi e => (hS i).2 (.inl e))
    clear hb
    refine WL.nil ?_
    refine WX.end (rs := []) [] (.tuple #[]) trivial rfl rfl (k := ?_)
    have q_ : d.failD n = ⟨d.secs, d.opn, 0, d.reads⟩ := by unfold GDisk.failD; congr 1; split <;> omega
    exact ⟨rfl, by rw [q_]; exact RefAt.mkS (d := ⟨d.secs, d.opn, 0, d.reads⟩) hS hb3 hw1 hw2 ⟨os_, ow_, by show 0 ≤ 0; omega, by show 0 ≤ 9223372036854775807; omega, on_, om_⟩, K⟩
  · have ph1 := of_decide_eq_false h1
    refine WC.skip ?_
    refine WX.seqN ?_
    refine WC.region ?_
    refine WL.op (d := 6) (.pointer (some ⟨b, 0, none⟩)) (by as_aux_lemma => kernel_rfl) (by as_aux_lemma => kernel_rfl) (by as_aux_lemma => kernel_rfl) rfl (by as_aux_lemma => kernel_rfl) (k := ?_)
    refine WL.op (d := 7) (.int .i64 n) (by as_aux_lemma => kernel_rfl) (by as_aux_lemma => kernel_rfl) (by as_aux_lemma => kernel_rfl) rfl (by as_aux_lemma => kernel_rfl) (k := ?_)
    refine WL.op (d := 8) (.pointer (some ⟨b, 0, none⟩)) (by as_aux_lemma => kernel_rfl) (by as_aux_lemma => kernel_rfl) (by as_aux_lemma => kernel_rfl) rfl (by as_aux_lemma => kernel_rfl) (k := ?_)
    refine WL.op (d := 9) (.pointer (some ⟨b, 2, none⟩)) (by as_aux_lemma => kernel_rfl) (by as_aux_lemma => kernel_rfl) (by as_aux_lemma => kernel_rfl) rfl (by as_aux_lemma => kernel_rfl) (k := ?_)
    refine WL.store (v := .int .i64 n) (i := 2) (cs' := #[.slice A1 d.secs.length c1, .slice A2 d.opn.length c2, .int .i64 n, .int .i64 d.reads]) hb (by as_aux_lemma => kernel_rfl) (by as_aux_lemma => kernel_rfl) (by as_aux_lemma => kernel_rfl) (by as_aux_lemma => kernel_rfl) (by as_aux_lemma => kernel_rfl) (by as_aux_lemma => kernel_rfl) (by as_aux_lemma => kernel_rfl) (k := fun w5 hb6 k7 => ?_)
    replace hw1 := hw1.keeps k7 (fun i hi e => (hw1.offT hb (by decide)) (e ▸ hi))
    replace hw2 := hw2.keeps k7 (fun i hi e => (hw2.offT hb (by decide)) (e ▸ hi))
    replace K := K.trans' k7 (fun i hi e => (hS i).2 (.inl e))
    clear hb
    refine WL.nil ?_
    refine WX.end (rs := []) [] (.tuple #[]) trivial rfl rfl (k := ?_)
    have q_ : d.failD n = ⟨d.secs, d.opn, n, d.reads⟩ := by unfold GDisk.failD; congr 1; split <;> omega
    exact ⟨rfl, by rw [q_]; exact RefAt.mkS (d := ⟨d.secs, d.opn, n, d.reads⟩) hS hb6 hw1 hw2 ⟨os_, ow_, by show 0 ≤ n; omega, by show n ≤ 9223372036854775807; omega, on_, om_⟩, K⟩
set_option maxRecDepth 100000 in
set_option maxHeartbeats 4000000 in
theorem rdWrite_c {S : Nat → Prop} {b : Nat} {d : GDisk} {w : World} {a : Int} {l : List UInt8} (hm : d.opn.length < 1000000) (hl : l.length ≤ 1000000) (hd : RefAt S b d w) : Calls Tryz.prog 36 #[.pointer (some ⟨b, 0, none⟩), .int .i64 a, .string ⟨l.toArray⟩] w fun e w' => e = .returned (.int .i64 (d.writeE a l)) ∧ RefPost S b (d.writeD a l) w w' := by
  have K : Keeps S w w := Keeps.refl _ w
  obtain ⟨A1, c1, A2, c2, hb, hw1, hw2, hS, ho⟩ := hd
  have ho2 := ho
  obtain ⟨os_, ow_, of0_, of1_, on_, om_⟩ := ho2
  refine Calls.start Tryz.func36 rfl (by as_aux_lemma => kernel_rfl) ?_
  refine WC.seq ?_
  refine WC.region ?_
  refine WL.op (d := 6) (.int .i64 0) (by as_aux_lemma => kernel_rfl) (by as_aux_lemma => kernel_rfl) (by as_aux_lemma => kernel_rfl) rfl (by as_aux_lemma => kernel_rfl) (k := ?_)
  refine WL.nil ?_
  refine WX.seqN ?_
  refine WC.seq ?_
  refine WC.seq ?_
  refine WC.region ?_
  refine WL.op (d := 8) (.int .i64 a) (by as_aux_lemma => kernel_rfl) (by as_aux_lemma => kernel_rfl) (by as_aux_lemma => kernel_rfl) rfl (by as_aux_lemma => kernel_rfl) (k := ?_)
  refine WL.op (d := 9) (.bool (decide (a < 0))) (by as_aux_lemma => kernel_rfl) (by as_aux_lemma => kernel_rfl) (by as_aux_lemma => kernel_rfl) rfl (by as_aux_lemma => kernel_rfl) (k := ?_)
  refine WL.op (d := 10) (.bool (decide (a < 0))) (by as_aux_lemma => kernel_rfl) (by as_aux_lemma => kernel_rfl) (by as_aux_lemma => kernel_rfl) rfl (by as_aux_lemma => kernel_rfl) (k := ?_)
  refine bsplit (decide (a < 0)) (fun h1 => ?_) (fun h1 => ?_)
  · have ph1 := of_decide_eq_true h1
    refine WL.rw (t := 10) (v := .bool true) (congrArg Value.bool h1) (by as_aux_lemma => kernel_rfl) (k := ?_)
    refine WL.skip (d := 11) (by as_aux_lemma => kernel_rfl) rfl (by as_aux_lemma => kernel_rfl) (k := ?_)
    refine WL.skip (d := 12) (by as_aux_lemma => kernel_rfl) rfl (by as_aux_lemma => kernel_rfl) (k := ?_)
    refine WL.skip (d := 13) (by as_aux_lemma => kernel_rfl) rfl (by as_aux_lemma => kernel_rfl) (k := ?_)
    refine WL.skip (d := 14) (by as_aux_lemma => kernel_rfl) rfl (by as_aux_lemma => kernel_rfl) (k := ?_)
    refine WL.skip (d := 15) (by as_aux_lemma => kernel_rfl) rfl (by as_aux_lemma => kernel_rfl) (k := ?_)
    refine WL.skip (d := 16) (by as_aux_lemma => kernel_rfl) rfl (by as_aux_lemma => kernel_rfl) (k := ?_)
    refine WL.skip (d := 17) (by as_aux_lemma => kernel_rfl) rfl (by as_aux_lemma => kernel_rfl) (k := ?_)
    refine WL.op (d := 18) (.bool true) (by as_aux_lemma => kernel_rfl) (by as_aux_lemma => kernel_rfl) (by as_aux_lemma => kernel_rfl) rfl (by as_aux_lemma => kernel_rfl) (k := ?_)
    refine WL.op (d := 19) (.bool true) (by as_aux_lemma => kernel_rfl) (by as_aux_lemma => kernel_rfl) (by as_aux_lemma => kernel_rfl) rfl (by as_aux_lemma => kernel_rfl) (k := ?_)
    refine WL.skip (d := 20) (by as_aux_lemma => kernel_rfl) rfl (by as_aux_lemma => kernel_rfl) (k := ?_)
    refine WL.skip (d := 21) (by as_aux_lemma => kernel_rfl) rfl (by as_aux_lemma => kernel_rfl) (k := ?_)
    refine WL.skip (d := 22) (by as_aux_lemma => kernel_rfl) rfl (by as_aux_lemma => kernel_rfl) (k := ?_)
    refine WL.op (d := 23) (.bool true) (by as_aux_lemma => kernel_rfl) (by as_aux_lemma => kernel_rfl) (by as_aux_lemma => kernel_rfl) rfl (by as_aux_lemma => kernel_rfl) (k := ?_)
    refine WL.nil ?_
    refine WX.seqN ?_
    refine WC.condT (by as_aux_lemma => kernel_rfl) (k := ?_)
    refine WC.seq ?_
    refine WC.region ?_
    refine WL.op (d := 6) (.int .i64 1) (by as_aux_lemma => kernel_rfl) (by as_aux_lemma => kernel_rfl) (by as_aux_lemma => kernel_rfl) rfl (by as_aux_lemma => kernel_rfl) (k := ?_)
    refine WL.nil ?_
    refine WX.seqN ?_
    refine WC.ret ?_
    refine WX.seqR ?_
    refine WX.ret (rs := [.tmp 6]) [.int .i64 1] (.int .i64 1) ⟨(by as_aux_lemma => kernel_rfl), trivial⟩ rfl rfl (k := ?_)
    obtain ⟨e1_, e2_⟩ := GDisk.write_no (d := d) (a := a) (l := l) (fun h_ => by have h1_ := h_.1.1; have h2_ := h_.1.2; omega)
    exact ⟨by rw [e1_], _, by rw [e2_]; exact RefAt.mk (d := d) hb hw1 hw2 (ho), (fun k h => .inl ((hS k).2 h)), K⟩
  · have ph1 := of_decide_eq_false h1
    refine WL.rw (t := 10) (v := .bool false) (congrArg Value.bool h1) (by as_aux_lemma => kernel_rfl) (k := ?_)
    refine WL.op (d := 11) (.int .i64 a) (by as_aux_lemma => kernel_rfl) (by as_aux_lemma => kernel_rfl) (by as_aux_lemma => kernel_rfl) rfl (by as_aux_lemma => kernel_rfl) (k := ?_)
    refine WL.op (d := 12) (.pointer (some ⟨b, 0, none⟩)) (by as_aux_lemma => kernel_rfl) (by as_aux_lemma => kernel_rfl) (by as_aux_lemma => kernel_rfl) rfl (by as_aux_lemma => kernel_rfl) (k := ?_)
    refine WL.op (d := 13) (.pointer (some ⟨b, 0, none⟩)) (by as_aux_lemma => kernel_rfl) (by as_aux_lemma => kernel_rfl) (by as_aux_lemma => kernel_rfl) rfl (by as_aux_lemma => kernel_rfl) (k := ?_)
    refine WL.op (d := 14) (.pointer (some ⟨b, 0, none⟩)) (by as_aux_lemma => kernel_rfl) (by as_aux_lemma => kernel_rfl) (by as_aux_lemma => kernel_rfl) rfl (by as_aux_lemma => kernel_rfl) (k := ?_)
    refine WL.load (v := .slice A1 d.secs.length c1) (ld1 (T := 36) (i := 0) hb (by as_aux_lemma => kernel_rfl) (by as_aux_lemma => kernel_rfl)) (by as_aux_lemma => kernel_rfl) (by as_aux_lemma => kernel_rfl) (by as_aux_lemma => kernel_rfl) (k := ?_)
    refine WL.op (d := 16) (.int .i64 (d.secs.length : Int)) (by as_aux_lemma => kernel_rfl) (by as_aux_lemma => kernel_rfl) (by as_aux_lemma => kernel_rfl) rfl (by as_aux_lemma => kernel_rfl) (k := ?_)
    refine WL.op (d := 17) (.bool (decide (a ≥ (d.secs.length : Int)))) (by as_aux_lemma => kernel_rfl) (by as_aux_lemma => kernel_rfl) (by as_aux_lemma => kernel_rfl) rfl (by as_aux_lemma => kernel_rfl) (k := ?_)
    refine WL.op (d := 18) (.bool (decide (a ≥ (d.secs.length : Int)))) (by as_aux_lemma => kernel_rfl) (by as_aux_lemma => kernel_rfl) (by as_aux_lemma => kernel_rfl) rfl (by as_aux_lemma => kernel_rfl) (k := ?_)
    refine WL.op (d := 19) (.bool (decide (a ≥ (d.secs.length : Int)))) (by as_aux_lemma => kernel_rfl) (by as_aux_lemma => kernel_rfl) (by as_aux_lemma => kernel_rfl) rfl (by as_aux_lemma => kernel_rfl) (k := ?_)
    refine bsplit (decide (a ≥ (d.secs.length : Int))) (fun h2 => ?_) (fun h2 => ?_)
    · have ph2 := of_decide_eq_true h2
      refine WL.rw (t := 19) (v := .bool true) (congrArg Value.bool h2) (by as_aux_lemma => kernel_rfl) (k := ?_)
      refine WL.skip (d := 20) (by as_aux_lemma => kernel_rfl) rfl (by as_aux_lemma => kernel_rfl) (k := ?_)
      refine WL.skip (d := 21) (by as_aux_lemma => kernel_rfl) rfl (by as_aux_lemma => kernel_rfl) (k := ?_)
      refine WL.skip (d := 22) (by as_aux_lemma => kernel_rfl) rfl (by as_aux_lemma => kernel_rfl) (k := ?_)
      refine WL.op (d := 23) (.bool true) (by as_aux_lemma => kernel_rfl) (by as_aux_lemma => kernel_rfl) (by as_aux_lemma => kernel_rfl) rfl (by as_aux_lemma => kernel_rfl) (k := ?_)
      refine WL.nil ?_
      refine WX.seqN ?_
      refine WC.condT (by as_aux_lemma => kernel_rfl) (k := ?_)
      refine WC.seq ?_
      refine WC.region ?_
      refine WL.op (d := 6) (.int .i64 1) (by as_aux_lemma => kernel_rfl) (by as_aux_lemma => kernel_rfl) (by as_aux_lemma => kernel_rfl) rfl (by as_aux_lemma => kernel_rfl) (k := ?_)
      refine WL.nil ?_
      refine WX.seqN ?_
      refine WC.ret ?_
      refine WX.seqR ?_
      refine WX.ret (rs := [.tmp 6]) [.int .i64 1] (.int .i64 1) ⟨(by as_aux_lemma => kernel_rfl), trivial⟩ rfl rfl (k := ?_)
      obtain ⟨e1_, e2_⟩ := GDisk.write_no (d := d) (a := a) (l := l) (fun h_ => by have h1_ := h_.1.1; have h2_ := h_.1.2; omega)
      exact ⟨by rw [e1_], _, by rw [e2_]; exact RefAt.mk (d := d) hb hw1 hw2 (ho), (fun k h => .inl ((hS k).2 h)), K⟩
    · have ph2 := of_decide_eq_false h2
      refine WL.rw (t := 19) (v := .bool false) (congrArg Value.bool h2) (by as_aux_lemma => kernel_rfl) (k := ?_)
      refine WL.op (d := 20) (.string ⟨(l).toArray⟩) (by as_aux_lemma => kernel_rfl) (by as_aux_lemma => kernel_rfl) (by as_aux_lemma => kernel_rfl) rfl (by as_aux_lemma => kernel_rfl) (k := ?_)
      refine WL.op (d := 21) (.int .i64 (l.length : Int)) (by as_aux_lemma => kernel_rfl) (by as_aux_lemma => kernel_rfl) (by as_aux_lemma => kernel_rfl) rfl (by as_aux_lemma => kernel_rfl) (k := ?_)
      refine WL.op (d := 22) (.bool ((l.length : Int) != 64)) (by as_aux_lemma => kernel_rfl) (by as_aux_lemma => kernel_rfl) (by as_aux_lemma => kernel_rfl) rfl (by as_aux_lemma => kernel_rfl) (k := ?_)
      refine WL.op (d := 23) (.bool ((l.length : Int) != 64)) (by as_aux_lemma => kernel_rfl) (by as_aux_lemma => kernel_rfl) (by as_aux_lemma => kernel_rfl) rfl (by as_aux_lemma => kernel_rfl) (k := ?_)
      refine WL.nil ?_
      refine WX.seqN ?_
      refine WC.cond (b := (l.length : Int) != 64) (by as_aux_lemma => kernel_rfl) (ht := fun h3 => ?_) (hf := fun h3 => ?_)
      · have ph3 := bne_iff_ne.1 h3
        refine WC.seq ?_
        refine WC.region ?_
        refine WL.op (d := 6) (.int .i64 1) (by as_aux_lemma => kernel_rfl) (by as_aux_lemma => kernel_rfl) (by as_aux_lemma => kernel_rfl) rfl (by as_aux_lemma => kernel_rfl) (k := ?_)
        refine WL.nil ?_
        refine WX.seqN ?_
        refine WC.ret ?_
        refine WX.seqR ?_
        refine WX.ret (rs := [.tmp 6]) [.int .i64 1] (.int .i64 1) ⟨(by as_aux_lemma => kernel_rfl), trivial⟩ rfl rfl (k := ?_)
        obtain ⟨e1_, e2_⟩ := GDisk.write_no (d := d) (a := a) (l := l) (fun h_ => ph3 (by omega))
        exact ⟨by rw [e1_], _, by rw [e2_]; exact RefAt.mk (d := d) hb hw1 hw2 (ho), (fun k h => .inl ((hS k).2 h)), K⟩
      · have ph3 := of_bne_false h3
        refine WC.skip ?_
        refine WX.seqN ?_
        refine WC.seq ?_
        refine WC.region ?_
        refine WL.op (d := 24) (.pointer (some ⟨b, 0, none⟩)) (by as_aux_lemma => kernel_rfl) (by as_aux_lemma => kernel_rfl) (by as_aux_lemma => kernel_rfl) rfl (by as_aux_lemma => kernel_rfl) (k := ?_)
        refine WL.callG (d := 25) (f := 41) (args := #[.pointer (some ⟨b, 0, none⟩)]) (rdFails_b hb (by omega)) (by as_aux_lemma => kernel_rfl) (by as_aux_lemma => kernel_rfl) (by as_aux_lemma => kernel_rfl) rfl (by as_aux_lemma => kernel_rfl) (k := fun e_ w4 h_ => ?_)
        obtain ⟨rfl, hb5, k6⟩ := h_
        refine ⟨_, rfl, ?_⟩
        replace hw1 := hw1.keeps k6 (fun i hi e => (hw1.offT hb (by decide)) (e ▸ hi))
        replace hw2 := hw2.keeps k6 (fun i hi e => (hw2.offT hb (by decide)) (e ▸ hi))
        replace K := K.trans' k6 (fun i hi e => (hS i).2 (.inl e))
        clear hb
        refine WL.op (d := 7) (.bool (decide (d.fail = 1))) (by as_aux_lemma => kernel_rfl) (by as_aux_lemma => kernel_rfl) (by as_aux_lemma => kernel_rfl) rfl (by as_aux_lemma => kernel_rfl) (k := ?_)
        refine WL.nil ?_
        refine WX.seqN ?_
        refine WC.seq ?_
        refine WC.seq ?_
        refine WC.region ?_
        refine WL.op (d := 26) (.bool (decide (d.fail = 1))) (by as_aux_lemma => kernel_rfl) (by as_aux_lemma => kernel_rfl) (by as_aux_lemma => kernel_rfl) rfl (by as_aux_lemma => kernel_rfl) (k := ?_)
        refine WL.nil ?_
        refine WX.seqN ?_
        refine WC.cond (b := decide (d.fail = 1)) (by as_aux_lemma => kernel_rfl) (ht := fun h7 => ?_) (hf := fun h7 => ?_)
        · have ph7 := of_decide_eq_true h7
          refine WC.seq ?_
          refine WC.region ?_
          refine WL.op (d := 6) (.int .i64 18) (by as_aux_lemma => kernel_rfl) (by as_aux_lemma => kernel_rfl) (by as_aux_lemma => kernel_rfl) rfl (by as_aux_lemma => kernel_rfl) (k := ?_)
          refine WL.nil ?_
          refine WX.seqN ?_
          refine WC.ret ?_
          refine WX.seqR ?_
          refine WX.ret (rs := [.tmp 6]) [.int .i64 18] (.int .i64 18) ⟨(by as_aux_lemma => kernel_rfl), trivial⟩ rfl rfl (k := ?_)
          obtain ⟨e1_, e2_⟩ := GDisk.write_io (d := d) (a := a) (l := l) ⟨(show d.has a from ⟨by omega, by omega⟩), by omega⟩ ph7
          exact ⟨by rw [e1_], _, by rw [e2_]; exact RefAt.mk (d := ⟨d.secs, d.opn, tickF d.fail, d.reads⟩) hb5 hw1 hw2 (GDisk.ok_of ho), (fun k h => .inl ((hS k).2 h)), K⟩
        · have ph7 := of_decide_eq_false h7
          refine WC.skip ?_
          refine WX.seqN ?_
          refine WC.seq ?_
          refine WC.region ?_
          refine WL.op (d := 27) (.pointer (some ⟨b, 0, none⟩)) (by as_aux_lemma => kernel_rfl) (by as_aux_lemma => kernel_rfl) (by as_aux_lemma => kernel_rfl) rfl (by as_aux_lemma => kernel_rfl) (k := ?_)
          refine WL.op (d := 28) (.pointer (some ⟨b, 0, none⟩)) (by as_aux_lemma => kernel_rfl) (by as_aux_lemma => kernel_rfl) (by as_aux_lemma => kernel_rfl) rfl (by as_aux_lemma => kernel_rfl) (k := ?_)
          refine WL.op (d := 29) (.pointer (some ⟨b, 0, none⟩)) (by as_aux_lemma => kernel_rfl) (by as_aux_lemma => kernel_rfl) (by as_aux_lemma => kernel_rfl) rfl (by as_aux_lemma => kernel_rfl) (k := ?_)
          refine WL.op (d := 30) (.pointer (some ⟨b, 1, none⟩)) (by as_aux_lemma => kernel_rfl) (by as_aux_lemma => kernel_rfl) (by as_aux_lemma => kernel_rfl) rfl (by as_aux_lemma => kernel_rfl) (k := ?_)
          refine WL.load (v := .slice A2 d.opn.length c2) (ld1 (T := 47) (i := 1) hb5 (by as_aux_lemma => kernel_rfl) (by as_aux_lemma => kernel_rfl)) (by as_aux_lemma => kernel_rfl) (by as_aux_lemma => kernel_rfl) (by as_aux_lemma => kernel_rfl) (k := ?_)
          refine WL.op (d := 32) (.int .i64 a) (by as_aux_lemma => kernel_rfl) (by as_aux_lemma => kernel_rfl) (by as_aux_lemma => kernel_rfl) rfl (by as_aux_lemma => kernel_rfl) (k := ?_)
          refine WL.op (d := 33) (.string ⟨(l).toArray⟩) (by as_aux_lemma => kernel_rfl) (by as_aux_lemma => kernel_rfl) (by as_aux_lemma => kernel_rfl) rfl (by as_aux_lemma => kernel_rfl) (k := ?_)
          refine WL.op (d := 34) (.agg #[.int .i64 a, .string ⟨(l).toArray⟩]) (by as_aux_lemma => kernel_rfl) (by as_aux_lemma => kernel_rfl) (by as_aux_lemma => kernel_rfl) rfl (by as_aux_lemma => kernel_rfl) (k := ?_)
          refine WL.newF (d := 35) (T := 83) #[.int .i64 a, .string ⟨(l).toArray⟩] (fun b => .slice (some ⟨b, 0, none⟩) 1 1) (by as_aux_lemma => kernel_rfl) (by as_aux_lemma => kernel_rfl) rfl (by as_aux_lemma => kernel_rfl) (by as_aux_lemma => kernel_rfl) (k := fun b8 w9 g10 hb11 k12 => ?_)
          have z13 := Nat.le_trans K.size g10
          have n14 : b ≠ b8 := Nat.ne_of_lt (Nat.lt_of_lt_of_le (lt_of_heap hb5) g10)
          have n15 := OwAt.off_new hw1 g10
          have n16 := OwAt.off_new hw2 g10
          replace hb5 := k12.heap hb5 id
          replace hw1 := hw1.adds k12
          replace hw2 := hw2.adds k12
          replace K := K.trans (k12.any _)
          refine WL.append (d := 36) (T := 47) (cl := putC) (xs := d.opn) (ys := [(a, l)]) (c := 1) ekPut hw2 (SlAt.of_lit (ys := [(a, l)]) ekPut hb11 (by as_aux_lemma => kernel_rfl)) (by first | omega | (simp; omega)) (k := fun A17 c18 w19 ho20 k21 n22 => ?_)
          have ol23 := nlink_up K n22
          replace hb5 := k21.heap hb5 (hw2.offT hb5 (by decide))
          replace hw1 := hw1.keeps k21 (OwAt.offOw hw1 hw2 (by decide))
          replace K := K.trans' k21 (fun i hi e => (hS i).2 (.inr (.inr e)))
          clear hw2
          refine WL.op (d := 37) (.pointer (some ⟨b, 0, none⟩)) (by as_aux_lemma => kernel_rfl) (by as_aux_lemma => kernel_rfl) (by as_aux_lemma => kernel_rfl) rfl (by as_aux_lemma => kernel_rfl) (k := ?_)
          refine WL.op (d := 38) (.pointer (some ⟨b, 1, none⟩)) (by as_aux_lemma => kernel_rfl) (by as_aux_lemma => kernel_rfl) (by as_aux_lemma => kernel_rfl) rfl (by as_aux_lemma => kernel_rfl) (k := ?_)
          refine WL.store (v := .slice A17 ((d.opn ++ [(a, l)]).length) c18) (i := 1) (cs' := #[.slice A1 d.secs.length c1, .slice A17 ((d.opn ++ [(a, l)]).length) c18, .int .i64 (tickF d.fail), .int .i64 d.reads]) hb5 (by as_aux_lemma => kernel_rfl) (by as_aux_lemma => kernel_rfl) (by as_aux_lemma => kernel_rfl) (by as_aux_lemma => kernel_rfl) (by as_aux_lemma => kernel_rfl) (by as_aux_lemma => kernel_rfl) (by as_aux_lemma => kernel_rfl) (k := fun w24 hb25 k26 => ?_)
          replace hw1 := hw1.keeps k26 (fun i hi e => (hw1.offT hb5 (by decide)) (e ▸ hi))
          replace ho20 := ho20.keeps k26 (fun i hi e => (ho20.offT hb5 (by decide)) (e ▸ hi))
          replace K := K.trans' k26 (fun i hi e => (hS i).2 (.inl e))
          clear hb5
          refine WL.nil ?_
          refine WX.seqN ?_
          refine WC.seq ?_
          refine WC.region ?_
          refine WL.op (d := 6) (.int .i64 0) (by as_aux_lemma => kernel_rfl) (by as_aux_lemma => kernel_rfl) (by as_aux_lemma => kernel_rfl) rfl (by as_aux_lemma => kernel_rfl) (k := ?_)
          refine WL.nil ?_
          refine WX.seqN ?_
          refine WC.ret ?_
          refine WX.ret (rs := [.tmp 6]) [.int .i64 0] (.int .i64 0) ⟨(by as_aux_lemma => kernel_rfl), trivial⟩ rfl rfl (k := ?_)
          obtain ⟨e1_, e2_⟩ := GDisk.write_ok (d := d) (a := a) (l := l) ⟨(show d.has a from ⟨by omega, by omega⟩), by omega⟩ ph7
          exact ⟨by rw [e1_], _, by rw [e2_]; exact RefAt.mk (d := ⟨d.secs, d.opn ++ [(a, l)], tickF d.fail, d.reads⟩) hb25 hw1 ho20 (GDisk.write_dok ho ⟨(show d.has a from ⟨by omega, by omega⟩), by omega⟩ (by omega) _ _ (tickF_rng' ⟨of0_, of1_⟩)), dlink hS ol23, K⟩
set_option maxRecDepth 100000 in
set_option maxHeartbeats 4000000 in
theorem rdFlush_c {S : Nat → Prop} {b : Nat} {d : GDisk} {w : World} (hd : RefAt S b d w) : Calls Tryz.prog 37 #[.pointer (some ⟨b, 0, none⟩)] w fun e w' => e = .returned (.int .i64 d.flushE) ∧ RefPost S b d.flushD w w' := by
  have K : Keeps S w w := Keeps.refl _ w
  obtain ⟨A1, c1, A2, c2, hb, hw1, hw2, hS, ho⟩ := hd
  have ho2 := ho
  obtain ⟨os_, ow_, of0_, of1_, on_, om_⟩ := ho2
  refine Calls.start Tryz.func37 rfl (by as_aux_lemma => kernel_rfl) ?_
  refine WC.seq ?_
  refine WC.region ?_
  refine WL.op (d := 2) (.int .i64 0) (by as_aux_lemma => kernel_rfl) (by as_aux_lemma => kernel_rfl) (by as_aux_lemma => kernel_rfl) rfl (by as_aux_lemma => kernel_rfl) (k := ?_)
  refine WL.nil ?_
  refine WX.seqN ?_
  refine WC.seq ?_
  refine WC.region ?_
  refine WL.op (d := 5) (.pointer (some ⟨b, 0, none⟩)) (by as_aux_lemma => kernel_rfl) (by as_aux_lemma => kernel_rfl) (by as_aux_lemma => kernel_rfl) rfl (by as_aux_lemma => kernel_rfl) (k := ?_)
  refine WL.callG (d := 6) (f := 41) (args := #[.pointer (some ⟨b, 0, none⟩)]) (rdFails_b hb (by omega)) (by as_aux_lemma => kernel_rfl) (by as_aux_lemma => kernel_rfl) (by as_aux_lemma => kernel_rfl) rfl (by as_aux_lemma => kernel_rfl) (k := fun e_ w1 h_ => ?_)
  obtain ⟨rfl, hb2, k3⟩ := h_
  refine ⟨_, rfl, ?_⟩
  replace hw1 := hw1.keeps k3 (fun i hi e => (hw1.offT hb (by decide)) (e ▸ hi))
  replace hw2 := hw2.keeps k3 (fun i hi e => (hw2.offT hb (by decide)) (e ▸ hi))
  replace K := K.trans' k3 (fun i hi e => (hS i).2 (.inl e))
  clear hb
  refine WL.op (d := 3) (.bool (decide (d.fail = 1))) (by as_aux_lemma => kernel_rfl) (by as_aux_lemma => kernel_rfl) (by as_aux_lemma => kernel_rfl) rfl (by as_aux_lemma => kernel_rfl) (k := ?_)
  refine WL.nil ?_
  refine WX.seqN ?_
  refine WC.seq ?_
  refine WC.seq ?_
  refine WC.region ?_
  refine WL.op (d := 7) (.bool (decide (d.fail = 1))) (by as_aux_lemma => kernel_rfl) (by as_aux_lemma => kernel_rfl) (by as_aux_lemma => kernel_rfl) rfl (by as_aux_lemma => kernel_rfl) (k := ?_)
  refine WL.nil ?_
  refine WX.seqN ?_
  refine WC.cond (b := decide (d.fail = 1)) (by as_aux_lemma => kernel_rfl) (ht := fun h4 => ?_) (hf := fun h4 => ?_)
  · have ph4 := of_decide_eq_true h4
    refine WC.seq ?_
    refine WC.region ?_
    refine WL.op (d := 2) (.int .i64 18) (by as_aux_lemma => kernel_rfl) (by as_aux_lemma => kernel_rfl) (by as_aux_lemma => kernel_rfl) rfl (by as_aux_lemma => kernel_rfl) (k := ?_)
    refine WL.nil ?_
    refine WX.seqN ?_
    refine WC.ret ?_
    refine WX.seqR ?_
    refine WX.ret (rs := [.tmp 2]) [.int .i64 18] (.int .i64 18) ⟨(by as_aux_lemma => kernel_rfl), trivial⟩ rfl rfl (k := ?_)
    obtain ⟨e1_, e2_⟩ := GDisk.flush_io ph4
    exact ⟨by rw [e1_], _, by rw [e2_]; exact RefAt.mk (d := ⟨d.secs, d.opn, tickF d.fail, d.reads⟩) hb2 hw1 hw2 (GDisk.ok_of ho), (fun k h => .inl ((hS k).2 h)), K⟩
  · have ph4 := of_decide_eq_false h4
    refine WC.skip ?_
    refine WX.seqN ?_
    refine WC.seq ?_
    refine WC.seq ?_
    refine WC.region ?_
    refine WL.op (d := 4) (.int .i64 0) (by as_aux_lemma => kernel_rfl) (by as_aux_lemma => kernel_rfl) (by as_aux_lemma => kernel_rfl) rfl (by as_aux_lemma => kernel_rfl) (k := ?_)
    refine WL.nil ?_
    refine WX.seqN ?_
    refine WC.block ?_
    change OwAt strC 1 9 A1 c1 (List.foldl GDisk.put d.secs (List.take (0 : Int).toNat d.opn)) w1 at hw1
    refine WC.loop (ι := Int) (fun (i : Int) => [(0, .pointer (some ⟨b, 0, none⟩)), (2, .int .i64 0), (5, .pointer (some ⟨b, 0, none⟩)), (6, .bool (decide (d.fail = 1))), (3, .bool (decide (d.fail = 1))), (7, .bool (decide (d.fail = 1))), (4, .int .i64 i)]) (fun (i : Int) (w_ : World) => (Keeps S w w_) ∧ (w_.heap[b]? = some (.cells #[.slice A1 d.secs.length c1, .slice A2 d.opn.length c2, .int .i64 (tickF d.fail), .int .i64 d.reads] 49 (0, 0))) ∧ (OwAt strC 1 9 A1 c1 (List.foldl GDisk.put d.secs (List.take i.toNat d.opn)) w_) ∧ (OwAt putC 2 83 A2 c2 d.opn w_) ∧ (0 ≤ i) ∧ (i ≤ d.opn.length)) (fun (i : Int) => (d.opn.length - i).toNat) 0 ⟨(by as_aux_lemma => kernel_rfl), (by as_aux_lemma => kernel_rfl), (by as_aux_lemma => kernel_rfl), (by as_aux_lemma => kernel_rfl), (by as_aux_lemma => kernel_rfl), (by as_aux_lemma => kernel_rfl), (by as_aux_lemma => kernel_rfl), trivial⟩ ⟨K, hb2, hw1, hw2, Int.le_refl 0, (by omega)⟩ ?_
    rintro i w5 ⟨K, hb6, hb7, hb9, i0, i1⟩
    have pl_ := GDisk.puts_len (List.take i.toNat d.opn) d.secs
    refine WC.seq ?_
    refine WC.seq ?_
    refine WC.region ?_
    refine WL.op (d := 8) (.int .i64 i) (by as_aux_lemma => kernel_rfl) (by as_aux_lemma => kernel_rfl) (by as_aux_lemma => kernel_rfl) rfl (by as_aux_lemma => kernel_rfl) (k := ?_)
    refine WL.op (d := 9) (.pointer (some ⟨b, 0, none⟩)) (by as_aux_lemma => kernel_rfl) (by as_aux_lemma => kernel_rfl) (by as_aux_lemma => kernel_rfl) rfl (by as_aux_lemma => kernel_rfl) (k := ?_)
    refine WL.op (d := 10) (.pointer (some ⟨b, 0, none⟩)) (by as_aux_lemma => kernel_rfl) (by as_aux_lemma => kernel_rfl) (by as_aux_lemma => kernel_rfl) rfl (by as_aux_lemma => kernel_rfl) (k := ?_)
    refine WL.op (d := 11) (.pointer (some ⟨b, 1, none⟩)) (by as_aux_lemma => kernel_rfl) (by as_aux_lemma => kernel_rfl) (by as_aux_lemma => kernel_rfl) rfl (by as_aux_lemma => kernel_rfl) (k := ?_)
    refine WL.load (v := .slice A2 d.opn.length c2) (ld1 (T := 47) (i := 1) hb6 (by as_aux_lemma => kernel_rfl) (by as_aux_lemma => kernel_rfl)) (by as_aux_lemma => kernel_rfl) (by as_aux_lemma => kernel_rfl) (by as_aux_lemma => kernel_rfl) (k := ?_)
    refine WL.op (d := 13) (.int .i64 (d.opn.length : Int)) (by as_aux_lemma => kernel_rfl) (by as_aux_lemma => kernel_rfl) (by as_aux_lemma => kernel_rfl) rfl (by as_aux_lemma => kernel_rfl) (k := ?_)
    refine WL.op (d := 14) (.bool (decide (i < (d.opn.length : Int)))) (by as_aux_lemma => kernel_rfl) (by as_aux_lemma => kernel_rfl) (by as_aux_lemma => kernel_rfl) rfl (by as_aux_lemma => kernel_rfl) (k := ?_)
    refine WL.nil ?_
    refine WX.seqN ?_
    refine WC.cond (b := decide (i < (d.opn.length : Int))) (by as_aux_lemma => kernel_rfl) (ht := fun h11 => ?_) (hf := fun h11 => ?_)
    · have ph11 := of_decide_eq_true h11
      refine WC.skip ?_
      refine WX.seqN ?_
      refine WC.seq ?_
      refine WC.block ?_
      refine WC.tail 21 (by kernel_rfl) (by as_aux_lemma => kernel_rfl) (k := ?_)
      refine WQ.op (d := 17) (.pointer (some ⟨b, 0, none⟩)) (by as_aux_lemma => kernel_rfl) (by as_aux_lemma => kernel_rfl) (fun _ _ => by kernel_rfl) rfl (by as_aux_lemma => kernel_rfl) (k := ?_)
      refine WQ.op (d := 18) (.pointer (some ⟨b, 0, none⟩)) (by as_aux_lemma => kernel_rfl) (by as_aux_lemma => kernel_rfl) (fun _ _ => by kernel_rfl) rfl (by as_aux_lemma => kernel_rfl) (k := ?_)
      refine WQ.op (d := 19) (.pointer (some ⟨b, 0, none⟩)) (by as_aux_lemma => kernel_rfl) (by as_aux_lemma => kernel_rfl) (fun _ _ => by kernel_rfl) rfl (by as_aux_lemma => kernel_rfl) (k := ?_)
      refine WQ.load (v := .slice A1 d.secs.length c1) (fun w_ k_ => ld1 (T := 36) (i := 0) (k_.heap hb6 id) (by as_aux_lemma => kernel_rfl) (by as_aux_lemma => kernel_rfl)) (by as_aux_lemma => kernel_rfl) (by as_aux_lemma => kernel_rfl) (by as_aux_lemma => kernel_rfl) (k := ?_)
      refine WQ.op (d := 21) (.pointer (some ⟨b, 0, none⟩)) (by as_aux_lemma => kernel_rfl) (by as_aux_lemma => kernel_rfl) (fun _ _ => by kernel_rfl) rfl (by as_aux_lemma => kernel_rfl) (k := ?_)
      refine WQ.op (d := 22) (.pointer (some ⟨b, 0, none⟩)) (by as_aux_lemma => kernel_rfl) (by as_aux_lemma => kernel_rfl) (fun _ _ => by kernel_rfl) rfl (by as_aux_lemma => kernel_rfl) (k := ?_)
      refine WQ.op (d := 23) (.pointer (some ⟨b, 1, none⟩)) (by as_aux_lemma => kernel_rfl) (by as_aux_lemma => kernel_rfl) (fun _ _ => by kernel_rfl) rfl (by as_aux_lemma => kernel_rfl) (k := ?_)
      refine WQ.load (v := .slice A2 d.opn.length c2) (fun w_ k_ => ld1 (T := 47) (i := 1) (k_.heap hb6 id) (by as_aux_lemma => kernel_rfl) (by as_aux_lemma => kernel_rfl)) (by as_aux_lemma => kernel_rfl) (by as_aux_lemma => kernel_rfl) (by as_aux_lemma => kernel_rfl) (k := ?_)
      refine WQ.op (d := 25) (.int .i64 i) (by as_aux_lemma => kernel_rfl) (by as_aux_lemma => kernel_rfl) (fun _ _ => by kernel_rfl) rfl (by as_aux_lemma => kernel_rfl) (k := ?_)
      obtain ⟨b12, o13, r14, hr15, hA16, he17⟩ := SlAt.at (hb9.sl ekPut) (i := i) (by omega) (by omega)
      refine WQ.rw (t := 24) (v := .slice (some ⟨b12, o13, none⟩) d.opn.length c2) (congrArg (fun a => Value.slice a d.opn.length c2) hA16) (by as_aux_lemma => kernel_rfl) (k := ?_)
      obtain ⟨_, _, _⟩ := ow_ _ (List.mem_of_getElem? hr15)
      refine WQ.idx (T := 47) (E := 83) (m := 2) (b := b12) (o := o13) (len := d.opn.length) (cap := c2) (i := i) (kk := .i64) (d := 26) (by omega) (by omega) (by as_aux_lemma => kernel_rfl) (by as_aux_lemma => kernel_rfl) (by as_aux_lemma => kernel_rfl) (by as_aux_lemma => kernel_rfl) (by as_aux_lemma => kernel_rfl) (by as_aux_lemma => kernel_rfl) (k := ?_)
      refine WQ.rw (t := 24) (v := .slice A2 d.opn.length c2) (congrArg (fun a => Value.slice a d.opn.length c2) (Eq.symm hA16)) (by as_aux_lemma => kernel_rfl) (k := ?_)
      refine WQ.op (d := 27) (.pointer (some ⟨b12, o13 + (i).toNat * 2, none⟩)) (by as_aux_lemma => kernel_rfl) (by as_aux_lemma => kernel_rfl) (fun _ _ => by kernel_rfl) rfl (by as_aux_lemma => kernel_rfl) (k := ?_)
      refine WQ.load (v := .int .i64 r14.1) (fun w_ k_ => (he17.adds k_).ld0 (T := 3)) (by as_aux_lemma => kernel_rfl) (by as_aux_lemma => kernel_rfl) (by as_aux_lemma => kernel_rfl) (k := ?_)
      refine WQ.op (d := 29) (.pointer (some ⟨b, 0, none⟩)) (by as_aux_lemma => kernel_rfl) (by as_aux_lemma => kernel_rfl) (fun _ _ => by kernel_rfl) rfl (by as_aux_lemma => kernel_rfl) (k := ?_)
      refine WQ.op (d := 30) (.pointer (some ⟨b, 0, none⟩)) (by as_aux_lemma => kernel_rfl) (by as_aux_lemma => kernel_rfl) (fun _ _ => by kernel_rfl) rfl (by as_aux_lemma => kernel_rfl) (k := ?_)
      refine WQ.op (d := 31) (.pointer (some ⟨b, 1, none⟩)) (by as_aux_lemma => kernel_rfl) (by as_aux_lemma => kernel_rfl) (fun _ _ => by kernel_rfl) rfl (by as_aux_lemma => kernel_rfl) (k := ?_)
      refine WQ.load (v := .slice A2 d.opn.length c2) (fun w_ k_ => ld1 (T := 47) (i := 1) (k_.heap hb6 id) (by as_aux_lemma => kernel_rfl) (by as_aux_lemma => kernel_rfl)) (by as_aux_lemma => kernel_rfl) (by as_aux_lemma => kernel_rfl) (by as_aux_lemma => kernel_rfl) (k := ?_)
      refine WQ.op (d := 33) (.int .i64 i) (by as_aux_lemma => kernel_rfl) (by as_aux_lemma => kernel_rfl) (fun _ _ => by kernel_rfl) rfl (by as_aux_lemma => kernel_rfl) (k := ?_)
      obtain ⟨b18, o19, r20, hr21, hA22, he23⟩ := SlAt.at (hb9.sl ekPut) (i := i) (by omega) (by omega)
      refine WQ.rw (t := 32) (v := .slice (some ⟨b18, o19, none⟩) d.opn.length c2) (congrArg (fun a => Value.slice a d.opn.length c2) hA22) (by as_aux_lemma => kernel_rfl) (k := ?_)
      obtain rfl : r14 = r20 := Option.some.inj (hr15.symm.trans hr21)
      obtain ⟨_, _, _⟩ := ow_ _ (List.mem_of_getElem? hr15)
      refine WQ.idx (T := 47) (E := 83) (m := 2) (b := b18) (o := o19) (len := d.opn.length) (cap := c2) (i := i) (kk := .i64) (d := 34) (by omega) (by omega) (by as_aux_lemma => kernel_rfl) (by as_aux_lemma => kernel_rfl) (by as_aux_lemma => kernel_rfl) (by as_aux_lemma => kernel_rfl) (by as_aux_lemma => kernel_rfl) (by as_aux_lemma => kernel_rfl) (k := ?_)
      refine WQ.rw (t := 32) (v := .slice A2 d.opn.length c2) (congrArg (fun a => Value.slice a d.opn.length c2) (Eq.symm hA22)) (by as_aux_lemma => kernel_rfl) (k := ?_)
      refine WQ.op (d := 35) (.pointer (some ⟨b18, o19 + (i).toNat * 2 + 1, none⟩)) (by as_aux_lemma => kernel_rfl) (by as_aux_lemma => kernel_rfl) (fun _ _ => by kernel_rfl) rfl (by as_aux_lemma => kernel_rfl) (k := ?_)
      refine WQ.load (v := .string ⟨(r14.2).toArray⟩) (fun w_ k_ => (he23.adds k_).ldF (T := 9) (off := 1)) (by as_aux_lemma => kernel_rfl) (by as_aux_lemma => kernel_rfl) (by as_aux_lemma => kernel_rfl) (k := ?_)
      obtain ⟨b24, o25, r26, hr27, hA28, he29⟩ := SlAt.at (hb7.sl ekStr) (i := r14.1) (by omega) (by omega)
      refine WQ.rw (t := 20) (v := .slice (some ⟨b24, o25, none⟩) d.secs.length c1) (congrArg (fun a => Value.slice a d.secs.length c1) hA28) (by as_aux_lemma => kernel_rfl) (k := ?_)
      refine WQ.idx (T := 36) (E := 9) (m := 1) (b := b24) (o := o25) (len := d.secs.length) (cap := c1) (i := r14.1) (kk := .i64) (d := 37) (by omega) (by omega) (by as_aux_lemma => kernel_rfl) (by as_aux_lemma => kernel_rfl) (by as_aux_lemma => kernel_rfl) (by as_aux_lemma => kernel_rfl) (by as_aux_lemma => kernel_rfl) (by as_aux_lemma => kernel_rfl) (k := ?_)
      refine WQ.rw (t := 20) (v := .slice A1 d.secs.length c1) (congrArg (fun a => Value.slice a d.secs.length c1) (Eq.symm hA28)) (by as_aux_lemma => kernel_rfl) (k := ?_)
      refine WQ.nilL (fun w30 k31 => ?_)
      replace hb6 := k31.heap hb6 id
      replace hb7 := hb7.adds k31
      replace hb9 := hb9.adds k31
      replace he17 := he17.adds k31
      replace he23 := he23.adds k31
      replace he29 := he29.adds k31
      replace K := K.trans (k31.any _)
      obtain ⟨w32, hs33, ho34, k35⟩ := OwAt.set (T := 9) ekStr hb7 hA28 (i := r14.1) (by omega) (by omega) r14.2 (by kernel_rfl)
      refine WL.wr (v := .string ⟨(r14.2).toArray⟩) hs33 (k := ?_)
      clear hs33
      replace hb6 := k35.heap hb6 (hb7.offT hb6 (by decide))
      replace hb9 := hb9.keeps k35 (OwAt.offOw hb9 hb7 (by decide))
      replace K := K.trans' k35 (fun i hi e => (hS i).2 (.inr (.inl e)))
      clear hb7
      refine WL.nil ?_
      refine WX.blockN ?_
      refine WX.seqN ?_
      refine WC.region ?_
      refine WL.op (d := 15) (.int .i64 i) (by as_aux_lemma => kernel_rfl) (by as_aux_lemma => kernel_rfl) (by as_aux_lemma => kernel_rfl) rfl (by as_aux_lemma => kernel_rfl) (k := ?_)
      refine WL.opE (d := 16) (.int .i64 (IntKind.i64.wrap (i + 1))) (v := .int .i64 (i + 1)) (congrArg (Value.int .i64) (IntWalk.i64_in _ (by omega))) (by as_aux_lemma => kernel_rfl) (by as_aux_lemma => kernel_rfl) (by as_aux_lemma => kernel_rfl) rfl (by as_aux_lemma => kernel_rfl) (k := ?_)
      refine WL.op (d := 4) (.int .i64 (i + 1)) (by as_aux_lemma => kernel_rfl) (by as_aux_lemma => kernel_rfl) (by as_aux_lemma => kernel_rfl) rfl (by as_aux_lemma => kernel_rfl) (k := ?_)
      refine WL.nil ?_
      have e36 : List.set (List.foldl GDisk.put d.secs (List.take i.toNat d.opn)) (r14.1).toNat r14.2 = List.foldl GDisk.put d.secs (List.take (i + 1).toNat d.opn) := GDisk.put_succ i0 hr15
      rw [e36] at ho34
      refine WX.round (i + 1) (by show (d.opn.length - (i + 1)).toNat < (d.opn.length - i).toNat; omega) ⟨(by as_aux_lemma => kernel_rfl), (by as_aux_lemma => kernel_rfl), (by as_aux_lemma => kernel_rfl), (by as_aux_lemma => kernel_rfl), (by as_aux_lemma => kernel_rfl), (by as_aux_lemma => kernel_rfl), (by as_aux_lemma => kernel_rfl), trivial⟩ ⟨K, hb6, ho34, hb9, (by omega), (by omega)⟩
    · have ph11 := of_decide_eq_false h11
      refine WC.exit ?_
      refine WX.seqE ?_
      refine WX.seqE ?_
      refine WX.blockE ?_
      refine WX.seqN ?_
      refine WC.seq ?_
      refine WC.region ?_
      refine WL.op (d := 38) (.pointer (some ⟨b, 0, none⟩)) (by as_aux_lemma => kernel_rfl) (by as_aux_lemma => kernel_rfl) (by as_aux_lemma => kernel_rfl) rfl (by as_aux_lemma => kernel_rfl) (k := ?_)
      refine WL.op (d := 39) (.pointer (some ⟨b, 0, none⟩)) (by as_aux_lemma => kernel_rfl) (by as_aux_lemma => kernel_rfl) (by as_aux_lemma => kernel_rfl) rfl (by as_aux_lemma => kernel_rfl) (k := ?_)
      refine WL.op (d := 40) (.pointer (some ⟨b, 1, none⟩)) (by as_aux_lemma => kernel_rfl) (by as_aux_lemma => kernel_rfl) (by as_aux_lemma => kernel_rfl) rfl (by as_aux_lemma => kernel_rfl) (k := ?_)
      refine WL.store (v := .slice none 0 0) (i := 1) (cs' := #[.slice A1 d.secs.length c1, .slice none 0 0, .int .i64 (tickF d.fail), .int .i64 d.reads]) hb6 (by as_aux_lemma => kernel_rfl) (by as_aux_lemma => kernel_rfl) (by as_aux_lemma => kernel_rfl) (by as_aux_lemma => kernel_rfl) (by as_aux_lemma => kernel_rfl) (by as_aux_lemma => kernel_rfl) (by as_aux_lemma => kernel_rfl) (k := fun w37 hb38 k39 => ?_)
      replace hb7 := hb7.keeps k39 (fun i hi e => (hb7.offT hb6 (by decide)) (e ▸ hi))
      replace hb9 := hb9.keeps k39 (fun i hi e => (hb9.offT hb6 (by decide)) (e ▸ hi))
      replace K := K.trans' k39 (fun i hi e => (hS i).2 (.inl e))
      clear hb6
      refine WL.nil ?_
      refine WX.seqN ?_
      refine WC.seq ?_
      refine WC.region ?_
      refine WL.op (d := 2) (.int .i64 0) (by as_aux_lemma => kernel_rfl) (by as_aux_lemma => kernel_rfl) (by as_aux_lemma => kernel_rfl) rfl (by as_aux_lemma => kernel_rfl) (k := ?_)
      refine WL.nil ?_
      refine WX.seqN ?_
      refine WC.ret ?_
      refine WX.ret (rs := [.tmp 2]) [.int .i64 0] (.int .i64 0) ⟨(by as_aux_lemma => kernel_rfl), trivial⟩ rfl rfl (k := ?_)
      obtain ⟨e1_, e2_⟩ := GDisk.flush_ok ph4
      have e_ := take_endI (xs := d.opn) (i := i) (by omega)
      rw [e_] at hb7
      rw [← GDisk.puts_len d.opn d.secs] at hb38
      exact ⟨by rw [e1_], _, by rw [e2_]; exact RefAt.mk (d := ⟨List.foldl GDisk.put d.secs d.opn, [], tickF d.fail, d.reads⟩) hb38 hb7 OwAt.nil (GDisk.flush_dok ho _ _ (tickF_rng' ⟨of0_, of1_⟩)), flink hS, K⟩
set_option maxRecDepth 100000 in
set_option maxHeartbeats 4000000 in
theorem rdNew_c {n : Nat} (n1 : n ≤ 1024) (w : World) : Calls Tryz.prog 7 #[.int .i64 (n : Int)] w fun e w' => ∃ b S, e = .returned (.pointer (some ⟨b, 0, none⟩)) ∧ w.heap.size ≤ b ∧ RefAt S b (GDisk.zero n) w' ∧ (∀ k, S k → w.heap.size ≤ k) ∧ Adds w w' := by
  have K : Keeps (fun _ => False) w w := Keeps.refl _ w
  refine Calls.start Tryz.func7 rfl (by as_aux_lemma => kernel_rfl) ?_
  refine WC.seq ?_
  refine WC.region ?_
  refine WL.op (d := 2) (.pointer none) (by as_aux_lemma => kernel_rfl) (by as_aux_lemma => kernel_rfl) (by as_aux_lemma => kernel_rfl) rfl (by as_aux_lemma => kernel_rfl) (k := ?_)
  refine WL.nil ?_
  refine WX.seqN ?_
  refine WC.seq ?_
  refine WC.region ?_
  refine WL.op (d := 5) (.agg #[.slice none 0 0, .slice none 0 0, .int .i64 0, .int .i64 0]) (by as_aux_lemma => kernel_rfl) (by as_aux_lemma => kernel_rfl) (by as_aux_lemma => kernel_rfl) rfl (by as_aux_lemma => kernel_rfl) (k := ?_)
  refine WL.new (d := 6) (T := 49) #[.slice none 0 0, .slice none 0 0, .int .i64 0, .int .i64 0] (by as_aux_lemma => kernel_rfl) (by as_aux_lemma => kernel_rfl) rfl (by as_aux_lemma => kernel_rfl) (by as_aux_lemma => kernel_rfl) (k := fun b1 w2 g3 hb4 k5 => ?_)
  have z6 := Nat.le_trans K.size g3
  replace K := K.trans (k5.any _)
  refine WL.op (d := 3) (.pointer (some ⟨b1, 0, none⟩)) (by as_aux_lemma => kernel_rfl) (by as_aux_lemma => kernel_rfl) (by as_aux_lemma => kernel_rfl) rfl (by as_aux_lemma => kernel_rfl) (k := ?_)
  refine WL.nil ?_
  refine WX.seqN ?_
  refine WC.seq ?_
  refine WC.seq ?_
  refine WC.region ?_
  refine WL.op (d := 4) (.int .i64 0) (by as_aux_lemma => kernel_rfl) (by as_aux_lemma => kernel_rfl) (by as_aux_lemma => kernel_rfl) rfl (by as_aux_lemma => kernel_rfl) (k := ?_)
  refine WL.nil ?_
  refine WX.seqN ?_
  refine WC.block ?_
  refine WC.loop (ι := Int × (List (List UInt8)) × (Option Addr) × Nat) (fun (⟨i, xs, A1, c1⟩ : Int × (List (List UInt8)) × (Option Addr) × Nat) => [(0, .int .i64 (n : Int)), (2, .pointer none), (5, .agg #[.slice none 0 0, .slice none 0 0, .int .i64 0, .int .i64 0]), (6, .pointer (some ⟨b1, 0, none⟩)), (3, .pointer (some ⟨b1, 0, none⟩)), (4, .int .i64 i)]) (fun (⟨i, xs, A1, c1⟩ : Int × (List (List UInt8)) × (Option Addr) × Nat) (w_ : World) => (Keeps (fun _ => False) w w_) ∧ (w_.heap[b1]? = some (.cells #[.slice A1 xs.length c1, .slice none 0 0, .int .i64 0, .int .i64 0] 49 (0, 0))) ∧ (OwAt strC 1 9 A1 c1 xs w_) ∧ (∀ i, blk A1 = some i → w.heap.size ≤ i) ∧ (0 ≤ i) ∧ (i ≤ n) ∧ (xs = List.replicate i.toNat (List.replicate 64 (0 : UInt8)))) (fun (⟨i, xs, A1, c1⟩ : Int × (List (List UInt8)) × (Option Addr) × Nat) => (n - i).toNat) (0, [], none, 0) ⟨(by as_aux_lemma => kernel_rfl), (by as_aux_lemma => kernel_rfl), (by as_aux_lemma => kernel_rfl), (by as_aux_lemma => kernel_rfl), (by as_aux_lemma => kernel_rfl), (by as_aux_lemma => kernel_rfl), trivial⟩ ⟨K, hb4, OwAt.nil, (by simp [blk]), Int.le_refl 0, (by omega), rfl⟩ ?_
  rintro ⟨i, xs, A1, c1⟩ w7 ⟨K, hb8, hb9, ol10, i0, i1, hx⟩
  have hl_ : xs.length = i.toNat := by rw [hx, List.length_replicate]
  refine WC.seq ?_
  refine WC.seq ?_
  refine WC.region ?_
  refine WL.op (d := 7) (.int .i64 i) (by as_aux_lemma => kernel_rfl) (by as_aux_lemma => kernel_rfl) (by as_aux_lemma => kernel_rfl) rfl (by as_aux_lemma => kernel_rfl) (k := ?_)
  refine WL.op (d := 8) (.int .i64 (n : Int)) (by as_aux_lemma => kernel_rfl) (by as_aux_lemma => kernel_rfl) (by as_aux_lemma => kernel_rfl) rfl (by as_aux_lemma => kernel_rfl) (k := ?_)
  refine WL.op (d := 9) (.bool (decide (i < (n : Int)))) (by as_aux_lemma => kernel_rfl) (by as_aux_lemma => kernel_rfl) (by as_aux_lemma => kernel_rfl) rfl (by as_aux_lemma => kernel_rfl) (k := ?_)
  refine WL.nil ?_
  refine WX.seqN ?_
  refine WC.cond (b := decide (i < (n : Int))) (by as_aux_lemma => kernel_rfl) (ht := fun h11 => ?_) (hf := fun h11 => ?_)
  · have ph11 := of_decide_eq_true h11
    refine WC.skip ?_
    refine WX.seqN ?_
    refine WC.seq ?_
    refine WC.block ?_
    refine WC.mixed (fun k => blk A1 = some k) 11 (k := fun w12 k13 => ?_)
    replace hb8 := k13.heap hb8 id
    replace hb9 := hb9.adds k13
    replace K := K.trans (k13.any _)
    have KC := Keeps.refl (fun k => blk A1 = some k) w12
    have bh14 := hb8
    have Kb := K
    refine WA.quietT 0 (d := 12) (.pointer (some ⟨b1, 0, none⟩)) KC (hi := rfl) (hs := by as_aux_lemma => kernel_rfl) (hf := by as_aux_lemma => kernel_rfl) (hw := by as_aux_lemma => kernel_rfl) (hd := by as_aux_lemma => kernel_rfl) (hn := by as_aux_lemma => kernel_rfl) (k := ?_)
    refine WA.quietT 1 (d := 13) (.pointer (some ⟨b1, 0, none⟩)) KC (hi := rfl) (hs := by as_aux_lemma => kernel_rfl) (hf := by as_aux_lemma => kernel_rfl) (hw := by as_aux_lemma => kernel_rfl) (hd := by as_aux_lemma => kernel_rfl) (hn := by as_aux_lemma => kernel_rfl) (k := ?_)
    refine WA.quietT 2 (d := 14) (.pointer (some ⟨b1, 0, none⟩)) KC (hi := rfl) (hs := by as_aux_lemma => kernel_rfl) (hf := by as_aux_lemma => kernel_rfl) (hw := by as_aux_lemma => kernel_rfl) (hd := by as_aux_lemma => kernel_rfl) (hn := by as_aux_lemma => kernel_rfl) (k := ?_)
    refine WA.quietT 3 (d := 15) (.pointer (some ⟨b1, 0, none⟩)) KC (hi := rfl) (hs := by as_aux_lemma => kernel_rfl) (hf := by as_aux_lemma => kernel_rfl) (hw := by as_aux_lemma => kernel_rfl) (hd := by as_aux_lemma => kernel_rfl) (hn := by as_aux_lemma => kernel_rfl) (k := ?_)
    refine WA.quietRT 4 (d := 16) (.slice A1 xs.length c1) KC (exec_load (fun w_ k_ => ld1 (T := 36) (i := 0) (k_.heap bh14 (hb9.offT hb8 (by decide))) (by as_aux_lemma => kernel_rfl) (by as_aux_lemma => kernel_rfl))) (hi := rfl) (hs := by as_aux_lemma => kernel_rfl) (hf := by as_aux_lemma => kernel_rfl) (hw := by as_aux_lemma => kernel_rfl) (hd := by as_aux_lemma => kernel_rfl) (hn := by as_aux_lemma => kernel_rfl) (k := ?_)
    refine WA.step 5 (hi := rfl) (k := ?_)
    refine WL.newF (d := 17) (T := 5) (List.replicate 64 (Value.int .u8 0)).toArray (fun b => .slice (some ⟨b, 0, none⟩) 64 64) (by as_aux_lemma => kernel_rfl) (by as_aux_lemma => kernel_rfl) rfl (by as_aux_lemma => kernel_rfl) (by as_aux_lemma => kernel_rfl) (k := fun b15 w16 g17 hb18 k19 => ?_)
    have z22 := Nat.le_trans K.size g17
    have zc23 := Nat.le_trans KC.size g17
    have n24 : b1 ≠ b15 := Nat.ne_of_lt (Nat.lt_of_lt_of_le (lt_of_heap hb8) g17)
    have n25 := OwAt.off_new hb9 g17
    replace hb8 := k19.heap hb8 id
    replace hb9 := hb9.adds k19
    replace K := K.trans (k19.any _)
    replace KC := KC.trans (k19.any _)
    have ho20 := OwAt.made (N := 64) hb18 (by decide)
    have ol21 : ∀ i, blk (some ⟨b15, 0, none⟩) = some i → w.heap.size ≤ i := fun i e => by cases e; exact z22
    refine WL.nil ?_
    refine WX.nxt KC ?_
    refine WA.step 6 (hi := rfl) (k := ?_)
    refine WL.conv (d := 18) (vx := .slice (some ⟨b15, 0, none⟩) 64 64) (v := .string ⟨(List.replicate 64 0).toArray⟩) (ofBytesSl (n := 64) (ho20.sl ekU8) (by first | rfl | omega | (simp; omega))) (by as_aux_lemma => kernel_rfl) (by as_aux_lemma => kernel_rfl) (by as_aux_lemma => kernel_rfl) (k := ?_)
    refine WL.nil ?_
    refine WX.nxt KC ?_
    refine WA.step 7 (hi := rfl) (k := ?_)
    refine WL.newF (d := 19) (T := 9) #[.string ⟨(List.replicate 64 0).toArray⟩] (fun b => .slice (some ⟨b, 0, none⟩) 1 1) (by as_aux_lemma => kernel_rfl) (by as_aux_lemma => kernel_rfl) rfl (by as_aux_lemma => kernel_rfl) (by as_aux_lemma => kernel_rfl) (k := fun b26 w27 g28 hb29 k30 => ?_)
    have z31 := Nat.le_trans K.size g28
    have zc32 := Nat.le_trans KC.size g28
    have n33 : b1 ≠ b26 := Nat.ne_of_lt (Nat.lt_of_lt_of_le (lt_of_heap hb8) g28)
    have n34 := OwAt.off_new hb9 g28
    have n35 := OwAt.off_new ho20 g28
    replace hb8 := k30.heap hb8 id
    replace hb9 := hb9.adds k30
    replace ho20 := ho20.adds k30
    replace K := K.trans (k30.any _)
    replace KC := KC.trans (k30.any _)
    refine WL.nil ?_
    refine WX.nxt KC ?_
    refine WA.step 8 (hi := rfl) (k := ?_)
    refine WL.append (d := 20) (T := 36) (cl := strC) (xs := xs) (ys := [List.replicate 64 0]) (c := 1) ekStr hb9 (SlAt.of_lit (ys := [List.replicate 64 0]) ekStr hb29 (by as_aux_lemma => kernel_rfl)) (by first | omega | (simp; omega)) (k := fun A36 c37 w38 ho39 k40 n41 => ?_)
    have ol42 := olink_step ol10 K n41
    replace hb8 := k40.heap hb8 (hb9.offT hb8 (by decide))
    replace ho20 := ho20.keeps k40 (OwAt.offOw ho20 hb9 (by decide))
    replace K := K.trans' k40 (fun i hi e => absurd hi (Nat.not_lt.2 (ol10 i e)))
    replace KC := KC.trans' k40 (fun i hi e => e)
    clear hb9
    refine WL.nil ?_
    refine WX.nxt KC ?_
    refine WA.quietT 9 (d := 21) (.pointer (some ⟨b1, 0, none⟩)) KC (hi := rfl) (hs := by as_aux_lemma => kernel_rfl) (hf := by as_aux_lemma => kernel_rfl) (hw := by as_aux_lemma => kernel_rfl) (hd := by as_aux_lemma => kernel_rfl) (hn := by as_aux_lemma => kernel_rfl) (k := ?_)
    refine WA.quietT 10 (d := 22) (.pointer (some ⟨b1, 0, none⟩)) KC (hi := rfl) (hs := by as_aux_lemma => kernel_rfl) (hf := by as_aux_lemma => kernel_rfl) (hw := by as_aux_lemma => kernel_rfl) (hd := by as_aux_lemma => kernel_rfl) (hn := by as_aux_lemma => kernel_rfl) (k := ?_)
    refine WA.step 11 (hi := rfl) (k := ?_)
    refine WL.store (v := .slice A36 ((xs ++ [List.replicate 64 0]).length) c37) (i := 0) (cs' := #[.slice A36 ((xs ++ [List.replicate 64 0]).length) c37, .slice none 0 0, .int .i64 0, .int .i64 0]) hb8 (by as_aux_lemma => kernel_rfl) (by as_aux_lemma => kernel_rfl) (by as_aux_lemma => kernel_rfl) (by as_aux_lemma => kernel_rfl) (by as_aux_lemma => kernel_rfl) (by as_aux_lemma => kernel_rfl) (by as_aux_lemma => kernel_rfl) (k := fun w43 hb44 k45 => ?_)
    replace ho39 := ho39.keeps k45 (fun i hi e => (ho39.offT hb8 (by decide)) (e ▸ hi))
    replace ho20 := ho20.keeps k45 (fun i hi e => (ho20.offT hb8 (by decide)) (e ▸ hi))
    replace K := K.trans' k45 (fun i hi e => absurd (e ▸ hi) (Nat.not_lt.2 z6))
    clear hb8
    refine WL.nil ?_
    refine WX.nxtL ?_
    refine WA.done (k := ?_)
    clear KC
    refine WX.blockN ?_
    refine WX.seqN ?_
    refine WC.region ?_
    refine WL.op (d := 10) (.int .i64 i) (by as_aux_lemma => kernel_rfl) (by as_aux_lemma => kernel_rfl) (by as_aux_lemma => kernel_rfl) rfl (by as_aux_lemma => kernel_rfl) (k := ?_)
    refine WL.opE (d := 11) (.int .i64 (IntKind.i64.wrap (i + 1))) (v := .int .i64 (i + 1)) (congrArg (Value.int .i64) (IntWalk.i64_in _ (by omega))) (by as_aux_lemma => kernel_rfl) (by as_aux_lemma => kernel_rfl) (by as_aux_lemma => kernel_rfl) rfl (by as_aux_lemma => kernel_rfl) (k := ?_)
    refine WL.op (d := 4) (.int .i64 (i + 1)) (by as_aux_lemma => kernel_rfl) (by as_aux_lemma => kernel_rfl) (by as_aux_lemma => kernel_rfl) rfl (by as_aux_lemma => kernel_rfl) (k := ?_)
    refine WL.nil ?_
    refine WX.round (i + 1, xs ++ [List.replicate 64 0], A36, c37) (by show (n - (i + 1)).toNat < (n - i).toNat; omega) ⟨(by as_aux_lemma => kernel_rfl), (by as_aux_lemma => kernel_rfl), (by as_aux_lemma => kernel_rfl), (by as_aux_lemma => kernel_rfl), (by as_aux_lemma => kernel_rfl), (by as_aux_lemma => kernel_rfl), trivial⟩ ⟨K, hb44, ho39, ol42, (by omega), (by omega), (by rw [hx, show (i + 1).toNat = i.toNat + 1 by omega]; exact (List.replicate_succ' ..).symm)⟩
  · have ph11 := of_decide_eq_false h11
    refine WC.exit ?_
    refine WX.seqE ?_
    refine WX.seqE ?_
    refine WX.blockE ?_
    refine WX.seqN ?_
    refine WC.seq ?_
    refine WC.region ?_
    refine WL.op (d := 23) (.pointer (some ⟨b1, 0, none⟩)) (by as_aux_lemma => kernel_rfl) (by as_aux_lemma => kernel_rfl) (by as_aux_lemma => kernel_rfl) rfl (by as_aux_lemma => kernel_rfl) (k := ?_)
    refine WL.op (d := 2) (.pointer (some ⟨b1, 0, none⟩)) (by as_aux_lemma => kernel_rfl) (by as_aux_lemma => kernel_rfl) (by as_aux_lemma => kernel_rfl) rfl (by as_aux_lemma => kernel_rfl) (k := ?_)
    refine WL.nil ?_
    refine WX.seqN ?_
    refine WC.ret ?_
    refine WX.ret (rs := [.tmp 2]) [.pointer (some ⟨b1, 0, none⟩)] (.pointer (some ⟨b1, 0, none⟩)) ⟨(by as_aux_lemma => kernel_rfl), trivial⟩ rfl rfl (k := ?_)
    have q_ : i.toNat = n := by omega
    rw [q_] at hx
    subst hx
    exact ⟨_, _, rfl, z6, RefAt.mk (d := GDisk.zero n) hb8 hb9 OwAt.nil (GDisk.zero_ok n1), (fun k h => by
      rcases h with rfl | h | h
      · exact z6
      · exact ol10 k h
      · simp [blk] at h), K⟩
set_option maxRecDepth 100000 in
set_option maxHeartbeats 4000000 in
theorem rdCrash_c {fs : List (Int × Int)} {A : Option Addr} {cf : Nat} {S : Nat → Prop} {b : Nat} {d : GDisk} {w : World} (hd : RefAt S b d w) (hF : SlAt ftC 2 81 A fs w) (hFo : fs ≠ [] → ∀ p, A = some p → ¬ S p.block) (hfl : fs.length ≤ 9223372036854775807) : Calls Tryz.prog 17 #[.pointer (some ⟨b, 0, none⟩), .slice A fs.length cf] w fun e w' => e = .returned (.int .i64 (d.crashE fs)) ∧ RefPost S b (d.crashD fs) w w' := by
  have K : Keeps S w w := Keeps.refl _ w
  obtain ⟨A1, c1, A2, c2, hb, hw1, hw2, hS, ho⟩ := hd
  have ho2 := ho
  obtain ⟨os_, ow_, of0_, of1_, on_, om_⟩ := ho2
  refine Calls.start Tryz.func17 rfl (by as_aux_lemma => kernel_rfl) ?_
  refine WC.seq ?_
  refine WC.region ?_
  refine WL.op (d := 4) (.int .i64 0) (by as_aux_lemma => kernel_rfl) (by as_aux_lemma => kernel_rfl) (by as_aux_lemma => kernel_rfl) rfl (by as_aux_lemma => kernel_rfl) (k := ?_)
  refine WL.nil ?_
  refine WX.seqN ?_
  refine WC.seq ?_
  refine WC.region ?_
  refine WL.op (d := 5) (.int .i64 0) (by as_aux_lemma => kernel_rfl) (by as_aux_lemma => kernel_rfl) (by as_aux_lemma => kernel_rfl) rfl (by as_aux_lemma => kernel_rfl) (k := ?_)
  refine WL.nil ?_
  refine WX.seqN ?_
  refine WC.seq ?_
  refine WC.seq ?_
  refine WC.region ?_
  refine WL.op (d := 6) (.int .i64 0) (by as_aux_lemma => kernel_rfl) (by as_aux_lemma => kernel_rfl) (by as_aux_lemma => kernel_rfl) rfl (by as_aux_lemma => kernel_rfl) (k := ?_)
  refine WL.nil ?_
  refine WX.seqN ?_
  refine WC.block ?_
  change OwAt strC 1 9 A1 c1 (Prod.fst (crashN fs d.opn d.secs (0 : Int).toNat)) w at hw1
  refine WC.rw (t := 5) (v := .int .i64 (Prod.snd (crashN fs d.opn d.secs (0 : Int).toNat))) (rfl) (by as_aux_lemma => kernel_rfl) (k := ?_)
  refine WC.loop (ι := Int) (fun (i : Int) => [(0, .pointer (some ⟨b, 0, none⟩)), (1, .slice A fs.length cf), (4, .int .i64 0), (6, .int .i64 i), (5, .int .i64 (Prod.snd (crashN fs d.opn d.secs i.toNat)))]) (fun (i : Int) (w_ : World) => (Keeps S w w_) ∧ (w_.heap[b]? = some (.cells #[.slice A1 d.secs.length c1, .slice A2 d.opn.length c2, .int .i64 d.fail, .int .i64 d.reads] 49 (0, 0))) ∧ (OwAt strC 1 9 A1 c1 (Prod.fst (crashN fs d.opn d.secs i.toNat)) w_) ∧ (OwAt putC 2 83 A2 c2 d.opn w_) ∧ (0 ≤ i) ∧ (i ≤ d.opn.length)) (fun (i : Int) => (d.opn.length - i).toNat) 0 ⟨(by as_aux_lemma => kernel_rfl), (by as_aux_lemma => kernel_rfl), (by as_aux_lemma => kernel_rfl), (by as_aux_lemma => kernel_rfl), (by as_aux_lemma => kernel_rfl), trivial⟩ ⟨K, hb, hw1, hw2, Int.le_refl 0, (by omega)⟩ ?_
  rintro i w1 ⟨K, hb2, hb3, hb5, i0, i1⟩
  have pl_ := crashN_len (fs := fs) (o := d.opn) (s0 := d.secs) i.toNat
  have pc_ := crashN_less fs d.opn d.secs i.toNat
  refine WC.seq ?_
  refine WC.seq ?_
  refine WC.region ?_
  refine WL.op (d := 10) (.int .i64 i) (by as_aux_lemma => kernel_rfl) (by as_aux_lemma => kernel_rfl) (by as_aux_lemma => kernel_rfl) rfl (by as_aux_lemma => kernel_rfl) (k := ?_)
  refine WL.op (d := 11) (.pointer (some ⟨b, 0, none⟩)) (by as_aux_lemma => kernel_rfl) (by as_aux_lemma => kernel_rfl) (by as_aux_lemma => kernel_rfl) rfl (by as_aux_lemma => kernel_rfl) (k := ?_)
  refine WL.op (d := 12) (.pointer (some ⟨b, 0, none⟩)) (by as_aux_lemma => kernel_rfl) (by as_aux_lemma => kernel_rfl) (by as_aux_lemma => kernel_rfl) rfl (by as_aux_lemma => kernel_rfl) (k := ?_)
  refine WL.op (d := 13) (.pointer (some ⟨b, 1, none⟩)) (by as_aux_lemma => kernel_rfl) (by as_aux_lemma => kernel_rfl) (by as_aux_lemma => kernel_rfl) rfl (by as_aux_lemma => kernel_rfl) (k := ?_)
  refine WL.load (v := .slice A2 d.opn.length c2) (ld1 (T := 47) (i := 1) hb2 (by as_aux_lemma => kernel_rfl) (by as_aux_lemma => kernel_rfl)) (by as_aux_lemma => kernel_rfl) (by as_aux_lemma => kernel_rfl) (by as_aux_lemma => kernel_rfl) (k := ?_)
  refine WL.op (d := 15) (.int .i64 (d.opn.length : Int)) (by as_aux_lemma => kernel_rfl) (by as_aux_lemma => kernel_rfl) (by as_aux_lemma => kernel_rfl) rfl (by as_aux_lemma => kernel_rfl) (k := ?_)
  refine WL.op (d := 16) (.bool (decide (i < (d.opn.length : Int)))) (by as_aux_lemma => kernel_rfl) (by as_aux_lemma => kernel_rfl) (by as_aux_lemma => kernel_rfl) rfl (by as_aux_lemma => kernel_rfl) (k := ?_)
  refine WL.nil ?_
  refine WX.seqN ?_
  refine WC.cond (b := decide (i < (d.opn.length : Int))) (by as_aux_lemma => kernel_rfl) (ht := fun h7 => ?_) (hf := fun h7 => ?_)
  · have ph7 := of_decide_eq_true h7
    refine WC.skip ?_
    refine WX.seqN ?_
    refine WC.seq ?_
    refine WC.block ?_
    refine WC.seq ?_
    refine WC.region ?_
    refine WL.op (d := 19) (.pointer (some ⟨b, 0, none⟩)) (by as_aux_lemma => kernel_rfl) (by as_aux_lemma => kernel_rfl) (by as_aux_lemma => kernel_rfl) rfl (by as_aux_lemma => kernel_rfl) (k := ?_)
    refine WL.op (d := 20) (.pointer (some ⟨b, 0, none⟩)) (by as_aux_lemma => kernel_rfl) (by as_aux_lemma => kernel_rfl) (by as_aux_lemma => kernel_rfl) rfl (by as_aux_lemma => kernel_rfl) (k := ?_)
    refine WL.op (d := 21) (.pointer (some ⟨b, 1, none⟩)) (by as_aux_lemma => kernel_rfl) (by as_aux_lemma => kernel_rfl) (by as_aux_lemma => kernel_rfl) rfl (by as_aux_lemma => kernel_rfl) (k := ?_)
    refine WL.load (v := .slice A2 d.opn.length c2) (ld1 (T := 47) (i := 1) hb2 (by as_aux_lemma => kernel_rfl) (by as_aux_lemma => kernel_rfl)) (by as_aux_lemma => kernel_rfl) (by as_aux_lemma => kernel_rfl) (by as_aux_lemma => kernel_rfl) (k := ?_)
    refine WL.op (d := 23) (.int .i64 i) (by as_aux_lemma => kernel_rfl) (by as_aux_lemma => kernel_rfl) (by as_aux_lemma => kernel_rfl) rfl (by as_aux_lemma => kernel_rfl) (k := ?_)
    obtain ⟨b8, o9, r10, hr11, hA12, he13⟩ := SlAt.at (hb5.sl ekPut) (i := i) (by omega) (by omega)
    refine WL.rw (t := 22) (v := .slice (some ⟨b8, o9, none⟩) d.opn.length c2) (congrArg (fun a => Value.slice a d.opn.length c2) hA12) (by as_aux_lemma => kernel_rfl) (k := ?_)
    obtain ⟨w1_, w2_, w3_⟩ := ow_ _ (List.mem_of_getElem? hr11)
    refine WL.idx (T := 47) (E := 83) (m := 2) (b := b8) (o := o9) (len := d.opn.length) (cap := c2) (i := i) (kk := .i64) (d := 24) (by omega) (by omega) (by as_aux_lemma => kernel_rfl) (by as_aux_lemma => kernel_rfl) (by as_aux_lemma => kernel_rfl) (by as_aux_lemma => kernel_rfl) (by as_aux_lemma => kernel_rfl) (by as_aux_lemma => kernel_rfl) (k := ?_)
    refine WL.rw (t := 22) (v := .slice A2 d.opn.length c2) (congrArg (fun a => Value.slice a d.opn.length c2) (Eq.symm hA12)) (by as_aux_lemma => kernel_rfl) (k := ?_)
    refine WL.load (v := .agg #[.int .i64 r10.1, .string ⟨(r10.2).toArray⟩]) (he13.ldW (T := 83)) (by as_aux_lemma => kernel_rfl) (by as_aux_lemma => kernel_rfl) (by as_aux_lemma => kernel_rfl) (k := ?_)
    refine WL.new (d := 7) (T := 83) #[.int .i64 0, .string ⟨#[]⟩] (by as_aux_lemma => kernel_rfl) (by as_aux_lemma => kernel_rfl) rfl (by as_aux_lemma => kernel_rfl) (by as_aux_lemma => kernel_rfl) (k := fun b14 w15 g16 hb17 k18 => ?_)
    have z19 := Nat.le_trans K.size g16
    have n20 : b ≠ b14 := Nat.ne_of_lt (Nat.lt_of_lt_of_le (lt_of_heap hb2) g16)
    have n21 := OwAt.off_new hb3 g16
    have n22 := OwAt.off_new hb5 g16
    replace hb2 := k18.heap hb2 id
    replace hb3 := hb3.adds k18
    replace hb5 := hb5.adds k18
    replace he13 := he13.adds k18
    replace K := K.trans (k18.any _)
    refine WL.store (v := .agg #[.int .i64 r10.1, .string ⟨(r10.2).toArray⟩]) (i := 0) (cs' := #[.int .i64 r10.1, .string ⟨(r10.2).toArray⟩]) hb17 (by as_aux_lemma => kernel_rfl) (by as_aux_lemma => kernel_rfl) (by as_aux_lemma => kernel_rfl) (by as_aux_lemma => kernel_rfl) (by as_aux_lemma => kernel_rfl) (by as_aux_lemma => kernel_rfl) (by as_aux_lemma => kernel_rfl) (k := fun w23 hb24 k25 => ?_)
    replace hb2 := k25.heap hb2 n20
    replace hb3 := hb3.keeps k25 (fun i hi e => (n21) (e ▸ hi))
    replace hb5 := hb5.keeps k25 (fun i hi e => (n22) (e ▸ hi))
    replace K := K.trans' k25 (fun i hi e => absurd (e ▸ hi) (Nat.not_lt.2 z19))
    clear hb17
    refine WL.nil ?_
    refine WX.seqN ?_
    refine WC.seq ?_
    refine WC.region ?_
    refine WL.op (d := 8) (.int .i64 0) (by as_aux_lemma => kernel_rfl) (by as_aux_lemma => kernel_rfl) (by as_aux_lemma => kernel_rfl) rfl (by as_aux_lemma => kernel_rfl) (k := ?_)
    refine WL.nil ?_
    refine WX.seqN ?_
    refine WC.seq ?_
    refine WC.seq ?_
    refine WC.region ?_
    refine WL.op (d := 26) (.int .i64 i) (by as_aux_lemma => kernel_rfl) (by as_aux_lemma => kernel_rfl) (by as_aux_lemma => kernel_rfl) rfl (by as_aux_lemma => kernel_rfl) (k := ?_)
    refine WL.op (d := 27) (.slice A fs.length cf) (by as_aux_lemma => kernel_rfl) (by as_aux_lemma => kernel_rfl) (by as_aux_lemma => kernel_rfl) rfl (by as_aux_lemma => kernel_rfl) (k := ?_)
    refine WL.op (d := 28) (.int .i64 (fs.length : Int)) (by as_aux_lemma => kernel_rfl) (by as_aux_lemma => kernel_rfl) (by as_aux_lemma => kernel_rfl) rfl (by as_aux_lemma => kernel_rfl) (k := ?_)
    refine WL.op (d := 29) (.bool (decide (i < (fs.length : Int)))) (by as_aux_lemma => kernel_rfl) (by as_aux_lemma => kernel_rfl) (by as_aux_lemma => kernel_rfl) rfl (by as_aux_lemma => kernel_rfl) (k := ?_)
    refine WL.nil ?_
    refine WX.seqN ?_
    refine WC.cond (b := decide (i < (fs.length : Int))) (by as_aux_lemma => kernel_rfl) (ht := fun h26 => ?_) (hf := fun h26 => ?_)
    · have ph26 := of_decide_eq_true h26
      refine WC.seq ?_
      refine WC.region ?_
      refine WL.op (d := 30) (.slice A fs.length cf) (by as_aux_lemma => kernel_rfl) (by as_aux_lemma => kernel_rfl) (by as_aux_lemma => kernel_rfl) rfl (by as_aux_lemma => kernel_rfl) (k := ?_)
      refine WL.op (d := 31) (.int .i64 i) (by as_aux_lemma => kernel_rfl) (by as_aux_lemma => kernel_rfl) (by as_aux_lemma => kernel_rfl) rfl (by as_aux_lemma => kernel_rfl) (k := ?_)
      obtain ⟨b27, o28, r29, hr30, hA31, he32⟩ := SlAt.at hF (i := i) (by omega) (by omega)
      refine WL.rw (t := 30) (v := .slice (some ⟨b27, o28, none⟩) fs.length cf) (congrArg (fun a => Value.slice a fs.length cf) hA31) (by as_aux_lemma => kernel_rfl) (k := ?_)
      refine WL.idx (T := 33) (E := 81) (m := 2) (b := b27) (o := o28) (len := fs.length) (cap := cf) (i := i) (kk := .i64) (d := 32) (by omega) (by omega) (by as_aux_lemma => kernel_rfl) (by as_aux_lemma => kernel_rfl) (by as_aux_lemma => kernel_rfl) (by as_aux_lemma => kernel_rfl) (by as_aux_lemma => kernel_rfl) (by as_aux_lemma => kernel_rfl) (k := ?_)
      refine WL.rw (t := 30) (v := .slice A fs.length cf) (congrArg (fun a => Value.slice a fs.length cf) (Eq.symm hA31)) (by as_aux_lemma => kernel_rfl) (k := ?_)
      refine WL.op (d := 33) (.pointer (some ⟨b27, o28 + (i).toNat * 2, none⟩)) (by as_aux_lemma => kernel_rfl) (by as_aux_lemma => kernel_rfl) (by as_aux_lemma => kernel_rfl) rfl (by as_aux_lemma => kernel_rfl) (k := ?_)
      refine WL.load (v := .int .i64 r29.1) ((he32.keeps K (hFo (ne_get hr30) _ hA31)).ld0 (T := 3)) (by as_aux_lemma => kernel_rfl) (by as_aux_lemma => kernel_rfl) (by as_aux_lemma => kernel_rfl) (k := ?_)
      refine WL.bin (d := 35) (v := .int .i64 (Int.tmod r29.1 3)) (rem_run (by omega)) (by as_aux_lemma => kernel_rfl) (by as_aux_lemma => kernel_rfl) (by as_aux_lemma => kernel_rfl) (by as_aux_lemma => kernel_rfl) (by as_aux_lemma => kernel_rfl) (k := ?_)
      have m33 := tmod_rng r29.1 3 (by omega)
      obtain ⟨r34, e35⟩ : ∃ r : Int, Int.tmod r29.1 3 = r := ⟨_, rfl⟩
      rw [e35] at m33
      refine WL.rw (t := 35) (v := .int .i64 r34) (congrArg (Value.int .i64) e35) (by as_aux_lemma => kernel_rfl) (k := ?_)
      refine WL.opE (d := 36) (.int .i64 (IntKind.i64.wrap (r34 + 3))) (v := .int .i64 (r34 + 3)) (congrArg (Value.int .i64) (IntWalk.i64_in _ (by omega))) (by as_aux_lemma => kernel_rfl) (by as_aux_lemma => kernel_rfl) (by as_aux_lemma => kernel_rfl) rfl (by as_aux_lemma => kernel_rfl) (k := ?_)
      refine WL.bin (d := 37) (v := .int .i64 (Int.tmod (r34 + 3) 3)) (rem_run (by omega)) (by as_aux_lemma => kernel_rfl) (by as_aux_lemma => kernel_rfl) (by as_aux_lemma => kernel_rfl) (by as_aux_lemma => kernel_rfl) (by as_aux_lemma => kernel_rfl) (k := ?_)
      have m36 := tmod_rng (r34 + 3) 3 (by omega)
      obtain ⟨r37, e38⟩ : ∃ r : Int, Int.tmod (r34 + 3) 3 = r := ⟨_, rfl⟩
      rw [e38] at m36
      refine WL.rw (t := 37) (v := .int .i64 r37) (congrArg (Value.int .i64) e38) (by as_aux_lemma => kernel_rfl) (k := ?_)
      refine WL.op (d := 9) (.int .i64 r37) (by as_aux_lemma => kernel_rfl) (by as_aux_lemma => kernel_rfl) (by as_aux_lemma => kernel_rfl) rfl (by as_aux_lemma => kernel_rfl) (k := ?_)
      refine WL.nil ?_
      refine WX.seqN ?_
      refine WC.seq ?_
      refine WC.seq ?_
      refine WC.region ?_
      refine WL.op (d := 38) (.int .i64 r37) (by as_aux_lemma => kernel_rfl) (by as_aux_lemma => kernel_rfl) (by as_aux_lemma => kernel_rfl) rfl (by as_aux_lemma => kernel_rfl) (k := ?_)
      refine WL.op (d := 39) (.bool (r37 == 1)) (by as_aux_lemma => kernel_rfl) (by as_aux_lemma => kernel_rfl) (by as_aux_lemma => kernel_rfl) rfl (by as_aux_lemma => kernel_rfl) (k := ?_)
      refine WL.nil ?_
      refine WX.seqN ?_
      refine WC.cond (b := r37 == 1) (by as_aux_lemma => kernel_rfl) (ht := fun h39 => ?_) (hf := fun h39 => ?_)
      · have ph39 := eq_of_beq h39
        have h40 : (r37 != 1) = false := bne_eq_false_iff_eq.2 (by omega)
        have h41 : (r37 == 2) = false := beq_eq_false_iff_ne.2 (by omega)
        have h42 : (r37 != 2) = true := bne_iff_ne.2 (by omega)
        have h43 : (r37 == 8) = false := beq_eq_false_iff_ne.2 (by omega)
        have h44 : (r37 != 8) = true := bne_iff_ne.2 (by omega)
        have h45 : (r37 == 9) = false := beq_eq_false_iff_ne.2 (by omega)
        have h46 : (r37 != 9) = true := bne_iff_ne.2 (by omega)
        refine WC.region ?_
        refine WL.op (d := 8) (.int .i64 64) (by as_aux_lemma => kernel_rfl) (by as_aux_lemma => kernel_rfl) (by as_aux_lemma => kernel_rfl) rfl (by as_aux_lemma => kernel_rfl) (k := ?_)
        refine WL.nil ?_
        refine WX.seqN ?_
        refine WC.seq ?_
        refine WC.region ?_
        refine WL.op (d := 40) (.int .i64 r37) (by as_aux_lemma => kernel_rfl) (by as_aux_lemma => kernel_rfl) (by as_aux_lemma => kernel_rfl) rfl (by as_aux_lemma => kernel_rfl) (k := ?_)
        refine WL.op (d := 41) (.bool (r37 == 2)) (by as_aux_lemma => kernel_rfl) (by as_aux_lemma => kernel_rfl) (by as_aux_lemma => kernel_rfl) rfl (by as_aux_lemma => kernel_rfl) (k := ?_)
        refine WL.nil ?_
        refine WX.seqN ?_
        refine WC.rw (t := 41) (v := .bool false) (congrArg Value.bool h41) (by as_aux_lemma => kernel_rfl) (k := ?_)
        refine WC.condF (by as_aux_lemma => kernel_rfl) (k := ?_)
        refine WC.skip ?_
        refine WX.seqN ?_
        refine WC.seq ?_
        refine WC.seq ?_
        refine WC.region ?_
        refine WL.op (d := 50) (.int .i64 64) (by as_aux_lemma => kernel_rfl) (by as_aux_lemma => kernel_rfl) (by as_aux_lemma => kernel_rfl) rfl (by as_aux_lemma => kernel_rfl) (k := ?_)
        refine WL.op (d := 51) (.bool false) (by as_aux_lemma => kernel_rfl) (by as_aux_lemma => kernel_rfl) (by as_aux_lemma => kernel_rfl) rfl (by as_aux_lemma => kernel_rfl) (k := ?_)
        refine WL.nil ?_
        refine WX.seqN ?_
        refine WC.condF (by as_aux_lemma => kernel_rfl) (k := ?_)
        refine WC.skip ?_
        refine WX.seqN ?_
        refine WC.tail 22 (by kernel_rfl) (by as_aux_lemma => kernel_rfl) (k := ?_)
        refine WQ.op (d := 54) (.pointer (some ⟨b, 0, none⟩)) (by as_aux_lemma => kernel_rfl) (by as_aux_lemma => kernel_rfl) (fun _ _ => by kernel_rfl) rfl (by as_aux_lemma => kernel_rfl) (k := ?_)
        refine WQ.op (d := 55) (.pointer (some ⟨b, 0, none⟩)) (by as_aux_lemma => kernel_rfl) (by as_aux_lemma => kernel_rfl) (fun _ _ => by kernel_rfl) rfl (by as_aux_lemma => kernel_rfl) (k := ?_)
        refine WQ.op (d := 56) (.pointer (some ⟨b, 0, none⟩)) (by as_aux_lemma => kernel_rfl) (by as_aux_lemma => kernel_rfl) (fun _ _ => by kernel_rfl) rfl (by as_aux_lemma => kernel_rfl) (k := ?_)
        refine WQ.load (v := .slice A1 d.secs.length c1) (fun w_ k_ => ld1 (T := 36) (i := 0) (k_.heap hb2 id) (by as_aux_lemma => kernel_rfl) (by as_aux_lemma => kernel_rfl)) (by as_aux_lemma => kernel_rfl) (by as_aux_lemma => kernel_rfl) (by as_aux_lemma => kernel_rfl) (k := ?_)
        refine WQ.op (d := 58) (.pointer (some ⟨b14, 0, none⟩)) (by as_aux_lemma => kernel_rfl) (by as_aux_lemma => kernel_rfl) (fun _ _ => by kernel_rfl) rfl (by as_aux_lemma => kernel_rfl) (k := ?_)
        refine WQ.load (v := .int .i64 r10.1) (fun w_ k_ => ld1 (T := 3) (i := 0) (k_.heap hb24 id) (by as_aux_lemma => kernel_rfl) (by as_aux_lemma => kernel_rfl)) (by as_aux_lemma => kernel_rfl) (by as_aux_lemma => kernel_rfl) (by as_aux_lemma => kernel_rfl) (k := ?_)
        refine WQ.op (d := 60) (.pointer (some ⟨b14, 1, none⟩)) (by as_aux_lemma => kernel_rfl) (by as_aux_lemma => kernel_rfl) (fun _ _ => by kernel_rfl) rfl (by as_aux_lemma => kernel_rfl) (k := ?_)
        refine WQ.load (v := .string ⟨(r10.2).toArray⟩) (fun w_ k_ => ld1 (T := 9) (i := 1) (k_.heap hb24 id) (by as_aux_lemma => kernel_rfl) (by as_aux_lemma => kernel_rfl)) (by as_aux_lemma => kernel_rfl) (by as_aux_lemma => kernel_rfl) (by as_aux_lemma => kernel_rfl) (k := ?_)
        refine WQ.op (d := 62) (.int .i64 64) (by as_aux_lemma => kernel_rfl) (by as_aux_lemma => kernel_rfl) (fun _ _ => by kernel_rfl) rfl (by as_aux_lemma => kernel_rfl) (k := ?_)
        refine WQ.cut (d := 63) (vx := .string ⟨(r10.2).toArray⟩) (lo' := none) (hi' := (some (.int .i64 64))) (mx' := none) (v := .string ⟨(List.take 64 r10.2).toArray⟩) (fun w_ => run_cut (P := Tryz.prog) (w := w_) (lo := none) (hi := (some (.int .i64 64))) (T := 9) (a := 0) (b := 64) (l := r10.2) (by as_aux_lemma => kernel_rfl) (.inl ⟨rfl, rfl⟩) (.inr ⟨_, _, rfl, by omega⟩) (by first | omega | (simp; omega)) (by first | omega | (simp; omega))) (by as_aux_lemma => kernel_rfl) (by as_aux_lemma => kernel_rfl) (by as_aux_lemma => kernel_rfl) (by as_aux_lemma => kernel_rfl) (by as_aux_lemma => kernel_rfl) (by as_aux_lemma => kernel_rfl) (k := ?_)
        refine WQ.op (d := 64) (.pointer (some ⟨b, 0, none⟩)) (by as_aux_lemma => kernel_rfl) (by as_aux_lemma => kernel_rfl) (fun _ _ => by kernel_rfl) rfl (by as_aux_lemma => kernel_rfl) (k := ?_)
        refine WQ.op (d := 65) (.pointer (some ⟨b, 0, none⟩)) (by as_aux_lemma => kernel_rfl) (by as_aux_lemma => kernel_rfl) (fun _ _ => by kernel_rfl) rfl (by as_aux_lemma => kernel_rfl) (k := ?_)
        refine WQ.op (d := 66) (.pointer (some ⟨b, 0, none⟩)) (by as_aux_lemma => kernel_rfl) (by as_aux_lemma => kernel_rfl) (fun _ _ => by kernel_rfl) rfl (by as_aux_lemma => kernel_rfl) (k := ?_)
        refine WQ.load (v := .slice A1 d.secs.length c1) (fun w_ k_ => ld1 (T := 36) (i := 0) (k_.heap hb2 id) (by as_aux_lemma => kernel_rfl) (by as_aux_lemma => kernel_rfl)) (by as_aux_lemma => kernel_rfl) (by as_aux_lemma => kernel_rfl) (by as_aux_lemma => kernel_rfl) (k := ?_)
        refine WQ.op (d := 68) (.pointer (some ⟨b14, 0, none⟩)) (by as_aux_lemma => kernel_rfl) (by as_aux_lemma => kernel_rfl) (fun _ _ => by kernel_rfl) rfl (by as_aux_lemma => kernel_rfl) (k := ?_)
        refine WQ.load (v := .int .i64 r10.1) (fun w_ k_ => ld1 (T := 3) (i := 0) (k_.heap hb24 id) (by as_aux_lemma => kernel_rfl) (by as_aux_lemma => kernel_rfl)) (by as_aux_lemma => kernel_rfl) (by as_aux_lemma => kernel_rfl) (by as_aux_lemma => kernel_rfl) (k := ?_)
        obtain ⟨b47, o48, r49, hr50, hA51, he52⟩ := SlAt.at (hb3.sl ekStr) (i := r10.1) (by omega) (by omega)
        refine WQ.rw (t := 67) (v := .slice (some ⟨b47, o48, none⟩) d.secs.length c1) (congrArg (fun a => Value.slice a d.secs.length c1) hA51) (by as_aux_lemma => kernel_rfl) (k := ?_)
        have s1_ := crashN_all (fs := fs) ow_ os_ i.toNat _ (List.mem_of_getElem? hr50)
        refine WQ.idx (T := 36) (E := 9) (m := 1) (b := b47) (o := o48) (len := d.secs.length) (cap := c1) (i := r10.1) (kk := .i64) (d := 70) (by omega) (by omega) (by as_aux_lemma => kernel_rfl) (by as_aux_lemma => kernel_rfl) (by as_aux_lemma => kernel_rfl) (by as_aux_lemma => kernel_rfl) (by as_aux_lemma => kernel_rfl) (by as_aux_lemma => kernel_rfl) (k := ?_)
        refine WQ.rw (t := 67) (v := .slice A1 d.secs.length c1) (congrArg (fun a => Value.slice a d.secs.length c1) (Eq.symm hA51)) (by as_aux_lemma => kernel_rfl) (k := ?_)
        refine WQ.load (v := .string ⟨(r49).toArray⟩) (fun w_ k_ => (he52.adds k_).ld0 (T := 9)) (by as_aux_lemma => kernel_rfl) (by as_aux_lemma => kernel_rfl) (by as_aux_lemma => kernel_rfl) (k := ?_)
        refine WQ.op (d := 72) (.int .i64 64) (by as_aux_lemma => kernel_rfl) (by as_aux_lemma => kernel_rfl) (fun _ _ => by kernel_rfl) rfl (by as_aux_lemma => kernel_rfl) (k := ?_)
        refine WQ.cut (d := 73) (vx := .string ⟨(r49).toArray⟩) (lo' := (some (.int .i64 64))) (hi' := none) (mx' := none) (v := .string ⟨(List.drop 64 r49).toArray⟩) (fun w_ => (by have h_ := run_cut (P := Tryz.prog) (w := w_) (lo := (some (.int .i64 64))) (hi := none) (T := 9) (a := 64) (b := r49.length) (l := r49) (by as_aux_lemma => kernel_rfl) (.inr ⟨_, _, rfl, by omega⟩) (.inl ⟨rfl, rfl⟩) (by first | omega | (simp; omega)) (by first | omega | (simp; omega)); rw [List.take_length] at h_; exact h_)) (by as_aux_lemma => kernel_rfl) (by as_aux_lemma => kernel_rfl) (by as_aux_lemma => kernel_rfl) (by as_aux_lemma => kernel_rfl) (by as_aux_lemma => kernel_rfl) (by as_aux_lemma => kernel_rfl) (k := ?_)
        refine WQ.bin (d := 74) (v := .string ⟨((List.take 64 r10.2) ++ (List.drop 64 r49)).toArray⟩) (fun _ => cat_run (by simp only [List.length_take, List.length_drop]; omega)) (fun _ => by kernel_rfl) (by as_aux_lemma => kernel_rfl) (by as_aux_lemma => kernel_rfl) (by as_aux_lemma => kernel_rfl) (by as_aux_lemma => kernel_rfl) (k := ?_)
        obtain ⟨b53, o54, r55, hr56, hA57, he58⟩ := SlAt.at (hb3.sl ekStr) (i := r10.1) (by omega) (by omega)
        refine WQ.rw (t := 57) (v := .slice (some ⟨b53, o54, none⟩) d.secs.length c1) (congrArg (fun a => Value.slice a d.secs.length c1) hA57) (by as_aux_lemma => kernel_rfl) (k := ?_)
        obtain rfl : r49 = r55 := Option.some.inj (hr50.symm.trans hr56)
        have s1_ := crashN_all (fs := fs) ow_ os_ i.toNat _ (List.mem_of_getElem? hr50)
        refine WQ.idx (T := 36) (E := 9) (m := 1) (b := b53) (o := o54) (len := d.secs.length) (cap := c1) (i := r10.1) (kk := .i64) (d := 75) (by omega) (by omega) (by as_aux_lemma => kernel_rfl) (by as_aux_lemma => kernel_rfl) (by as_aux_lemma => kernel_rfl) (by as_aux_lemma => kernel_rfl) (by as_aux_lemma => kernel_rfl) (by as_aux_lemma => kernel_rfl) (k := ?_)
        refine WQ.rw (t := 57) (v := .slice A1 d.secs.length c1) (congrArg (fun a => Value.slice a d.secs.length c1) (Eq.symm hA57)) (by as_aux_lemma => kernel_rfl) (k := ?_)
        refine WQ.nilL (fun w59 k60 => ?_)
        replace hb2 := k60.heap hb2 id
        replace hb3 := hb3.adds k60
        replace hb5 := hb5.adds k60
        replace hb24 := k60.heap hb24 id
        replace he52 := he52.adds k60
        replace he58 := he58.adds k60
        replace K := K.trans (k60.any _)
        obtain ⟨w61, hs62, ho63, k64⟩ := OwAt.set (T := 9) ekStr hb3 hA57 (i := r10.1) (by omega) (by omega) ((List.take 64 r10.2) ++ (List.drop 64 r49)) (by kernel_rfl)
        refine WL.wr (v := .string ⟨((List.take 64 r10.2) ++ (List.drop 64 r49)).toArray⟩) hs62 (k := ?_)
        clear hs62
        replace hb2 := k64.heap hb2 (hb3.offT hb2 (by decide))
        replace hb5 := hb5.keeps k64 (OwAt.offOw hb5 hb3 (by decide))
        replace hb24 := k64.heap hb24 n21
        replace K := K.trans' k64 (fun i hi e => (hS i).2 (.inr (.inl e)))
        clear hb3
        refine WL.nil ?_
        refine WX.blockN ?_
        refine WX.seqN ?_
        refine WC.region ?_
        refine WL.op (d := 17) (.int .i64 i) (by as_aux_lemma => kernel_rfl) (by as_aux_lemma => kernel_rfl) (by as_aux_lemma => kernel_rfl) rfl (by as_aux_lemma => kernel_rfl) (k := ?_)
        refine WL.opE (d := 18) (.int .i64 (IntKind.i64.wrap (i + 1))) (v := .int .i64 (i + 1)) (congrArg (Value.int .i64) (IntWalk.i64_in _ (by omega))) (by as_aux_lemma => kernel_rfl) (by as_aux_lemma => kernel_rfl) (by as_aux_lemma => kernel_rfl) rfl (by as_aux_lemma => kernel_rfl) (k := ?_)
        refine WL.op (d := 6) (.int .i64 (i + 1)) (by as_aux_lemma => kernel_rfl) (by as_aux_lemma => kernel_rfl) (by as_aux_lemma => kernel_rfl) rfl (by as_aux_lemma => kernel_rfl) (k := ?_)
        refine WL.nil ?_
        refine WX.rw (t := 5) (v := .int .i64 (Prod.snd (crashN fs d.opn d.secs (i + 1).toNat))) (congrArg (Value.int .i64) (crash_l1 i0 hr11 (show fateF fs i.toNat = 64 from by rw [fateF_some hr30, leftF, show restF r29.1 3 = _ from by rw [restF, e35, e38], if_pos ph39]) (by omega))) (by as_aux_lemma => kernel_rfl) (k := ?_)
        have e65 : List.set (Prod.fst (crashN fs d.opn d.secs i.toNat)) (r10.1).toNat ((List.take 64 r10.2) ++ (List.drop 64 r49)) = Prod.fst (crashN fs d.opn d.secs (i + 1).toNat) := crash_step i0 hr11 hr50 (show fateF fs i.toNat = 64 from by rw [fateF_some hr30, leftF, show restF r29.1 3 = _ from by rw [restF, e35, e38], if_pos ph39])
        rw [e65] at ho63
        refine WX.round (i + 1) (by show (d.opn.length - (i + 1)).toNat < (d.opn.length - i).toNat; omega) ⟨(by as_aux_lemma => kernel_rfl), (by as_aux_lemma => kernel_rfl), (by as_aux_lemma => kernel_rfl), (by as_aux_lemma => kernel_rfl), (by as_aux_lemma => kernel_rfl), trivial⟩ ⟨K, hb2, ho63, hb5, (by omega), (by omega)⟩
      · have ph39 := ne_of_beq_false h39
        have h66 : (r37 != 1) = true := bne_iff_ne.2 (by omega)
        refine WC.skip ?_
        refine WX.seqN ?_
        refine WC.seq ?_
        refine WC.region ?_
        refine WL.op (d := 40) (.int .i64 r37) (by as_aux_lemma => kernel_rfl) (by as_aux_lemma => kernel_rfl) (by as_aux_lemma => kernel_rfl) rfl (by as_aux_lemma => kernel_rfl) (k := ?_)
        refine WL.op (d := 41) (.bool (r37 == 2)) (by as_aux_lemma => kernel_rfl) (by as_aux_lemma => kernel_rfl) (by as_aux_lemma => kernel_rfl) rfl (by as_aux_lemma => kernel_rfl) (k := ?_)
        refine WL.nil ?_
        refine WX.seqN ?_
        refine WC.cond (b := r37 == 2) (by as_aux_lemma => kernel_rfl) (ht := fun h67 => ?_) (hf := fun h67 => ?_)
        · have ph67 := eq_of_beq h67
          have h68 : (r37 != 2) = false := bne_eq_false_iff_eq.2 (by omega)
          have h69 : (r37 == 8) = false := beq_eq_false_iff_ne.2 (by omega)
          have h70 : (r37 != 8) = true := bne_iff_ne.2 (by omega)
          have h71 : (r37 == 9) = false := beq_eq_false_iff_ne.2 (by omega)
          have h72 : (r37 != 9) = true := bne_iff_ne.2 (by omega)
          refine WC.region ?_
          refine WL.op (d := 42) (.slice A fs.length cf) (by as_aux_lemma => kernel_rfl) (by as_aux_lemma => kernel_rfl) (by as_aux_lemma => kernel_rfl) rfl (by as_aux_lemma => kernel_rfl) (k := ?_)
          refine WL.op (d := 43) (.int .i64 i) (by as_aux_lemma => kernel_rfl) (by as_aux_lemma => kernel_rfl) (by as_aux_lemma => kernel_rfl) rfl (by as_aux_lemma => kernel_rfl) (k := ?_)
          obtain ⟨b73, o74, r75, hr76, hA77, he78⟩ := SlAt.at hF (i := i) (by omega) (by omega)
          refine WL.rw (t := 42) (v := .slice (some ⟨b73, o74, none⟩) fs.length cf) (congrArg (fun a => Value.slice a fs.length cf) hA77) (by as_aux_lemma => kernel_rfl) (k := ?_)
          obtain rfl : r29 = r75 := Option.some.inj (hr30.symm.trans hr76)
          refine WL.idx (T := 33) (E := 81) (m := 2) (b := b73) (o := o74) (len := fs.length) (cap := cf) (i := i) (kk := .i64) (d := 44) (by omega) (by omega) (by as_aux_lemma => kernel_rfl) (by as_aux_lemma => kernel_rfl) (by as_aux_lemma => kernel_rfl) (by as_aux_lemma => kernel_rfl) (by as_aux_lemma => kernel_rfl) (by as_aux_lemma => kernel_rfl) (k := ?_)
          refine WL.rw (t := 42) (v := .slice A fs.length cf) (congrArg (fun a => Value.slice a fs.length cf) (Eq.symm hA77)) (by as_aux_lemma => kernel_rfl) (k := ?_)
          refine WL.op (d := 45) (.pointer (some ⟨b73, o74 + (i).toNat * 2 + 1, none⟩)) (by as_aux_lemma => kernel_rfl) (by as_aux_lemma => kernel_rfl) (by as_aux_lemma => kernel_rfl) rfl (by as_aux_lemma => kernel_rfl) (k := ?_)
          refine WL.load (v := .int .i64 r29.2) ((he78.keeps K (hFo (ne_get hr30) _ hA77)).ldF (T := 3) (off := 1)) (by as_aux_lemma => kernel_rfl) (by as_aux_lemma => kernel_rfl) (by as_aux_lemma => kernel_rfl) (k := ?_)
          refine WL.bin (d := 47) (v := .int .i64 (Int.tmod r29.2 65)) (rem_run (by omega)) (by as_aux_lemma => kernel_rfl) (by as_aux_lemma => kernel_rfl) (by as_aux_lemma => kernel_rfl) (by as_aux_lemma => kernel_rfl) (by as_aux_lemma => kernel_rfl) (k := ?_)
          have m79 := tmod_rng r29.2 65 (by omega)
          obtain ⟨r80, e81⟩ : ∃ r : Int, Int.tmod r29.2 65 = r := ⟨_, rfl⟩
          rw [e81] at m79
          refine WL.rw (t := 47) (v := .int .i64 r80) (congrArg (Value.int .i64) e81) (by as_aux_lemma => kernel_rfl) (k := ?_)
          refine WL.opE (d := 48) (.int .i64 (IntKind.i64.wrap (r80 + 65))) (v := .int .i64 (r80 + 65)) (congrArg (Value.int .i64) (IntWalk.i64_in _ (by omega))) (by as_aux_lemma => kernel_rfl) (by as_aux_lemma => kernel_rfl) (by as_aux_lemma => kernel_rfl) rfl (by as_aux_lemma => kernel_rfl) (k := ?_)
          refine WL.bin (d := 49) (v := .int .i64 (Int.tmod (r80 + 65) 65)) (rem_run (by omega)) (by as_aux_lemma => kernel_rfl) (by as_aux_lemma => kernel_rfl) (by as_aux_lemma => kernel_rfl) (by as_aux_lemma => kernel_rfl) (by as_aux_lemma => kernel_rfl) (k := ?_)
          have m82 := tmod_rng (r80 + 65) 65 (by omega)
          obtain ⟨r83, e84⟩ : ∃ r : Int, Int.tmod (r80 + 65) 65 = r := ⟨_, rfl⟩
          rw [e84] at m82
          refine WL.rw (t := 49) (v := .int .i64 r83) (congrArg (Value.int .i64) e84) (by as_aux_lemma => kernel_rfl) (k := ?_)
          refine WL.op (d := 8) (.int .i64 r83) (by as_aux_lemma => kernel_rfl) (by as_aux_lemma => kernel_rfl) (by as_aux_lemma => kernel_rfl) rfl (by as_aux_lemma => kernel_rfl) (k := ?_)
          refine WL.nil ?_
          refine WX.seqN ?_
          refine WC.seq ?_
          refine WC.seq ?_
          refine WC.region ?_
          refine WL.op (d := 50) (.int .i64 r83) (by as_aux_lemma => kernel_rfl) (by as_aux_lemma => kernel_rfl) (by as_aux_lemma => kernel_rfl) rfl (by as_aux_lemma => kernel_rfl) (k := ?_)
          refine WL.op (d := 51) (.bool (decide (r83 < 64))) (by as_aux_lemma => kernel_rfl) (by as_aux_lemma => kernel_rfl) (by as_aux_lemma => kernel_rfl) rfl (by as_aux_lemma => kernel_rfl) (k := ?_)
          refine WL.nil ?_
          refine WX.seqN ?_
          refine WC.cond (b := decide (r83 < 64)) (by as_aux_lemma => kernel_rfl) (ht := fun h85 => ?_) (hf := fun h85 => ?_)
          · have ph85 := of_decide_eq_true h85
            refine WC.region ?_
            refine WL.op (d := 52) (.int .i64 (Prod.snd (crashN fs d.opn d.secs i.toNat))) (by as_aux_lemma => kernel_rfl) (by as_aux_lemma => kernel_rfl) (by as_aux_lemma => kernel_rfl) rfl (by as_aux_lemma => kernel_rfl) (k := ?_)
            refine WL.opE (d := 53) (.int .i64 (IntKind.i64.wrap ((Prod.snd (crashN fs d.opn d.secs i.toNat)) + 1))) (v := .int .i64 ((Prod.snd (crashN fs d.opn d.secs i.toNat)) + 1)) (congrArg (Value.int .i64) (IntWalk.i64_in _ (by omega))) (by as_aux_lemma => kernel_rfl) (by as_aux_lemma => kernel_rfl) (by as_aux_lemma => kernel_rfl) rfl (by as_aux_lemma => kernel_rfl) (k := ?_)
            refine WL.op (d := 5) (.int .i64 ((Prod.snd (crashN fs d.opn d.secs i.toNat)) + 1)) (by as_aux_lemma => kernel_rfl) (by as_aux_lemma => kernel_rfl) (by as_aux_lemma => kernel_rfl) rfl (by as_aux_lemma => kernel_rfl) (k := ?_)
            refine WL.nil ?_
            refine WX.seqN ?_
            refine WC.tail 22 (by kernel_rfl) (by as_aux_lemma => kernel_rfl) (k := ?_)
            refine WQ.op (d := 54) (.pointer (some ⟨b, 0, none⟩)) (by as_aux_lemma => kernel_rfl) (by as_aux_lemma => kernel_rfl) (fun _ _ => by kernel_rfl) rfl (by as_aux_lemma => kernel_rfl) (k := ?_)
            refine WQ.op (d := 55) (.pointer (some ⟨b, 0, none⟩)) (by as_aux_lemma => kernel_rfl) (by as_aux_lemma => kernel_rfl) (fun _ _ => by kernel_rfl) rfl (by as_aux_lemma => kernel_rfl) (k := ?_)
            refine WQ.op (d := 56) (.pointer (some ⟨b, 0, none⟩)) (by as_aux_lemma => kernel_rfl) (by as_aux_lemma => kernel_rfl) (fun _ _ => by kernel_rfl) rfl (by as_aux_lemma => kernel_rfl) (k := ?_)
            refine WQ.load (v := .slice A1 d.secs.length c1) (fun w_ k_ => ld1 (T := 36) (i := 0) (k_.heap hb2 id) (by as_aux_lemma => kernel_rfl) (by as_aux_lemma => kernel_rfl)) (by as_aux_lemma => kernel_rfl) (by as_aux_lemma => kernel_rfl) (by as_aux_lemma => kernel_rfl) (k := ?_)
            refine WQ.op (d := 58) (.pointer (some ⟨b14, 0, none⟩)) (by as_aux_lemma => kernel_rfl) (by as_aux_lemma => kernel_rfl) (fun _ _ => by kernel_rfl) rfl (by as_aux_lemma => kernel_rfl) (k := ?_)
            refine WQ.load (v := .int .i64 r10.1) (fun w_ k_ => ld1 (T := 3) (i := 0) (k_.heap hb24 id) (by as_aux_lemma => kernel_rfl) (by as_aux_lemma => kernel_rfl)) (by as_aux_lemma => kernel_rfl) (by as_aux_lemma => kernel_rfl) (by as_aux_lemma => kernel_rfl) (k := ?_)
            refine WQ.op (d := 60) (.pointer (some ⟨b14, 1, none⟩)) (by as_aux_lemma => kernel_rfl) (by as_aux_lemma => kernel_rfl) (fun _ _ => by kernel_rfl) rfl (by as_aux_lemma => kernel_rfl) (k := ?_)
            refine WQ.load (v := .string ⟨(r10.2).toArray⟩) (fun w_ k_ => ld1 (T := 9) (i := 1) (k_.heap hb24 id) (by as_aux_lemma => kernel_rfl) (by as_aux_lemma => kernel_rfl)) (by as_aux_lemma => kernel_rfl) (by as_aux_lemma => kernel_rfl) (by as_aux_lemma => kernel_rfl) (k := ?_)
            refine WQ.op (d := 62) (.int .i64 r83) (by as_aux_lemma => kernel_rfl) (by as_aux_lemma => kernel_rfl) (fun _ _ => by kernel_rfl) rfl (by as_aux_lemma => kernel_rfl) (k := ?_)
            refine WQ.cut (d := 63) (vx := .string ⟨(r10.2).toArray⟩) (lo' := none) (hi' := (some (.int .i64 r83))) (mx' := none) (v := .string ⟨(List.take r83.toNat r10.2).toArray⟩) (fun w_ => run_cut (P := Tryz.prog) (w := w_) (lo := none) (hi := (some (.int .i64 r83))) (T := 9) (a := 0) (b := r83.toNat) (l := r10.2) (by as_aux_lemma => kernel_rfl) (.inl ⟨rfl, rfl⟩) (.inr ⟨_, _, rfl, by omega⟩) (by first | omega | (simp; omega)) (by first | omega | (simp; omega))) (by as_aux_lemma => kernel_rfl) (by as_aux_lemma => kernel_rfl) (by as_aux_lemma => kernel_rfl) (by as_aux_lemma => kernel_rfl) (by as_aux_lemma => kernel_rfl) (by as_aux_lemma => kernel_rfl) (k := ?_)
            refine WQ.op (d := 64) (.pointer (some ⟨b, 0, none⟩)) (by as_aux_lemma => kernel_rfl) (by as_aux_lemma => kernel_rfl) (fun _ _ => by kernel_rfl) rfl (by as_aux_lemma => kernel_rfl) (k := ?_)
            refine WQ.op (d := 65) (.pointer (some ⟨b, 0, none⟩)) (by as_aux_lemma => kernel_rfl) (by as_aux_lemma => kernel_rfl) (fun _ _ => by kernel_rfl) rfl (by as_aux_lemma => kernel_rfl) (k := ?_)
            refine WQ.op (d := 66) (.pointer (some ⟨b, 0, none⟩)) (by as_aux_lemma => kernel_rfl) (by as_aux_lemma => kernel_rfl) (fun _ _ => by kernel_rfl) rfl (by as_aux_lemma => kernel_rfl) (k := ?_)
            refine WQ.load (v := .slice A1 d.secs.length c1) (fun w_ k_ => ld1 (T := 36) (i := 0) (k_.heap hb2 id) (by as_aux_lemma => kernel_rfl) (by as_aux_lemma => kernel_rfl)) (by as_aux_lemma => kernel_rfl) (by as_aux_lemma => kernel_rfl) (by as_aux_lemma => kernel_rfl) (k := ?_)
            refine WQ.op (d := 68) (.pointer (some ⟨b14, 0, none⟩)) (by as_aux_lemma => kernel_rfl) (by as_aux_lemma => kernel_rfl) (fun _ _ => by kernel_rfl) rfl (by as_aux_lemma => kernel_rfl) (k := ?_)
            refine WQ.load (v := .int .i64 r10.1) (fun w_ k_ => ld1 (T := 3) (i := 0) (k_.heap hb24 id) (by as_aux_lemma => kernel_rfl) (by as_aux_lemma => kernel_rfl)) (by as_aux_lemma => kernel_rfl) (by as_aux_lemma => kernel_rfl) (by as_aux_lemma => kernel_rfl) (k := ?_)
            obtain ⟨b86, o87, r88, hr89, hA90, he91⟩ := SlAt.at (hb3.sl ekStr) (i := r10.1) (by omega) (by omega)
            refine WQ.rw (t := 67) (v := .slice (some ⟨b86, o87, none⟩) d.secs.length c1) (congrArg (fun a => Value.slice a d.secs.length c1) hA90) (by as_aux_lemma => kernel_rfl) (k := ?_)
            have s1_ := crashN_all (fs := fs) ow_ os_ i.toNat _ (List.mem_of_getElem? hr89)
            refine WQ.idx (T := 36) (E := 9) (m := 1) (b := b86) (o := o87) (len := d.secs.length) (cap := c1) (i := r10.1) (kk := .i64) (d := 70) (by omega) (by omega) (by as_aux_lemma => kernel_rfl) (by as_aux_lemma => kernel_rfl) (by as_aux_lemma => kernel_rfl) (by as_aux_lemma => kernel_rfl) (by as_aux_lemma => kernel_rfl) (by as_aux_lemma => kernel_rfl) (k := ?_)
            refine WQ.rw (t := 67) (v := .slice A1 d.secs.length c1) (congrArg (fun a => Value.slice a d.secs.length c1) (Eq.symm hA90)) (by as_aux_lemma => kernel_rfl) (k := ?_)
            refine WQ.load (v := .string ⟨(r88).toArray⟩) (fun w_ k_ => (he91.adds k_).ld0 (T := 9)) (by as_aux_lemma => kernel_rfl) (by as_aux_lemma => kernel_rfl) (by as_aux_lemma => kernel_rfl) (k := ?_)
            refine WQ.op (d := 72) (.int .i64 r83) (by as_aux_lemma => kernel_rfl) (by as_aux_lemma => kernel_rfl) (fun _ _ => by kernel_rfl) rfl (by as_aux_lemma => kernel_rfl) (k := ?_)
            refine WQ.cut (d := 73) (vx := .string ⟨(r88).toArray⟩) (lo' := (some (.int .i64 r83))) (hi' := none) (mx' := none) (v := .string ⟨(List.drop r83.toNat r88).toArray⟩) (fun w_ => (by have h_ := run_cut (P := Tryz.prog) (w := w_) (lo := (some (.int .i64 r83))) (hi := none) (T := 9) (a := r83.toNat) (b := r88.length) (l := r88) (by as_aux_lemma => kernel_rfl) (.inr ⟨_, _, rfl, by omega⟩) (.inl ⟨rfl, rfl⟩) (by first | omega | (simp; omega)) (by first | omega | (simp; omega)); rw [List.take_length] at h_; exact h_)) (by as_aux_lemma => kernel_rfl) (by as_aux_lemma => kernel_rfl) (by as_aux_lemma => kernel_rfl) (by as_aux_lemma => kernel_rfl) (by as_aux_lemma => kernel_rfl) (by as_aux_lemma => kernel_rfl) (k := ?_)
            refine WQ.bin (d := 74) (v := .string ⟨((List.take r83.toNat r10.2) ++ (List.drop r83.toNat r88)).toArray⟩) (fun _ => cat_run (by simp only [List.length_take, List.length_drop]; omega)) (fun _ => by kernel_rfl) (by as_aux_lemma => kernel_rfl) (by as_aux_lemma => kernel_rfl) (by as_aux_lemma => kernel_rfl) (by as_aux_lemma => kernel_rfl) (k := ?_)
            obtain ⟨b92, o93, r94, hr95, hA96, he97⟩ := SlAt.at (hb3.sl ekStr) (i := r10.1) (by omega) (by omega)
            refine WQ.rw (t := 57) (v := .slice (some ⟨b92, o93, none⟩) d.secs.length c1) (congrArg (fun a => Value.slice a d.secs.length c1) hA96) (by as_aux_lemma => kernel_rfl) (k := ?_)
            obtain rfl : r88 = r94 := Option.some.inj (hr89.symm.trans hr95)
            have s1_ := crashN_all (fs := fs) ow_ os_ i.toNat _ (List.mem_of_getElem? hr89)
            refine WQ.idx (T := 36) (E := 9) (m := 1) (b := b92) (o := o93) (len := d.secs.length) (cap := c1) (i := r10.1) (kk := .i64) (d := 75) (by omega) (by omega) (by as_aux_lemma => kernel_rfl) (by as_aux_lemma => kernel_rfl) (by as_aux_lemma => kernel_rfl) (by as_aux_lemma => kernel_rfl) (by as_aux_lemma => kernel_rfl) (by as_aux_lemma => kernel_rfl) (k := ?_)
            refine WQ.rw (t := 57) (v := .slice A1 d.secs.length c1) (congrArg (fun a => Value.slice a d.secs.length c1) (Eq.symm hA96)) (by as_aux_lemma => kernel_rfl) (k := ?_)
            refine WQ.nilL (fun w98 k99 => ?_)
            replace hb2 := k99.heap hb2 id
            replace hb3 := hb3.adds k99
            replace hb5 := hb5.adds k99
            replace hb24 := k99.heap hb24 id
            replace he91 := he91.adds k99
            replace he97 := he97.adds k99
            replace K := K.trans (k99.any _)
            obtain ⟨w100, hs101, ho102, k103⟩ := OwAt.set (T := 9) ekStr hb3 hA96 (i := r10.1) (by omega) (by omega) ((List.take r83.toNat r10.2) ++ (List.drop r83.toNat r88)) (by kernel_rfl)
            refine WL.wr (v := .string ⟨((List.take r83.toNat r10.2) ++ (List.drop r83.toNat r88)).toArray⟩) hs101 (k := ?_)
            clear hs101
            replace hb2 := k103.heap hb2 (hb3.offT hb2 (by decide))
            replace hb5 := hb5.keeps k103 (OwAt.offOw hb5 hb3 (by decide))
            replace hb24 := k103.heap hb24 n21
            replace K := K.trans' k103 (fun i hi e => (hS i).2 (.inr (.inl e)))
            clear hb3
            refine WL.nil ?_
            refine WX.blockN ?_
            refine WX.seqN ?_
            refine WC.region ?_
            refine WL.op (d := 17) (.int .i64 i) (by as_aux_lemma => kernel_rfl) (by as_aux_lemma => kernel_rfl) (by as_aux_lemma => kernel_rfl) rfl (by as_aux_lemma => kernel_rfl) (k := ?_)
            refine WL.opE (d := 18) (.int .i64 (IntKind.i64.wrap (i + 1))) (v := .int .i64 (i + 1)) (congrArg (Value.int .i64) (IntWalk.i64_in _ (by omega))) (by as_aux_lemma => kernel_rfl) (by as_aux_lemma => kernel_rfl) (by as_aux_lemma => kernel_rfl) rfl (by as_aux_lemma => kernel_rfl) (k := ?_)
            refine WL.op (d := 6) (.int .i64 (i + 1)) (by as_aux_lemma => kernel_rfl) (by as_aux_lemma => kernel_rfl) (by as_aux_lemma => kernel_rfl) rfl (by as_aux_lemma => kernel_rfl) (k := ?_)
            refine WL.nil ?_
            refine WX.rw (t := 5) (v := .int .i64 (Prod.snd (crashN fs d.opn d.secs (i + 1).toNat))) (congrArg (Value.int .i64) (crash_l2 i0 hr11 (show fateF fs i.toNat = r83 from by rw [fateF_some hr30, leftF, show restF r29.1 3 = _ from by rw [restF, e35, e38], if_neg ph39, if_pos ph67, restF, e81, e84]) (by omega))) (by as_aux_lemma => kernel_rfl) (k := ?_)
            have e104 : List.set (Prod.fst (crashN fs d.opn d.secs i.toNat)) (r10.1).toNat ((List.take r83.toNat r10.2) ++ (List.drop r83.toNat r88)) = Prod.fst (crashN fs d.opn d.secs (i + 1).toNat) := crash_step i0 hr11 hr89 (show fateF fs i.toNat = r83 from by rw [fateF_some hr30, leftF, show restF r29.1 3 = _ from by rw [restF, e35, e38], if_neg ph39, if_pos ph67, restF, e81, e84])
            rw [e104] at ho102
            refine WX.round (i + 1) (by show (d.opn.length - (i + 1)).toNat < (d.opn.length - i).toNat; omega) ⟨(by as_aux_lemma => kernel_rfl), (by as_aux_lemma => kernel_rfl), (by as_aux_lemma => kernel_rfl), (by as_aux_lemma => kernel_rfl), (by as_aux_lemma => kernel_rfl), trivial⟩ ⟨K, hb2, ho102, hb5, (by omega), (by omega)⟩
          · have ph85 := of_decide_eq_false h85
            refine WC.skip ?_
            refine WX.seqN ?_
            refine WC.tail 22 (by kernel_rfl) (by as_aux_lemma => kernel_rfl) (k := ?_)
            refine WQ.op (d := 54) (.pointer (some ⟨b, 0, none⟩)) (by as_aux_lemma => kernel_rfl) (by as_aux_lemma => kernel_rfl) (fun _ _ => by kernel_rfl) rfl (by as_aux_lemma => kernel_rfl) (k := ?_)
            refine WQ.op (d := 55) (.pointer (some ⟨b, 0, none⟩)) (by as_aux_lemma => kernel_rfl) (by as_aux_lemma => kernel_rfl) (fun _ _ => by kernel_rfl) rfl (by as_aux_lemma => kernel_rfl) (k := ?_)
            refine WQ.op (d := 56) (.pointer (some ⟨b, 0, none⟩)) (by as_aux_lemma => kernel_rfl) (by as_aux_lemma => kernel_rfl) (fun _ _ => by kernel_rfl) rfl (by as_aux_lemma => kernel_rfl) (k := ?_)
            refine WQ.load (v := .slice A1 d.secs.length c1) (fun w_ k_ => ld1 (T := 36) (i := 0) (k_.heap hb2 id) (by as_aux_lemma => kernel_rfl) (by as_aux_lemma => kernel_rfl)) (by as_aux_lemma => kernel_rfl) (by as_aux_lemma => kernel_rfl) (by as_aux_lemma => kernel_rfl) (k := ?_)
            refine WQ.op (d := 58) (.pointer (some ⟨b14, 0, none⟩)) (by as_aux_lemma => kernel_rfl) (by as_aux_lemma => kernel_rfl) (fun _ _ => by kernel_rfl) rfl (by as_aux_lemma => kernel_rfl) (k := ?_)
            refine WQ.load (v := .int .i64 r10.1) (fun w_ k_ => ld1 (T := 3) (i := 0) (k_.heap hb24 id) (by as_aux_lemma => kernel_rfl) (by as_aux_lemma => kernel_rfl)) (by as_aux_lemma => kernel_rfl) (by as_aux_lemma => kernel_rfl) (by as_aux_lemma => kernel_rfl) (k := ?_)
            refine WQ.op (d := 60) (.pointer (some ⟨b14, 1, none⟩)) (by as_aux_lemma => kernel_rfl) (by as_aux_lemma => kernel_rfl) (fun _ _ => by kernel_rfl) rfl (by as_aux_lemma => kernel_rfl) (k := ?_)
            refine WQ.load (v := .string ⟨(r10.2).toArray⟩) (fun w_ k_ => ld1 (T := 9) (i := 1) (k_.heap hb24 id) (by as_aux_lemma => kernel_rfl) (by as_aux_lemma => kernel_rfl)) (by as_aux_lemma => kernel_rfl) (by as_aux_lemma => kernel_rfl) (by as_aux_lemma => kernel_rfl) (k := ?_)
            refine WQ.op (d := 62) (.int .i64 r83) (by as_aux_lemma => kernel_rfl) (by as_aux_lemma => kernel_rfl) (fun _ _ => by kernel_rfl) rfl (by as_aux_lemma => kernel_rfl) (k := ?_)
            refine WQ.cut (d := 63) (vx := .string ⟨(r10.2).toArray⟩) (lo' := none) (hi' := (some (.int .i64 r83))) (mx' := none) (v := .string ⟨(List.take r83.toNat r10.2).toArray⟩) (fun w_ => run_cut (P := Tryz.prog) (w := w_) (lo := none) (hi := (some (.int .i64 r83))) (T := 9) (a := 0) (b := r83.toNat) (l := r10.2) (by as_aux_lemma => kernel_rfl) (.inl ⟨rfl, rfl⟩) (.inr ⟨_, _, rfl, by omega⟩) (by first | omega | (simp; omega)) (by first | omega | (simp; omega))) (by as_aux_lemma => kernel_rfl) (by as_aux_lemma => kernel_rfl) (by as_aux_lemma => kernel_rfl) (by as_aux_lemma => kernel_rfl) (by as_aux_lemma => kernel_rfl) (by as_aux_lemma => kernel_rfl) (k := ?_)
            refine WQ.op (d := 64) (.pointer (some ⟨b, 0, none⟩)) (by as_aux_lemma => kernel_rfl) (by as_aux_lemma => kernel_rfl) (fun _ _ => by kernel_rfl) rfl (by as_aux_lemma => kernel_rfl) (k := ?_)
            refine WQ.op (d := 65) (.pointer (some ⟨b, 0, none⟩)) (by as_aux_lemma => kernel_rfl) (by as_aux_lemma => kernel_rfl) (fun _ _ => by kernel_rfl) rfl (by as_aux_lemma => kernel_rfl) (k := ?_)
            refine WQ.op (d := 66) (.pointer (some ⟨b, 0, none⟩)) (by as_aux_lemma => kernel_rfl) (by as_aux_lemma => kernel_rfl) (fun _ _ => by kernel_rfl) rfl (by as_aux_lemma => kernel_rfl) (k := ?_)
            refine WQ.load (v := .slice A1 d.secs.length c1) (fun w_ k_ => ld1 (T := 36) (i := 0) (k_.heap hb2 id) (by as_aux_lemma => kernel_rfl) (by as_aux_lemma => kernel_rfl)) (by as_aux_lemma => kernel_rfl) (by as_aux_lemma => kernel_rfl) (by as_aux_lemma => kernel_rfl) (k := ?_)
            refine WQ.op (d := 68) (.pointer (some ⟨b14, 0, none⟩)) (by as_aux_lemma => kernel_rfl) (by as_aux_lemma => kernel_rfl) (fun _ _ => by kernel_rfl) rfl (by as_aux_lemma => kernel_rfl) (k := ?_)
            refine WQ.load (v := .int .i64 r10.1) (fun w_ k_ => ld1 (T := 3) (i := 0) (k_.heap hb24 id) (by as_aux_lemma => kernel_rfl) (by as_aux_lemma => kernel_rfl)) (by as_aux_lemma => kernel_rfl) (by as_aux_lemma => kernel_rfl) (by as_aux_lemma => kernel_rfl) (k := ?_)
            obtain ⟨b105, o106, r107, hr108, hA109, he110⟩ := SlAt.at (hb3.sl ekStr) (i := r10.1) (by omega) (by omega)
            refine WQ.rw (t := 67) (v := .slice (some ⟨b105, o106, none⟩) d.secs.length c1) (congrArg (fun a => Value.slice a d.secs.length c1) hA109) (by as_aux_lemma => kernel_rfl) (k := ?_)
            have s1_ := crashN_all (fs := fs) ow_ os_ i.toNat _ (List.mem_of_getElem? hr108)
            refine WQ.idx (T := 36) (E := 9) (m := 1) (b := b105) (o := o106) (len := d.secs.length) (cap := c1) (i := r10.1) (kk := .i64) (d := 70) (by omega) (by omega) (by as_aux_lemma => kernel_rfl) (by as_aux_lemma => kernel_rfl) (by as_aux_lemma => kernel_rfl) (by as_aux_lemma => kernel_rfl) (by as_aux_lemma => kernel_rfl) (by as_aux_lemma => kernel_rfl) (k := ?_)
            refine WQ.rw (t := 67) (v := .slice A1 d.secs.length c1) (congrArg (fun a => Value.slice a d.secs.length c1) (Eq.symm hA109)) (by as_aux_lemma => kernel_rfl) (k := ?_)
            refine WQ.load (v := .string ⟨(r107).toArray⟩) (fun w_ k_ => (he110.adds k_).ld0 (T := 9)) (by as_aux_lemma => kernel_rfl) (by as_aux_lemma => kernel_rfl) (by as_aux_lemma => kernel_rfl) (k := ?_)
            refine WQ.op (d := 72) (.int .i64 r83) (by as_aux_lemma => kernel_rfl) (by as_aux_lemma => kernel_rfl) (fun _ _ => by kernel_rfl) rfl (by as_aux_lemma => kernel_rfl) (k := ?_)
            refine WQ.cut (d := 73) (vx := .string ⟨(r107).toArray⟩) (lo' := (some (.int .i64 r83))) (hi' := none) (mx' := none) (v := .string ⟨(List.drop r83.toNat r107).toArray⟩) (fun w_ => (by have h_ := run_cut (P := Tryz.prog) (w := w_) (lo := (some (.int .i64 r83))) (hi := none) (T := 9) (a := r83.toNat) (b := r107.length) (l := r107) (by as_aux_lemma => kernel_rfl) (.inr ⟨_, _, rfl, by omega⟩) (.inl ⟨rfl, rfl⟩) (by first | omega | (simp; omega)) (by first | omega | (simp; omega)); rw [List.take_length] at h_; exact h_)) (by as_aux_lemma => kernel_rfl) (by as_aux_lemma => kernel_rfl) (by as_aux_lemma => kernel_rfl) (by as_aux_lemma => kernel_rfl) (by as_aux_lemma => kernel_rfl) (by as_aux_lemma => kernel_rfl) (k := ?_)
            refine WQ.bin (d := 74) (v := .string ⟨((List.take r83.toNat r10.2) ++ (List.drop r83.toNat r107)).toArray⟩) (fun _ => cat_run (by simp only [List.length_take, List.length_drop]; omega)) (fun _ => by kernel_rfl) (by as_aux_lemma => kernel_rfl) (by as_aux_lemma => kernel_rfl) (by as_aux_lemma => kernel_rfl) (by as_aux_lemma => kernel_rfl) (k := ?_)
            obtain ⟨b111, o112, r113, hr114, hA115, he116⟩ := SlAt.at (hb3.sl ekStr) (i := r10.1) (by omega) (by omega)
            refine WQ.rw (t := 57) (v := .slice (some ⟨b111, o112, none⟩) d.secs.length c1) (congrArg (fun a => Value.slice a d.secs.length c1) hA115) (by as_aux_lemma => kernel_rfl) (k := ?_)
            obtain rfl : r107 = r113 := Option.some.inj (hr108.symm.trans hr114)
            have s1_ := crashN_all (fs := fs) ow_ os_ i.toNat _ (List.mem_of_getElem? hr108)
            refine WQ.idx (T := 36) (E := 9) (m := 1) (b := b111) (o := o112) (len := d.secs.length) (cap := c1) (i := r10.1) (kk := .i64) (d := 75) (by omega) (by omega) (by as_aux_lemma => kernel_rfl) (by as_aux_lemma => kernel_rfl) (by as_aux_lemma => kernel_rfl) (by as_aux_lemma => kernel_rfl) (by as_aux_lemma => kernel_rfl) (by as_aux_lemma => kernel_rfl) (k := ?_)
            refine WQ.rw (t := 57) (v := .slice A1 d.secs.length c1) (congrArg (fun a => Value.slice a d.secs.length c1) (Eq.symm hA115)) (by as_aux_lemma => kernel_rfl) (k := ?_)
            refine WQ.nilL (fun w117 k118 => ?_)
            replace hb2 := k118.heap hb2 id
            replace hb3 := hb3.adds k118
            replace hb5 := hb5.adds k118
            replace hb24 := k118.heap hb24 id
            replace he110 := he110.adds k118
            replace he116 := he116.adds k118
            replace K := K.trans (k118.any _)
            obtain ⟨w119, hs120, ho121, k122⟩ := OwAt.set (T := 9) ekStr hb3 hA115 (i := r10.1) (by omega) (by omega) ((List.take r83.toNat r10.2) ++ (List.drop r83.toNat r107)) (by kernel_rfl)
            refine WL.wr (v := .string ⟨((List.take r83.toNat r10.2) ++ (List.drop r83.toNat r107)).toArray⟩) hs120 (k := ?_)
            clear hs120
            replace hb2 := k122.heap hb2 (hb3.offT hb2 (by decide))
            replace hb5 := hb5.keeps k122 (OwAt.offOw hb5 hb3 (by decide))
            replace hb24 := k122.heap hb24 n21
            replace K := K.trans' k122 (fun i hi e => (hS i).2 (.inr (.inl e)))
            clear hb3
            refine WL.nil ?_
            refine WX.blockN ?_
            refine WX.seqN ?_
            refine WC.region ?_
            refine WL.op (d := 17) (.int .i64 i) (by as_aux_lemma => kernel_rfl) (by as_aux_lemma => kernel_rfl) (by as_aux_lemma => kernel_rfl) rfl (by as_aux_lemma => kernel_rfl) (k := ?_)
            refine WL.opE (d := 18) (.int .i64 (IntKind.i64.wrap (i + 1))) (v := .int .i64 (i + 1)) (congrArg (Value.int .i64) (IntWalk.i64_in _ (by omega))) (by as_aux_lemma => kernel_rfl) (by as_aux_lemma => kernel_rfl) (by as_aux_lemma => kernel_rfl) rfl (by as_aux_lemma => kernel_rfl) (k := ?_)
            refine WL.op (d := 6) (.int .i64 (i + 1)) (by as_aux_lemma => kernel_rfl) (by as_aux_lemma => kernel_rfl) (by as_aux_lemma => kernel_rfl) rfl (by as_aux_lemma => kernel_rfl) (k := ?_)
            refine WL.nil ?_
            refine WX.rw (t := 5) (v := .int .i64 (Prod.snd (crashN fs d.opn d.secs (i + 1).toNat))) (congrArg (Value.int .i64) (crash_l1 i0 hr11 (show fateF fs i.toNat = r83 from by rw [fateF_some hr30, leftF, show restF r29.1 3 = _ from by rw [restF, e35, e38], if_neg ph39, if_pos ph67, restF, e81, e84]) (by omega))) (by as_aux_lemma => kernel_rfl) (k := ?_)
            have e123 : List.set (Prod.fst (crashN fs d.opn d.secs i.toNat)) (r10.1).toNat ((List.take r83.toNat r10.2) ++ (List.drop r83.toNat r107)) = Prod.fst (crashN fs d.opn d.secs (i + 1).toNat) := crash_step i0 hr11 hr108 (show fateF fs i.toNat = r83 from by rw [fateF_some hr30, leftF, show restF r29.1 3 = _ from by rw [restF, e35, e38], if_neg ph39, if_pos ph67, restF, e81, e84])
            rw [e123] at ho121
            refine WX.round (i + 1) (by show (d.opn.length - (i + 1)).toNat < (d.opn.length - i).toNat; omega) ⟨(by as_aux_lemma => kernel_rfl), (by as_aux_lemma => kernel_rfl), (by as_aux_lemma => kernel_rfl), (by as_aux_lemma => kernel_rfl), (by as_aux_lemma => kernel_rfl), trivial⟩ ⟨K, hb2, ho121, hb5, (by omega), (by omega)⟩
        · have ph67 := ne_of_beq_false h67
          have h124 : (r37 != 2) = true := bne_iff_ne.2 (by omega)
          refine WC.skip ?_
          refine WX.seqN ?_
          refine WC.seq ?_
          refine WC.seq ?_
          refine WC.region ?_
          refine WL.op (d := 50) (.int .i64 0) (by as_aux_lemma => kernel_rfl) (by as_aux_lemma => kernel_rfl) (by as_aux_lemma => kernel_rfl) rfl (by as_aux_lemma => kernel_rfl) (k := ?_)
          refine WL.op (d := 51) (.bool true) (by as_aux_lemma => kernel_rfl) (by as_aux_lemma => kernel_rfl) (by as_aux_lemma => kernel_rfl) rfl (by as_aux_lemma => kernel_rfl) (k := ?_)
          refine WL.nil ?_
          refine WX.seqN ?_
          refine WC.condT (by as_aux_lemma => kernel_rfl) (k := ?_)
          refine WC.region ?_
          refine WL.op (d := 52) (.int .i64 (Prod.snd (crashN fs d.opn d.secs i.toNat))) (by as_aux_lemma => kernel_rfl) (by as_aux_lemma => kernel_rfl) (by as_aux_lemma => kernel_rfl) rfl (by as_aux_lemma => kernel_rfl) (k := ?_)
          refine WL.opE (d := 53) (.int .i64 (IntKind.i64.wrap ((Prod.snd (crashN fs d.opn d.secs i.toNat)) + 1))) (v := .int .i64 ((Prod.snd (crashN fs d.opn d.secs i.toNat)) + 1)) (congrArg (Value.int .i64) (IntWalk.i64_in _ (by omega))) (by as_aux_lemma => kernel_rfl) (by as_aux_lemma => kernel_rfl) (by as_aux_lemma => kernel_rfl) rfl (by as_aux_lemma => kernel_rfl) (k := ?_)
          refine WL.op (d := 5) (.int .i64 ((Prod.snd (crashN fs d.opn d.secs i.toNat)) + 1)) (by as_aux_lemma => kernel_rfl) (by as_aux_lemma => kernel_rfl) (by as_aux_lemma => kernel_rfl) rfl (by as_aux_lemma => kernel_rfl) (k := ?_)
          refine WL.nil ?_
          refine WX.seqN ?_
          refine WC.tail 22 (by kernel_rfl) (by as_aux_lemma => kernel_rfl) (k := ?_)
          refine WQ.op (d := 54) (.pointer (some ⟨b, 0, none⟩)) (by as_aux_lemma => kernel_rfl) (by as_aux_lemma => kernel_rfl) (fun _ _ => by kernel_rfl) rfl (by as_aux_lemma => kernel_rfl) (k := ?_)
          refine WQ.op (d := 55) (.pointer (some ⟨b, 0, none⟩)) (by as_aux_lemma => kernel_rfl) (by as_aux_lemma => kernel_rfl) (fun _ _ => by kernel_rfl) rfl (by as_aux_lemma => kernel_rfl) (k := ?_)
          refine WQ.op (d := 56) (.pointer (some ⟨b, 0, none⟩)) (by as_aux_lemma => kernel_rfl) (by as_aux_lemma => kernel_rfl) (fun _ _ => by kernel_rfl) rfl (by as_aux_lemma => kernel_rfl) (k := ?_)
          refine WQ.load (v := .slice A1 d.secs.length c1) (fun w_ k_ => ld1 (T := 36) (i := 0) (k_.heap hb2 id) (by as_aux_lemma => kernel_rfl) (by as_aux_lemma => kernel_rfl)) (by as_aux_lemma => kernel_rfl) (by as_aux_lemma => kernel_rfl) (by as_aux_lemma => kernel_rfl) (k := ?_)
          refine WQ.op (d := 58) (.pointer (some ⟨b14, 0, none⟩)) (by as_aux_lemma => kernel_rfl) (by as_aux_lemma => kernel_rfl) (fun _ _ => by kernel_rfl) rfl (by as_aux_lemma => kernel_rfl) (k := ?_)
          refine WQ.load (v := .int .i64 r10.1) (fun w_ k_ => ld1 (T := 3) (i := 0) (k_.heap hb24 id) (by as_aux_lemma => kernel_rfl) (by as_aux_lemma => kernel_rfl)) (by as_aux_lemma => kernel_rfl) (by as_aux_lemma => kernel_rfl) (by as_aux_lemma => kernel_rfl) (k := ?_)
          refine WQ.op (d := 60) (.pointer (some ⟨b14, 1, none⟩)) (by as_aux_lemma => kernel_rfl) (by as_aux_lemma => kernel_rfl) (fun _ _ => by kernel_rfl) rfl (by as_aux_lemma => kernel_rfl) (k := ?_)
          refine WQ.load (v := .string ⟨(r10.2).toArray⟩) (fun w_ k_ => ld1 (T := 9) (i := 1) (k_.heap hb24 id) (by as_aux_lemma => kernel_rfl) (by as_aux_lemma => kernel_rfl)) (by as_aux_lemma => kernel_rfl) (by as_aux_lemma => kernel_rfl) (by as_aux_lemma => kernel_rfl) (k := ?_)
          refine WQ.op (d := 62) (.int .i64 0) (by as_aux_lemma => kernel_rfl) (by as_aux_lemma => kernel_rfl) (fun _ _ => by kernel_rfl) rfl (by as_aux_lemma => kernel_rfl) (k := ?_)
          refine WQ.cut (d := 63) (vx := .string ⟨(r10.2).toArray⟩) (lo' := none) (hi' := (some (.int .i64 0))) (mx' := none) (v := .string ⟨(List.take 0 r10.2).toArray⟩) (fun w_ => run_cut (P := Tryz.prog) (w := w_) (lo := none) (hi := (some (.int .i64 0))) (T := 9) (a := 0) (b := 0) (l := r10.2) (by as_aux_lemma => kernel_rfl) (.inl ⟨rfl, rfl⟩) (.inr ⟨_, _, rfl, by omega⟩) (by first | omega | (simp; omega)) (by first | omega | (simp; omega))) (by as_aux_lemma => kernel_rfl) (by as_aux_lemma => kernel_rfl) (by as_aux_lemma => kernel_rfl) (by as_aux_lemma => kernel_rfl) (by as_aux_lemma => kernel_rfl) (by as_aux_lemma => kernel_rfl) (k := ?_)
          refine WQ.op (d := 64) (.pointer (some ⟨b, 0, none⟩)) (by as_aux_lemma => kernel_rfl) (by as_aux_lemma => kernel_rfl) (fun _ _ => by kernel_rfl) rfl (by as_aux_lemma => kernel_rfl) (k := ?_)
          refine WQ.op (d := 65) (.pointer (some ⟨b, 0, none⟩)) (by as_aux_lemma => kernel_rfl) (by as_aux_lemma => kernel_rfl) (fun _ _ => by kernel_rfl) rfl (by as_aux_lemma => kernel_rfl) (k := ?_)
          refine WQ.op (d := 66) (.pointer (some ⟨b, 0, none⟩)) (by as_aux_lemma => kernel_rfl) (by as_aux_lemma => kernel_rfl) (fun _ _ => by kernel_rfl) rfl (by as_aux_lemma => kernel_rfl) (k := ?_)
          refine WQ.load (v := .slice A1 d.secs.length c1) (fun w_ k_ => ld1 (T := 36) (i := 0) (k_.heap hb2 id) (by as_aux_lemma => kernel_rfl) (by as_aux_lemma => kernel_rfl)) (by as_aux_lemma => kernel_rfl) (by as_aux_lemma => kernel_rfl) (by as_aux_lemma => kernel_rfl) (k := ?_)
          refine WQ.op (d := 68) (.pointer (some ⟨b14, 0, none⟩)) (by as_aux_lemma => kernel_rfl) (by as_aux_lemma => kernel_rfl) (fun _ _ => by kernel_rfl) rfl (by as_aux_lemma => kernel_rfl) (k := ?_)
          refine WQ.load (v := .int .i64 r10.1) (fun w_ k_ => ld1 (T := 3) (i := 0) (k_.heap hb24 id) (by as_aux_lemma => kernel_rfl) (by as_aux_lemma => kernel_rfl)) (by as_aux_lemma => kernel_rfl) (by as_aux_lemma => kernel_rfl) (by as_aux_lemma => kernel_rfl) (k := ?_)
          obtain ⟨b125, o126, r127, hr128, hA129, he130⟩ := SlAt.at (hb3.sl ekStr) (i := r10.1) (by omega) (by omega)
          refine WQ.rw (t := 67) (v := .slice (some ⟨b125, o126, none⟩) d.secs.length c1) (congrArg (fun a => Value.slice a d.secs.length c1) hA129) (by as_aux_lemma => kernel_rfl) (k := ?_)
          have s1_ := crashN_all (fs := fs) ow_ os_ i.toNat _ (List.mem_of_getElem? hr128)
          refine WQ.idx (T := 36) (E := 9) (m := 1) (b := b125) (o := o126) (len := d.secs.length) (cap := c1) (i := r10.1) (kk := .i64) (d := 70) (by omega) (by omega) (by as_aux_lemma => kernel_rfl) (by as_aux_lemma => kernel_rfl) (by as_aux_lemma => kernel_rfl) (by as_aux_lemma => kernel_rfl) (by as_aux_lemma => kernel_rfl) (by as_aux_lemma => kernel_rfl) (k := ?_)
          refine WQ.rw (t := 67) (v := .slice A1 d.secs.length c1) (congrArg (fun a => Value.slice a d.secs.length c1) (Eq.symm hA129)) (by as_aux_lemma => kernel_rfl) (k := ?_)
          refine WQ.load (v := .string ⟨(r127).toArray⟩) (fun w_ k_ => (he130.adds k_).ld0 (T := 9)) (by as_aux_lemma => kernel_rfl) (by as_aux_lemma => kernel_rfl) (by as_aux_lemma => kernel_rfl) (k := ?_)
          refine WQ.op (d := 72) (.int .i64 0) (by as_aux_lemma => kernel_rfl) (by as_aux_lemma => kernel_rfl) (fun _ _ => by kernel_rfl) rfl (by as_aux_lemma => kernel_rfl) (k := ?_)
          refine WQ.cut (d := 73) (vx := .string ⟨(r127).toArray⟩) (lo' := (some (.int .i64 0))) (hi' := none) (mx' := none) (v := .string ⟨(List.drop 0 r127).toArray⟩) (fun w_ => (by have h_ := run_cut (P := Tryz.prog) (w := w_) (lo := (some (.int .i64 0))) (hi := none) (T := 9) (a := 0) (b := r127.length) (l := r127) (by as_aux_lemma => kernel_rfl) (.inr ⟨_, _, rfl, by omega⟩) (.inl ⟨rfl, rfl⟩) (by first | omega | (simp; omega)) (by first | omega | (simp; omega)); rw [List.take_length] at h_; exact h_)) (by as_aux_lemma => kernel_rfl) (by as_aux_lemma => kernel_rfl) (by as_aux_lemma => kernel_rfl) (by as_aux_lemma => kernel_rfl) (by as_aux_lemma => kernel_rfl) (by as_aux_lemma => kernel_rfl) (k := ?_)
          refine WQ.bin (d := 74) (v := .string ⟨((List.take 0 r10.2) ++ (List.drop 0 r127)).toArray⟩) (fun _ => cat_run (by simp only [List.length_take, List.length_drop]; omega)) (fun _ => by kernel_rfl) (by as_aux_lemma => kernel_rfl) (by as_aux_lemma => kernel_rfl) (by as_aux_lemma => kernel_rfl) (by as_aux_lemma => kernel_rfl) (k := ?_)
          obtain ⟨b131, o132, r133, hr134, hA135, he136⟩ := SlAt.at (hb3.sl ekStr) (i := r10.1) (by omega) (by omega)
          refine WQ.rw (t := 57) (v := .slice (some ⟨b131, o132, none⟩) d.secs.length c1) (congrArg (fun a => Value.slice a d.secs.length c1) hA135) (by as_aux_lemma => kernel_rfl) (k := ?_)
          obtain rfl : r127 = r133 := Option.some.inj (hr128.symm.trans hr134)
          have s1_ := crashN_all (fs := fs) ow_ os_ i.toNat _ (List.mem_of_getElem? hr128)
          refine WQ.idx (T := 36) (E := 9) (m := 1) (b := b131) (o := o132) (len := d.secs.length) (cap := c1) (i := r10.1) (kk := .i64) (d := 75) (by omega) (by omega) (by as_aux_lemma => kernel_rfl) (by as_aux_lemma => kernel_rfl) (by as_aux_lemma => kernel_rfl) (by as_aux_lemma => kernel_rfl) (by as_aux_lemma => kernel_rfl) (by as_aux_lemma => kernel_rfl) (k := ?_)
          refine WQ.rw (t := 57) (v := .slice A1 d.secs.length c1) (congrArg (fun a => Value.slice a d.secs.length c1) (Eq.symm hA135)) (by as_aux_lemma => kernel_rfl) (k := ?_)
          refine WQ.nilL (fun w137 k138 => ?_)
          replace hb2 := k138.heap hb2 id
          replace hb3 := hb3.adds k138
          replace hb5 := hb5.adds k138
          replace hb24 := k138.heap hb24 id
          replace he130 := he130.adds k138
          replace he136 := he136.adds k138
          replace K := K.trans (k138.any _)
          obtain ⟨w139, hs140, ho141, k142⟩ := OwAt.set (T := 9) ekStr hb3 hA135 (i := r10.1) (by omega) (by omega) ((List.take 0 r10.2) ++ (List.drop 0 r127)) (by kernel_rfl)
          refine WL.wr (v := .string ⟨((List.take 0 r10.2) ++ (List.drop 0 r127)).toArray⟩) hs140 (k := ?_)
          clear hs140
          replace hb2 := k142.heap hb2 (hb3.offT hb2 (by decide))
          replace hb5 := hb5.keeps k142 (OwAt.offOw hb5 hb3 (by decide))
          replace hb24 := k142.heap hb24 n21
          replace K := K.trans' k142 (fun i hi e => (hS i).2 (.inr (.inl e)))
          clear hb3
          refine WL.nil ?_
          refine WX.blockN ?_
          refine WX.seqN ?_
          refine WC.region ?_
          refine WL.op (d := 17) (.int .i64 i) (by as_aux_lemma => kernel_rfl) (by as_aux_lemma => kernel_rfl) (by as_aux_lemma => kernel_rfl) rfl (by as_aux_lemma => kernel_rfl) (k := ?_)
          refine WL.opE (d := 18) (.int .i64 (IntKind.i64.wrap (i + 1))) (v := .int .i64 (i + 1)) (congrArg (Value.int .i64) (IntWalk.i64_in _ (by omega))) (by as_aux_lemma => kernel_rfl) (by as_aux_lemma => kernel_rfl) (by as_aux_lemma => kernel_rfl) rfl (by as_aux_lemma => kernel_rfl) (k := ?_)
          refine WL.op (d := 6) (.int .i64 (i + 1)) (by as_aux_lemma => kernel_rfl) (by as_aux_lemma => kernel_rfl) (by as_aux_lemma => kernel_rfl) rfl (by as_aux_lemma => kernel_rfl) (k := ?_)
          refine WL.nil ?_
          refine WX.rw (t := 5) (v := .int .i64 (Prod.snd (crashN fs d.opn d.secs (i + 1).toNat))) (congrArg (Value.int .i64) (crash_l2 i0 hr11 (show fateF fs i.toNat = 0 from by rw [fateF_some hr30, leftF, show restF r29.1 3 = _ from by rw [restF, e35, e38], if_neg ph39, if_neg ph67]) (by omega))) (by as_aux_lemma => kernel_rfl) (k := ?_)
          have e143 : List.set (Prod.fst (crashN fs d.opn d.secs i.toNat)) (r10.1).toNat ((List.take 0 r10.2) ++ (List.drop 0 r127)) = Prod.fst (crashN fs d.opn d.secs (i + 1).toNat) := crash_step i0 hr11 hr128 (show fateF fs i.toNat = 0 from by rw [fateF_some hr30, leftF, show restF r29.1 3 = _ from by rw [restF, e35, e38], if_neg ph39, if_neg ph67])
          rw [e143] at ho141
          refine WX.round (i + 1) (by show (d.opn.length - (i + 1)).toNat < (d.opn.length - i).toNat; omega) ⟨(by as_aux_lemma => kernel_rfl), (by as_aux_lemma => kernel_rfl), (by as_aux_lemma => kernel_rfl), (by as_aux_lemma => kernel_rfl), (by as_aux_lemma => kernel_rfl), trivial⟩ ⟨K, hb2, ho141, hb5, (by omega), (by omega)⟩
    · have ph26 := of_decide_eq_false h26
      refine WC.skip ?_
      refine WX.seqN ?_
      refine WC.seq ?_
      refine WC.seq ?_
      refine WC.region ?_
      refine WL.op (d := 50) (.int .i64 0) (by as_aux_lemma => kernel_rfl) (by as_aux_lemma => kernel_rfl) (by as_aux_lemma => kernel_rfl) rfl (by as_aux_lemma => kernel_rfl) (k := ?_)
      refine WL.op (d := 51) (.bool true) (by as_aux_lemma => kernel_rfl) (by as_aux_lemma => kernel_rfl) (by as_aux_lemma => kernel_rfl) rfl (by as_aux_lemma => kernel_rfl) (k := ?_)
      refine WL.nil ?_
      refine WX.seqN ?_
      refine WC.condT (by as_aux_lemma => kernel_rfl) (k := ?_)
      refine WC.region ?_
      refine WL.op (d := 52) (.int .i64 (Prod.snd (crashN fs d.opn d.secs i.toNat))) (by as_aux_lemma => kernel_rfl) (by as_aux_lemma => kernel_rfl) (by as_aux_lemma => kernel_rfl) rfl (by as_aux_lemma => kernel_rfl) (k := ?_)
      refine WL.opE (d := 53) (.int .i64 (IntKind.i64.wrap ((Prod.snd (crashN fs d.opn d.secs i.toNat)) + 1))) (v := .int .i64 ((Prod.snd (crashN fs d.opn d.secs i.toNat)) + 1)) (congrArg (Value.int .i64) (IntWalk.i64_in _ (by omega))) (by as_aux_lemma => kernel_rfl) (by as_aux_lemma => kernel_rfl) (by as_aux_lemma => kernel_rfl) rfl (by as_aux_lemma => kernel_rfl) (k := ?_)
      refine WL.op (d := 5) (.int .i64 ((Prod.snd (crashN fs d.opn d.secs i.toNat)) + 1)) (by as_aux_lemma => kernel_rfl) (by as_aux_lemma => kernel_rfl) (by as_aux_lemma => kernel_rfl) rfl (by as_aux_lemma => kernel_rfl) (k := ?_)
      refine WL.nil ?_
      refine WX.seqN ?_
      refine WC.tail 22 (by kernel_rfl) (by as_aux_lemma => kernel_rfl) (k := ?_)
      refine WQ.op (d := 54) (.pointer (some ⟨b, 0, none⟩)) (by as_aux_lemma => kernel_rfl) (by as_aux_lemma => kernel_rfl) (fun _ _ => by kernel_rfl) rfl (by as_aux_lemma => kernel_rfl) (k := ?_)
      refine WQ.op (d := 55) (.pointer (some ⟨b, 0, none⟩)) (by as_aux_lemma => kernel_rfl) (by as_aux_lemma => kernel_rfl) (fun _ _ => by kernel_rfl) rfl (by as_aux_lemma => kernel_rfl) (k := ?_)
      refine WQ.op (d := 56) (.pointer (some ⟨b, 0, none⟩)) (by as_aux_lemma => kernel_rfl) (by as_aux_lemma => kernel_rfl) (fun _ _ => by kernel_rfl) rfl (by as_aux_lemma => kernel_rfl) (k := ?_)
      refine WQ.load (v := .slice A1 d.secs.length c1) (fun w_ k_ => ld1 (T := 36) (i := 0) (k_.heap hb2 id) (by as_aux_lemma => kernel_rfl) (by as_aux_lemma => kernel_rfl)) (by as_aux_lemma => kernel_rfl) (by as_aux_lemma => kernel_rfl) (by as_aux_lemma => kernel_rfl) (k := ?_)
      refine WQ.op (d := 58) (.pointer (some ⟨b14, 0, none⟩)) (by as_aux_lemma => kernel_rfl) (by as_aux_lemma => kernel_rfl) (fun _ _ => by kernel_rfl) rfl (by as_aux_lemma => kernel_rfl) (k := ?_)
      refine WQ.load (v := .int .i64 r10.1) (fun w_ k_ => ld1 (T := 3) (i := 0) (k_.heap hb24 id) (by as_aux_lemma => kernel_rfl) (by as_aux_lemma => kernel_rfl)) (by as_aux_lemma => kernel_rfl) (by as_aux_lemma => kernel_rfl) (by as_aux_lemma => kernel_rfl) (k := ?_)
      refine WQ.op (d := 60) (.pointer (some ⟨b14, 1, none⟩)) (by as_aux_lemma => kernel_rfl) (by as_aux_lemma => kernel_rfl) (fun _ _ => by kernel_rfl) rfl (by as_aux_lemma => kernel_rfl) (k := ?_)
      refine WQ.load (v := .string ⟨(r10.2).toArray⟩) (fun w_ k_ => ld1 (T := 9) (i := 1) (k_.heap hb24 id) (by as_aux_lemma => kernel_rfl) (by as_aux_lemma => kernel_rfl)) (by as_aux_lemma => kernel_rfl) (by as_aux_lemma => kernel_rfl) (by as_aux_lemma => kernel_rfl) (k := ?_)
      refine WQ.op (d := 62) (.int .i64 0) (by as_aux_lemma => kernel_rfl) (by as_aux_lemma => kernel_rfl) (fun _ _ => by kernel_rfl) rfl (by as_aux_lemma => kernel_rfl) (k := ?_)
      refine WQ.cut (d := 63) (vx := .string ⟨(r10.2).toArray⟩) (lo' := none) (hi' := (some (.int .i64 0))) (mx' := none) (v := .string ⟨(List.take 0 r10.2).toArray⟩) (fun w_ => run_cut (P := Tryz.prog) (w := w_) (lo := none) (hi := (some (.int .i64 0))) (T := 9) (a := 0) (b := 0) (l := r10.2) (by as_aux_lemma => kernel_rfl) (.inl ⟨rfl, rfl⟩) (.inr ⟨_, _, rfl, by omega⟩) (by first | omega | (simp; omega)) (by first | omega | (simp; omega))) (by as_aux_lemma => kernel_rfl) (by as_aux_lemma => kernel_rfl) (by as_aux_lemma => kernel_rfl) (by as_aux_lemma => kernel_rfl) (by as_aux_lemma => kernel_rfl) (by as_aux_lemma => kernel_rfl) (k := ?_)
      refine WQ.op (d := 64) (.pointer (some ⟨b, 0, none⟩)) (by as_aux_lemma => kernel_rfl) (by as_aux_lemma => kernel_rfl) (fun _ _ => by kernel_rfl) rfl (by as_aux_lemma => kernel_rfl) (k := ?_)
      refine WQ.op (d := 65) (.pointer (some ⟨b, 0, none⟩)) (by as_aux_lemma => kernel_rfl) (by as_aux_lemma => kernel_rfl) (fun _ _ => by kernel_rfl) rfl (by as_aux_lemma => kernel_rfl) (k := ?_)
      refine WQ.op (d := 66) (.pointer (some ⟨b, 0, none⟩)) (by as_aux_lemma => kernel_rfl) (by as_aux_lemma => kernel_rfl) (fun _ _ => by kernel_rfl) rfl (by as_aux_lemma => kernel_rfl) (k := ?_)
      refine WQ.load (v := .slice A1 d.secs.length c1) (fun w_ k_ => ld1 (T := 36) (i := 0) (k_.heap hb2 id) (by as_aux_lemma => kernel_rfl) (by as_aux_lemma => kernel_rfl)) (by as_aux_lemma => kernel_rfl) (by as_aux_lemma => kernel_rfl) (by as_aux_lemma => kernel_rfl) (k := ?_)
      refine WQ.op (d := 68) (.pointer (some ⟨b14, 0, none⟩)) (by as_aux_lemma => kernel_rfl) (by as_aux_lemma => kernel_rfl) (fun _ _ => by kernel_rfl) rfl (by as_aux_lemma => kernel_rfl) (k := ?_)
      refine WQ.load (v := .int .i64 r10.1) (fun w_ k_ => ld1 (T := 3) (i := 0) (k_.heap hb24 id) (by as_aux_lemma => kernel_rfl) (by as_aux_lemma => kernel_rfl)) (by as_aux_lemma => kernel_rfl) (by as_aux_lemma => kernel_rfl) (by as_aux_lemma => kernel_rfl) (k := ?_)
      obtain ⟨b144, o145, r146, hr147, hA148, he149⟩ := SlAt.at (hb3.sl ekStr) (i := r10.1) (by omega) (by omega)
      refine WQ.rw (t := 67) (v := .slice (some ⟨b144, o145, none⟩) d.secs.length c1) (congrArg (fun a => Value.slice a d.secs.length c1) hA148) (by as_aux_lemma => kernel_rfl) (k := ?_)
      have s1_ := crashN_all (fs := fs) ow_ os_ i.toNat _ (List.mem_of_getElem? hr147)
      refine WQ.idx (T := 36) (E := 9) (m := 1) (b := b144) (o := o145) (len := d.secs.length) (cap := c1) (i := r10.1) (kk := .i64) (d := 70) (by omega) (by omega) (by as_aux_lemma => kernel_rfl) (by as_aux_lemma => kernel_rfl) (by as_aux_lemma => kernel_rfl) (by as_aux_lemma => kernel_rfl) (by as_aux_lemma => kernel_rfl) (by as_aux_lemma => kernel_rfl) (k := ?_)
      refine WQ.rw (t := 67) (v := .slice A1 d.secs.length c1) (congrArg (fun a => Value.slice a d.secs.length c1) (Eq.symm hA148)) (by as_aux_lemma => kernel_rfl) (k := ?_)
      refine WQ.load (v := .string ⟨(r146).toArray⟩) (fun w_ k_ => (he149.adds k_).ld0 (T := 9)) (by as_aux_lemma => kernel_rfl) (by as_aux_lemma => kernel_rfl) (by as_aux_lemma => kernel_rfl) (k := ?_)
      refine WQ.op (d := 72) (.int .i64 0) (by as_aux_lemma => kernel_rfl) (by as_aux_lemma => kernel_rfl) (fun _ _ => by kernel_rfl) rfl (by as_aux_lemma => kernel_rfl) (k := ?_)
      refine WQ.cut (d := 73) (vx := .string ⟨(r146).toArray⟩) (lo' := (some (.int .i64 0))) (hi' := none) (mx' := none) (v := .string ⟨(List.drop 0 r146).toArray⟩) (fun w_ => (by have h_ := run_cut (P := Tryz.prog) (w := w_) (lo := (some (.int .i64 0))) (hi := none) (T := 9) (a := 0) (b := r146.length) (l := r146) (by as_aux_lemma => kernel_rfl) (.inr ⟨_, _, rfl, by omega⟩) (.inl ⟨rfl, rfl⟩) (by first | omega | (simp; omega)) (by first | omega | (simp; omega)); rw [List.take_length] at h_; exact h_)) (by as_aux_lemma => kernel_rfl) (by as_aux_lemma => kernel_rfl) (by as_aux_lemma => kernel_rfl) (by as_aux_lemma => kernel_rfl) (by as_aux_lemma => kernel_rfl) (by as_aux_lemma => kernel_rfl) (k := ?_)
      refine WQ.bin (d := 74) (v := .string ⟨((List.take 0 r10.2) ++ (List.drop 0 r146)).toArray⟩) (fun _ => cat_run (by simp only [List.length_take, List.length_drop]; omega)) (fun _ => by kernel_rfl) (by as_aux_lemma => kernel_rfl) (by as_aux_lemma => kernel_rfl) (by as_aux_lemma => kernel_rfl) (by as_aux_lemma => kernel_rfl) (k := ?_)
      obtain ⟨b150, o151, r152, hr153, hA154, he155⟩ := SlAt.at (hb3.sl ekStr) (i := r10.1) (by omega) (by omega)
      refine WQ.rw (t := 57) (v := .slice (some ⟨b150, o151, none⟩) d.secs.length c1) (congrArg (fun a => Value.slice a d.secs.length c1) hA154) (by as_aux_lemma => kernel_rfl) (k := ?_)
      obtain rfl : r146 = r152 := Option.some.inj (hr147.symm.trans hr153)
      have s1_ := crashN_all (fs := fs) ow_ os_ i.toNat _ (List.mem_of_getElem? hr147)
      refine WQ.idx (T := 36) (E := 9) (m := 1) (b := b150) (o := o151) (len := d.secs.length) (cap := c1) (i := r10.1) (kk := .i64) (d := 75) (by omega) (by omega) (by as_aux_lemma => kernel_rfl) (by as_aux_lemma => kernel_rfl) (by as_aux_lemma => kernel_rfl) (by as_aux_lemma => kernel_rfl) (by as_aux_lemma => kernel_rfl) (by as_aux_lemma => kernel_rfl) (k := ?_)
      refine WQ.rw (t := 57) (v := .slice A1 d.secs.length c1) (congrArg (fun a => Value.slice a d.secs.length c1) (Eq.symm hA154)) (by as_aux_lemma => kernel_rfl) (k := ?_)
      refine WQ.nilL (fun w156 k157 => ?_)
      replace hb2 := k157.heap hb2 id
      replace hb3 := hb3.adds k157
      replace hb5 := hb5.adds k157
      replace hb24 := k157.heap hb24 id
      replace he149 := he149.adds k157
      replace he155 := he155.adds k157
      replace K := K.trans (k157.any _)
      obtain ⟨w158, hs159, ho160, k161⟩ := OwAt.set (T := 9) ekStr hb3 hA154 (i := r10.1) (by omega) (by omega) ((List.take 0 r10.2) ++ (List.drop 0 r146)) (by kernel_rfl)
      refine WL.wr (v := .string ⟨((List.take 0 r10.2) ++ (List.drop 0 r146)).toArray⟩) hs159 (k := ?_)
      clear hs159
      replace hb2 := k161.heap hb2 (hb3.offT hb2 (by decide))
      replace hb5 := hb5.keeps k161 (OwAt.offOw hb5 hb3 (by decide))
      replace hb24 := k161.heap hb24 n21
      replace K := K.trans' k161 (fun i hi e => (hS i).2 (.inr (.inl e)))
      clear hb3
      refine WL.nil ?_
      refine WX.blockN ?_
      refine WX.seqN ?_
      refine WC.region ?_
      refine WL.op (d := 17) (.int .i64 i) (by as_aux_lemma => kernel_rfl) (by as_aux_lemma => kernel_rfl) (by as_aux_lemma => kernel_rfl) rfl (by as_aux_lemma => kernel_rfl) (k := ?_)
      refine WL.opE (d := 18) (.int .i64 (IntKind.i64.wrap (i + 1))) (v := .int .i64 (i + 1)) (congrArg (Value.int .i64) (IntWalk.i64_in _ (by omega))) (by as_aux_lemma => kernel_rfl) (by as_aux_lemma => kernel_rfl) (by as_aux_lemma => kernel_rfl) rfl (by as_aux_lemma => kernel_rfl) (k := ?_)
      refine WL.op (d := 6) (.int .i64 (i + 1)) (by as_aux_lemma => kernel_rfl) (by as_aux_lemma => kernel_rfl) (by as_aux_lemma => kernel_rfl) rfl (by as_aux_lemma => kernel_rfl) (k := ?_)
      refine WL.nil ?_
      refine WX.rw (t := 5) (v := .int .i64 (Prod.snd (crashN fs d.opn d.secs (i + 1).toNat))) (congrArg (Value.int .i64) (crash_l2 i0 hr11 (fateF_none (by omega)) (by omega))) (by as_aux_lemma => kernel_rfl) (k := ?_)
      have e162 : List.set (Prod.fst (crashN fs d.opn d.secs i.toNat)) (r10.1).toNat ((List.take 0 r10.2) ++ (List.drop 0 r146)) = Prod.fst (crashN fs d.opn d.secs (i + 1).toNat) := crash_step i0 hr11 hr147 (fateF_none (by omega))
      rw [e162] at ho160
      refine WX.round (i + 1) (by show (d.opn.length - (i + 1)).toNat < (d.opn.length - i).toNat; omega) ⟨(by as_aux_lemma => kernel_rfl), (by as_aux_lemma => kernel_rfl), (by as_aux_lemma => kernel_rfl), (by as_aux_lemma => kernel_rfl), (by as_aux_lemma => kernel_rfl), trivial⟩ ⟨K, hb2, ho160, hb5, (by omega), (by omega)⟩
  · have ph7 := of_decide_eq_false h7
    refine WC.exit ?_
    refine WX.seqE ?_
    refine WX.seqE ?_
    refine WX.blockE ?_
    refine WX.seqN ?_
    refine WC.seq ?_
    refine WC.region ?_
    refine WL.op (d := 76) (.pointer (some ⟨b, 0, none⟩)) (by as_aux_lemma => kernel_rfl) (by as_aux_lemma => kernel_rfl) (by as_aux_lemma => kernel_rfl) rfl (by as_aux_lemma => kernel_rfl) (k := ?_)
    refine WL.op (d := 77) (.pointer (some ⟨b, 0, none⟩)) (by as_aux_lemma => kernel_rfl) (by as_aux_lemma => kernel_rfl) (by as_aux_lemma => kernel_rfl) rfl (by as_aux_lemma => kernel_rfl) (k := ?_)
    refine WL.op (d := 78) (.pointer (some ⟨b, 1, none⟩)) (by as_aux_lemma => kernel_rfl) (by as_aux_lemma => kernel_rfl) (by as_aux_lemma => kernel_rfl) rfl (by as_aux_lemma => kernel_rfl) (k := ?_)
    refine WL.store (v := .slice none 0 0) (i := 1) (cs' := #[.slice A1 d.secs.length c1, .slice none 0 0, .int .i64 d.fail, .int .i64 d.reads]) hb2 (by as_aux_lemma => kernel_rfl) (by as_aux_lemma => kernel_rfl) (by as_aux_lemma => kernel_rfl) (by as_aux_lemma => kernel_rfl) (by as_aux_lemma => kernel_rfl) (by as_aux_lemma => kernel_rfl) (by as_aux_lemma => kernel_rfl) (k := fun w163 hb164 k165 => ?_)
    replace hb3 := hb3.keeps k165 (fun i hi e => (hb3.offT hb2 (by decide)) (e ▸ hi))
    replace hb5 := hb5.keeps k165 (fun i hi e => (hb5.offT hb2 (by decide)) (e ▸ hi))
    replace K := K.trans' k165 (fun i hi e => (hS i).2 (.inl e))
    clear hb2
    refine WL.nil ?_
    refine WX.seqN ?_
    refine WC.seq ?_
    refine WC.region ?_
    refine WL.op (d := 79) (.pointer (some ⟨b, 0, none⟩)) (by as_aux_lemma => kernel_rfl) (by as_aux_lemma => kernel_rfl) (by as_aux_lemma => kernel_rfl) rfl (by as_aux_lemma => kernel_rfl) (k := ?_)
    refine WL.op (d := 80) (.pointer (some ⟨b, 0, none⟩)) (by as_aux_lemma => kernel_rfl) (by as_aux_lemma => kernel_rfl) (by as_aux_lemma => kernel_rfl) rfl (by as_aux_lemma => kernel_rfl) (k := ?_)
    refine WL.op (d := 81) (.pointer (some ⟨b, 2, none⟩)) (by as_aux_lemma => kernel_rfl) (by as_aux_lemma => kernel_rfl) (by as_aux_lemma => kernel_rfl) rfl (by as_aux_lemma => kernel_rfl) (k := ?_)
    refine WL.store (v := .int .i64 0) (i := 2) (cs' := #[.slice A1 d.secs.length c1, .slice none 0 0, .int .i64 0, .int .i64 d.reads]) hb164 (by as_aux_lemma => kernel_rfl) (by as_aux_lemma => kernel_rfl) (by as_aux_lemma => kernel_rfl) (by as_aux_lemma => kernel_rfl) (by as_aux_lemma => kernel_rfl) (by as_aux_lemma => kernel_rfl) (by as_aux_lemma => kernel_rfl) (k := fun w166 hb167 k168 => ?_)
    replace hb3 := hb3.keeps k168 (fun i hi e => (hb3.offT hb164 (by decide)) (e ▸ hi))
    replace hb5 := hb5.keeps k168 (fun i hi e => (hb5.offT hb164 (by decide)) (e ▸ hi))
    replace K := K.trans' k168 (fun i hi e => (hS i).2 (.inl e))
    clear hb164
    refine WL.nil ?_
    refine WX.seqN ?_
    refine WC.seq ?_
    refine WC.region ?_
    refine WL.op (d := 82) (.pointer (some ⟨b, 0, none⟩)) (by as_aux_lemma => kernel_rfl) (by as_aux_lemma => kernel_rfl) (by as_aux_lemma => kernel_rfl) rfl (by as_aux_lemma => kernel_rfl) (k := ?_)
    refine WL.op (d := 83) (.pointer (some ⟨b, 0, none⟩)) (by as_aux_lemma => kernel_rfl) (by as_aux_lemma => kernel_rfl) (by as_aux_lemma => kernel_rfl) rfl (by as_aux_lemma => kernel_rfl) (k := ?_)
    refine WL.op (d := 84) (.pointer (some ⟨b, 3, none⟩)) (by as_aux_lemma => kernel_rfl) (by as_aux_lemma => kernel_rfl) (by as_aux_lemma => kernel_rfl) rfl (by as_aux_lemma => kernel_rfl) (k := ?_)
    refine WL.store (v := .int .i64 0) (i := 3) (cs' := #[.slice A1 d.secs.length c1, .slice none 0 0, .int .i64 0, .int .i64 0]) hb167 (by as_aux_lemma => kernel_rfl) (by as_aux_lemma => kernel_rfl) (by as_aux_lemma => kernel_rfl) (by as_aux_lemma => kernel_rfl) (by as_aux_lemma => kernel_rfl) (by as_aux_lemma => kernel_rfl) (by as_aux_lemma => kernel_rfl) (k := fun w169 hb170 k171 => ?_)
    replace hb3 := hb3.keeps k171 (fun i hi e => (hb3.offT hb167 (by decide)) (e ▸ hi))
    replace hb5 := hb5.keeps k171 (fun i hi e => (hb5.offT hb167 (by decide)) (e ▸ hi))
    replace K := K.trans' k171 (fun i hi e => (hS i).2 (.inl e))
    clear hb167
    refine WL.nil ?_
    refine WX.seqN ?_
    refine WC.seq ?_
    refine WC.region ?_
    refine WL.op (d := 85) (.int .i64 (Prod.snd (crashN fs d.opn d.secs i.toNat))) (by as_aux_lemma => kernel_rfl) (by as_aux_lemma => kernel_rfl) (by as_aux_lemma => kernel_rfl) rfl (by as_aux_lemma => kernel_rfl) (k := ?_)
    refine WL.op (d := 4) (.int .i64 (Prod.snd (crashN fs d.opn d.secs i.toNat))) (by as_aux_lemma => kernel_rfl) (by as_aux_lemma => kernel_rfl) (by as_aux_lemma => kernel_rfl) rfl (by as_aux_lemma => kernel_rfl) (k := ?_)
    refine WL.nil ?_
    refine WX.seqN ?_
    refine WC.ret ?_
    refine WX.ret (rs := [.tmp 4]) [.int .i64 (Prod.snd (crashN fs d.opn d.secs i.toNat))] (.int .i64 (Prod.snd (crashN fs d.opn d.secs i.toNat))) ⟨(by as_aux_lemma => kernel_rfl), trivial⟩ rfl rfl (k := ?_)
    have q_ : i.toNat = d.opn.length := by omega
    rw [q_] at hb3
    rw [← crashN_len (fs := fs) (o := d.opn) (s0 := d.secs) d.opn.length] at hb170
    exact ⟨by rw [q_]; rfl, _, RefAt.mk (d := d.crashD fs) hb170 hb3 OwAt.nil (GDisk.crashD_ok ho fs), flink hS, K⟩
end Go.Proofs.YtnkkbeafcfjkmaaGreatDoor
