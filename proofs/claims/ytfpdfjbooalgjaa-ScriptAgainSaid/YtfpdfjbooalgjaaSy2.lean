/- Read of ops. -/
import Derived.Test.YtfpdfjbooalgjaaSy1
import Derived.Test.YtfpdfjbooalgjaaSy0b
namespace Go.Proofs.Ytfpdfjbooalgjaa
open Go.RowKit
set_option linter.unusedVariables false
set_option linter.unusedSimpArgs false

set_option maxRecDepth 100000 in
theorem pRead1_c {bc br : Nat} {st : Option (List UInt8)} {w : World} (hb : w.heap[bc]? = some (.cells #[.pointer (some ⟨br, 0, none⟩)] 68 (0, 0))) (hr : RdAt br st w) (hl : stLen st ≤ 1000000000) : Calls Try.prog 65 #[.pointer (some ⟨bc, 0, none⟩)] w fun e w' => ∃ (n : Nat) (s : Option (List UInt8)), rdNum 2147483648 st = (n, s) ∧ e = .returned (.int .i64 (n : Int)) ∧ RdAt br s w' ∧ Keeps (fun k => k = br) w w' ∧ stLen s ≤ 1000000000 ∧ (n : Int) ≤ 2147483648 := by
  have K : Keeps (fun k => k = br) w w := Keeps.refl _ w
  have nbr : bc ≠ br := by
    rintro rfl
    cases st with
    | some l => unfold RdAt at hr; rw [hb] at hr; simp at hr
    | none => obtain ⟨s, hr⟩ := hr; rw [hb] at hr; simp at hr
  refine Calls.start Try.func65 rfl (by kernel_rfl) ?_
  refine WC.seq ?_
  refine WC.region ?_
  refine WL.op (d := 1) (.int .i64 0) (k := ?_)
  refine WL.nil ?_
  refine WX.seqN ?_
  refine WC.seq ?_
  refine WC.region ?_
  refine WL.load (v := .pointer (some ⟨br, 0, none⟩)) (ld1 (T := 68) (i := 0) hb) (k := ?_)
  refine WL.callG (d := 3) (f := 54) (args := #[.pointer (some ⟨br, 0, none⟩), .int .u64 2147483648]) (rNum_x 2147483648 hr hl (by omega) (by omega)) (k := fun e_ w1 h_ => ?_)
  obtain ⟨n2, s3, q4, rfl, hr5, k6, l7, m8⟩ := h_
  refine ⟨_, rfl, ?_⟩
  replace hb := k6.heap hb nbr
  replace K := K.trans' k6 (fun i hi e => e)
  clear hr
  refine WL.opE (d := 4) (.int .i64 (IntKind.i64.wrap (n2 : Int))) (v := .int .i64 (n2 : Int)) (congrArg (Value.int .i64) (IntWalk.i64_in _ (by omega))) (k := ?_)
  refine WL.op (d := 1) (.int .i64 (n2 : Int)) (k := ?_)
  refine WL.nil ?_
  refine WX.seqN ?_
  refine WC.ret ?_
  refine WX.ret (rs := [.tmp 1]) [.int .i64 (n2 : Int)] (.int .i64 (n2 : Int)) ⟨(by kernel_rfl), trivial⟩ (k := ?_)
  exact ⟨_, _, q4, rfl, hr5, K, l7, by omega⟩

set_option maxRecDepth 100000 in
theorem pRead_c (l : List UInt8) (hl : l.length ≤ 1000000) (w : World) : Calls Try.prog 52 #[.string ⟨l.toArray⟩] w fun e w' => e = .returned (opRes (opOf l)) ∧ Adds w w' := by
  have K : Keeps (fun _ => False) w w := Keeps.refl _ w
  refine Calls.start Try.func52 rfl (by kernel_rfl) ?_
  refine WC.seq ?_
  refine WC.region ?_
  refine WL.new (d := 2) (T := 29) #[.int .i64 0, .int .i64 0, .int .i64 0, .int .i64 0, .int .i64 0, .int .i64 0, .bool false, .int .i64 0, .int .i64 0, .int .i64 0] (k := fun b1 w2 g3 hb4 k5 => ?_)
  have z6 := Nat.le_trans K.size g3
  replace K := K.trans (k5.any _)
  refine WL.op (d := 3) (.int .i64 0) (k := ?_)
  refine WL.nil ?_
  refine WX.seqN ?_
  refine WC.seq ?_
  refine WC.region ?_
  refine WL.op (d := 7) (.string ⟨(l).toArray⟩) (k := ?_)
  refine WL.callG (d := 8) (f := 32) (args := #[.string ⟨(l).toArray⟩]) (oRead_x l w2) (k := fun e_ w7 h_ => ?_)
  obtain ⟨b8, g9, rfl, hr10, k11⟩ := h_
  refine ⟨_, rfl, ?_⟩
  have z12 := Nat.le_trans K.size g9
  have n13 : b1 ≠ b8 := Nat.ne_of_lt (Nat.lt_of_lt_of_le (lt_of_heap hb4) g9)
  replace hb4 := k11.heap hb4 id
  replace K := K.trans (k11.any _)
  refine WL.new (d := 4) (T := 68) #[.pointer none] (k := fun b14 w15 g16 hb17 k18 => ?_)
  have z19 := Nat.le_trans K.size g16
  have n20 : b1 ≠ b14 := Nat.ne_of_lt (Nat.lt_of_lt_of_le (lt_of_heap hb4) g16)
  have n21 : b8 ≠ b14 := Nat.ne_of_lt (Nat.lt_of_lt_of_le hr10.lt g16)
  replace hb4 := k18.heap hb4 id
  replace hr10 := hr10.keeps k18 id
  replace K := K.trans (k18.any _)
  refine WL.store (v := .pointer (some ⟨b8, 0, none⟩)) (i := 0) (cs' := #[.pointer (some ⟨b8, 0, none⟩)]) hb17 (k := fun w22 hb23 k24 => ?_)
  replace hb4 := k24.heap hb4 n20
  replace hr10 := hr10.keeps k24 n21
  replace K := K.trans' k24 (fun i hi e => absurd (e ▸ hi) (Nat.not_lt.2 z19))
  clear hb17
  refine WL.nil ?_
  refine WX.seqN ?_
  refine WC.seq ?_
  refine WC.region ?_
  refine WL.op (d := 9) (.func (.func 65) #[] #[.pointer (some ⟨b14, 0, none⟩)]) (k := ?_)
  refine WL.op (d := 5) (.func (.func 65) #[] #[.pointer (some ⟨b14, 0, none⟩)]) (k := ?_)
  refine WL.nil ?_
  refine WX.seqN ?_
  refine WC.seq ?_
  refine WC.region ?_
  refine WL.load (v := .pointer (some ⟨b8, 0, none⟩)) (ld1 (T := 68) (i := 0) hb23) (k := ?_)
  refine WL.callG (d := 11) (f := 51) (args := #[.pointer (some ⟨b8, 0, none⟩), .int .i64 4]) (rInt_x 4 hr10 (by show List.length l ≤ _; first | omega | (simp; omega)) (by omega) (by omega)) (k := fun e_ w25 h_ => ?_)
  obtain ⟨n26, s27, q28, rfl, hr29, k30, l31, m32⟩ := h_
  refine ⟨_, rfl, ?_⟩
  replace hb4 := k30.heap hb4 n13
  replace hb23 := k30.heap hb23 (Ne.symm n21)
  replace K := K.trans' k30 (fun i hi e => absurd (e ▸ hi) (Nat.not_lt.2 z12))
  clear hr10
  refine WL.op (d := 12) (.agg #[.int .i64 (n26 : Int), .int .i64 0, .int .i64 0, .int .i64 0, .int .i64 0, .int .i64 0, .bool false, .int .i64 0, .int .i64 0, .int .i64 0]) (k := ?_)
  refine WL.new (d := 6) (T := 29) #[.int .i64 0, .int .i64 0, .int .i64 0, .int .i64 0, .int .i64 0, .int .i64 0, .bool false, .int .i64 0, .int .i64 0, .int .i64 0] (k := fun b33 w34 g35 hb36 k37 => ?_)
  have z38 := Nat.le_trans K.size g35
  have n39 : b1 ≠ b33 := Nat.ne_of_lt (Nat.lt_of_lt_of_le (lt_of_heap hb4) g35)
  have n40 : b8 ≠ b33 := Nat.ne_of_lt (Nat.lt_of_lt_of_le hr29.lt g35)
  have n41 : b14 ≠ b33 := Nat.ne_of_lt (Nat.lt_of_lt_of_le (lt_of_heap hb23) g35)
  replace hb4 := k37.heap hb4 id
  replace hr29 := hr29.keeps k37 id
  replace hb23 := k37.heap hb23 id
  replace K := K.trans (k37.any _)
  refine WL.store (v := .agg #[.int .i64 (n26 : Int), .int .i64 0, .int .i64 0, .int .i64 0, .int .i64 0, .int .i64 0, .bool false, .int .i64 0, .int .i64 0, .int .i64 0]) (i := 0) (cs' := #[.int .i64 (n26 : Int), .int .i64 0, .int .i64 0, .int .i64 0, .int .i64 0, .int .i64 0, .bool false, .int .i64 0, .int .i64 0, .int .i64 0]) hb36 (k := fun w42 hb43 k44 => ?_)
  replace hb4 := k44.heap hb4 n39
  replace hr29 := hr29.keeps k44 n40
  replace hb23 := k44.heap hb23 n41
  replace K := K.trans' k44 (fun i hi e => absurd (e ▸ hi) (Nat.not_lt.2 z38))
  clear hb36
  refine WL.nil ?_
  refine WX.seqN ?_
  refine WC.seq ?_
  refine WC.seq ?_
  refine WC.region ?_
  refine WL.load (v := .agg #[.int .i64 (n26 : Int), .int .i64 0, .int .i64 0, .int .i64 0, .int .i64 0, .int .i64 0, .bool false, .int .i64 0, .int .i64 0, .int .i64 0]) (ldN (T := 29) (i := 0) (m := 10) (l := [.int .i64 (n26 : Int), .int .i64 0, .int .i64 0, .int .i64 0, .int .i64 0, .int .i64 0, .bool false, .int .i64 0, .int .i64 0, .int .i64 0]) hb43) (k := ?_)
  refine bsplit (decide ((n26 : Int) = 1)) (fun h45 => ?_) (fun h45 => ?_)
  · have ph45 := of_decide_eq_true h45
    refine WL.callG (d := 14) (f := 37) (args := #[.agg #[.int .i64 (n26 : Int), .int .i64 0, .int .i64 0, .int .i64 0, .int .i64 0, .int .i64 0, .bool false, .int .i64 0, .int .i64 0, .int .i64 0]]) (pOf_k1 (⟨(n26 : Int), ⟨0, 0, 0, 0, 0⟩, false, 0, 0, 0⟩ : GOp) ph45 w42) (k := fun e_ w46 h_ => ⟨.iface 101 (.agg #[.int .i64 0, .int .i64 0, .int .i64 0, .int .i64 0, .int .i64 0, .bool false]), h_.1, ?_⟩)
    have k47 := h_.2; clear h_
    replace hb4 := k47.heap hb4 id
    replace hr29 := hr29.keeps k47 id
    replace hb23 := k47.heap hb23 id
    replace hb43 := k47.heap hb43 id
    replace K := K.trans (k47.any _)
    refine WL.nil ?_
    refine WX.seqN ?_
    refine WC.block ?_
    refine WC.seq ?_
    refine WC.region ?_
    refine WL.op (d := 15) (.tuple #[.agg #[.int .i64 0, .int .i64 0, .int .i64 0, .int .i64 0, .int .i64 0, .bool false], .bool true]) (k := ?_)
    refine WL.op (d := 16) (.bool true) (k := ?_)
    refine WL.op (d := 17) (.agg #[.int .i64 0, .int .i64 0, .int .i64 0, .int .i64 0, .int .i64 0, .bool false]) (k := ?_)
    refine WL.nil ?_
    refine WX.seqN ?_
    refine WC.condT (k := ?_)
    refine WC.seq ?_
    refine WC.region ?_
    refine WL.load (v := .pointer (some ⟨b8, 0, none⟩)) (ld1 (T := 68) (i := 0) hb23) (k := ?_)
    refine WL.callG (d := 19) (f := 51) (args := #[.pointer (some ⟨b8, 0, none⟩), .int .i64 1023]) (rInt_x 1023 hr29 l31 (by omega) (by omega)) (k := fun e_ w48 h_ => ?_)
    obtain ⟨n49, s50, q51, rfl, hr52, k53, l54, m55⟩ := h_
    refine ⟨_, rfl, ?_⟩
    replace hb4 := k53.heap hb4 n13
    replace hb23 := k53.heap hb23 (Ne.symm n21)
    replace hb43 := k53.heap hb43 (Ne.symm n40)
    replace K := K.trans' k53 (fun i hi e => absurd (e ▸ hi) (Nat.not_lt.2 z12))
    clear hr29
    refine WL.op (d := 20) (.agg #[.int .i64 (n49 : Int), .int .i64 0, .int .i64 0, .int .i64 0, .int .i64 0]) (k := ?_)
    refine WL.op (d := 21) (.pointer (some ⟨b33, 1, none⟩)) (k := ?_)
    refine WL.store (v := .agg #[.int .i64 (n49 : Int), .int .i64 0, .int .i64 0, .int .i64 0, .int .i64 0]) (i := 1) (cs' := #[.int .i64 (n26 : Int), .int .i64 (n49 : Int), .int .i64 0, .int .i64 0, .int .i64 0, .int .i64 0, .bool false, .int .i64 0, .int .i64 0, .int .i64 0]) hb43 (k := fun w56 hb57 k58 => ?_)
    replace hb4 := k58.heap hb4 n39
    replace hr52 := hr52.keeps k58 n40
    replace hb23 := k58.heap hb23 n41
    replace K := K.trans' k58 (fun i hi e => absurd (e ▸ hi) (Nat.not_lt.2 z38))
    clear hb43
    refine WL.nil ?_
    refine WX.seqN ?_
    refine WC.seq ?_
    refine WC.region ?_
    refine WL.op (d := 22) (.func (.func 65) #[] #[.pointer (some ⟨b14, 0, none⟩)]) (k := ?_)
    refine WL.callG (d := 23) (f := 65) (args := #[.pointer (some ⟨b14, 0, none⟩)]) (pRead1_c hb23 hr52 l54) (k := fun e_ w59 h_ => ?_)
    obtain ⟨n60, s61, q62, rfl, hr63, k64, l65, m66⟩ := h_
    refine ⟨_, rfl, ?_⟩
    replace hb4 := k64.heap hb4 n13
    replace hb23 := k64.heap hb23 (Ne.symm n21)
    replace hb57 := k64.heap hb57 (Ne.symm n40)
    replace K := K.trans' k64 (fun i hi e => absurd (e ▸ hi) (Nat.not_lt.2 z12))
    clear hr52
    refine WL.op (d := 24) (.pointer (some ⟨b33, 1, none⟩)) (k := ?_)
    refine WL.op (d := 25) (.pointer (some ⟨b33, 2, none⟩)) (k := ?_)
    refine WL.store (v := .int .i64 (n60 : Int)) (i := 2) (cs' := #[.int .i64 (n26 : Int), .int .i64 (n49 : Int), .int .i64 (n60 : Int), .int .i64 0, .int .i64 0, .int .i64 0, .bool false, .int .i64 0, .int .i64 0, .int .i64 0]) hb57 (k := fun w67 hb68 k69 => ?_)
    replace hb4 := k69.heap hb4 n39
    replace hr63 := hr63.keeps k69 n40
    replace hb23 := k69.heap hb23 n41
    replace K := K.trans' k69 (fun i hi e => absurd (e ▸ hi) (Nat.not_lt.2 z38))
    clear hb57
    refine WL.nil ?_
    refine WX.seqN ?_
    refine WC.seq ?_
    refine WC.region ?_
    refine WL.op (d := 26) (.func (.func 65) #[] #[.pointer (some ⟨b14, 0, none⟩)]) (k := ?_)
    refine WL.callG (d := 27) (f := 65) (args := #[.pointer (some ⟨b14, 0, none⟩)]) (pRead1_c hb23 hr63 l65) (k := fun e_ w70 h_ => ?_)
    obtain ⟨n71, s72, q73, rfl, hr74, k75, l76, m77⟩ := h_
    refine ⟨_, rfl, ?_⟩
    replace hb4 := k75.heap hb4 n13
    replace hb23 := k75.heap hb23 (Ne.symm n21)
    replace hb68 := k75.heap hb68 (Ne.symm n40)
    replace K := K.trans' k75 (fun i hi e => absurd (e ▸ hi) (Nat.not_lt.2 z12))
    clear hr63
    refine WL.op (d := 28) (.pointer (some ⟨b33, 1, none⟩)) (k := ?_)
    refine WL.op (d := 29) (.pointer (some ⟨b33, 3, none⟩)) (k := ?_)
    refine WL.store (v := .int .i64 (n71 : Int)) (i := 3) (cs' := #[.int .i64 (n26 : Int), .int .i64 (n49 : Int), .int .i64 (n60 : Int), .int .i64 (n71 : Int), .int .i64 0, .int .i64 0, .bool false, .int .i64 0, .int .i64 0, .int .i64 0]) hb68 (k := fun w78 hb79 k80 => ?_)
    replace hb4 := k80.heap hb4 n39
    replace hr74 := hr74.keeps k80 n40
    replace hb23 := k80.heap hb23 n41
    replace K := K.trans' k80 (fun i hi e => absurd (e ▸ hi) (Nat.not_lt.2 z38))
    clear hb68
    refine WL.nil ?_
    refine WX.seqN ?_
    refine WC.seq ?_
    refine WC.region ?_
    refine WL.op (d := 30) (.func (.func 65) #[] #[.pointer (some ⟨b14, 0, none⟩)]) (k := ?_)
    refine WL.callG (d := 31) (f := 65) (args := #[.pointer (some ⟨b14, 0, none⟩)]) (pRead1_c hb23 hr74 l76) (k := fun e_ w81 h_ => ?_)
    obtain ⟨n82, s83, q84, rfl, hr85, k86, l87, m88⟩ := h_
    refine ⟨_, rfl, ?_⟩
    replace hb4 := k86.heap hb4 n13
    replace hb23 := k86.heap hb23 (Ne.symm n21)
    replace hb79 := k86.heap hb79 (Ne.symm n40)
    replace K := K.trans' k86 (fun i hi e => absurd (e ▸ hi) (Nat.not_lt.2 z12))
    clear hr74
    refine WL.op (d := 32) (.pointer (some ⟨b33, 1, none⟩)) (k := ?_)
    refine WL.op (d := 33) (.pointer (some ⟨b33, 4, none⟩)) (k := ?_)
    refine WL.store (v := .int .i64 (n82 : Int)) (i := 4) (cs' := #[.int .i64 (n26 : Int), .int .i64 (n49 : Int), .int .i64 (n60 : Int), .int .i64 (n71 : Int), .int .i64 (n82 : Int), .int .i64 0, .bool false, .int .i64 0, .int .i64 0, .int .i64 0]) hb79 (k := fun w89 hb90 k91 => ?_)
    replace hb4 := k91.heap hb4 n39
    replace hr85 := hr85.keeps k91 n40
    replace hb23 := k91.heap hb23 n41
    replace K := K.trans' k91 (fun i hi e => absurd (e ▸ hi) (Nat.not_lt.2 z38))
    clear hb79
    refine WL.nil ?_
    refine WX.seqN ?_
    refine WC.seq ?_
    refine WC.region ?_
    refine WL.load (v := .pointer (some ⟨b8, 0, none⟩)) (ld1 (T := 68) (i := 0) hb23) (k := ?_)
    refine WL.callG (d := 35) (f := 51) (args := #[.pointer (some ⟨b8, 0, none⟩), .int .i64 15]) (rInt_x 15 hr85 l87 (by omega) (by omega)) (k := fun e_ w92 h_ => ?_)
    obtain ⟨n93, s94, q95, rfl, hr96, k97, l98, m99⟩ := h_
    refine ⟨_, rfl, ?_⟩
    replace hb4 := k97.heap hb4 n13
    replace hb23 := k97.heap hb23 (Ne.symm n21)
    replace hb90 := k97.heap hb90 (Ne.symm n40)
    replace K := K.trans' k97 (fun i hi e => absurd (e ▸ hi) (Nat.not_lt.2 z12))
    clear hr85
    refine WL.op (d := 36) (.pointer (some ⟨b33, 1, none⟩)) (k := ?_)
    refine WL.op (d := 37) (.pointer (some ⟨b33, 5, none⟩)) (k := ?_)
    refine WL.store (v := .int .i64 (n93 : Int)) (i := 5) (cs' := #[.int .i64 (n26 : Int), .int .i64 (n49 : Int), .int .i64 (n60 : Int), .int .i64 (n71 : Int), .int .i64 (n82 : Int), .int .i64 (n93 : Int), .bool false, .int .i64 0, .int .i64 0, .int .i64 0]) hb90 (k := fun w100 hb101 k102 => ?_)
    replace hb4 := k102.heap hb4 n39
    replace hr96 := hr96.keeps k102 n40
    replace hb23 := k102.heap hb23 n41
    replace K := K.trans' k102 (fun i hi e => absurd (e ▸ hi) (Nat.not_lt.2 z38))
    clear hb90
    refine WL.nil ?_
    refine WX.seqN ?_
    refine WC.region ?_
    refine WL.load (v := .pointer (some ⟨b8, 0, none⟩)) (ld1 (T := 68) (i := 0) hb23) (k := ?_)
    refine WL.callG (d := 39) (f := 66) (args := #[.pointer (some ⟨b8, 0, none⟩)]) (rFlag_x  hr96 l98 ) (k := fun e_ w103 h_ => ?_)
    obtain ⟨n104, s105, q106, rfl, hr107, k108, l109⟩ := h_
    refine ⟨_, rfl, ?_⟩
    replace hb4 := k108.heap hb4 n13
    replace hb23 := k108.heap hb23 (Ne.symm n21)
    replace hb101 := k108.heap hb101 (Ne.symm n40)
    replace K := K.trans' k108 (fun i hi e => absurd (e ▸ hi) (Nat.not_lt.2 z12))
    clear hr96
    refine WL.op (d := 40) (.pointer (some ⟨b33, 6, none⟩)) (k := ?_)
    refine WL.store (v := .bool n104) (i := 6) (cs' := #[.int .i64 (n26 : Int), .int .i64 (n49 : Int), .int .i64 (n60 : Int), .int .i64 (n71 : Int), .int .i64 (n82 : Int), .int .i64 (n93 : Int), .bool n104, .int .i64 0, .int .i64 0, .int .i64 0]) hb101 (k := fun w111 hb112 k113 => ?_)
    replace hb4 := k113.heap hb4 n39
    replace hr107 := hr107.keeps k113 n40
    replace hb23 := k113.heap hb23 n41
    replace K := K.trans' k113 (fun i hi e => absurd (e ▸ hi) (Nat.not_lt.2 z38))
    clear hb101
    refine WL.nil ?_
    refine WX.blockN ?_
    refine WX.seqN ?_
    refine WC.seq ?_
    refine WC.seq ?_
    refine WC.region ?_
    refine WL.load (v := .pointer (some ⟨b8, 0, none⟩)) (ld1 (T := 68) (i := 0) hb23) (k := ?_)
    refine WL.callG (d := 63) (f := 67) (args := #[.pointer (some ⟨b8, 0, none⟩)]) (rEnd_any _ _ w111 hr107) (k := fun e_ w_ h_ => ⟨.bool (decide (s105 = some [])), h_.1, ?_⟩)
    obtain ⟨-, rfl⟩ := h_
    refine WL.op (d := 64) (.bool (!(decide (s105 = some [])))) (k := ?_)
    refine WL.op (d := 65) (.bool (!(decide (s105 = some [])))) (k := ?_)
    refine bsplit (!(decide (s105 = some []))) (fun h114 => ?_) (fun h114 => ?_)
    · have h115 : (decide (s105 = some [])) = false := by simpa using h114
      have ph115 := of_decide_eq_false h115
      refine WL.rw (t := 65) (v := .bool true) (congrArg Value.bool h114) (k := ?_)
      refine WL.skip (d := 66) (k := ?_)
      refine WL.skip (d := 67) (k := ?_)
      refine WL.skip (d := 68) (k := ?_)
      refine WL.op (d := 69) (.bool true) (k := ?_)
      refine WL.nil ?_
      refine WX.seqN ?_
      refine WC.condT (k := ?_)
      refine WC.seq ?_
      refine WC.region ?_
      refine WL.op (d := 70) (.agg #[.int .i64 0, .int .i64 0, .int .i64 0, .int .i64 0, .int .i64 0, .int .i64 0, .bool false, .int .i64 0, .int .i64 0, .int .i64 0]) (k := ?_)
      refine WL.store (v := .agg #[.int .i64 0, .int .i64 0, .int .i64 0, .int .i64 0, .int .i64 0, .int .i64 0, .bool false, .int .i64 0, .int .i64 0, .int .i64 0]) (i := 0) (cs' := #[.int .i64 0, .int .i64 0, .int .i64 0, .int .i64 0, .int .i64 0, .int .i64 0, .bool false, .int .i64 0, .int .i64 0, .int .i64 0]) hb4 (k := fun w116 hb117 k118 => ?_)
      replace hr107 := hr107.keeps k118 (Ne.symm n13)
      replace hb23 := k118.heap hb23 (Ne.symm n20)
      replace hb112 := k118.heap hb112 (Ne.symm n39)
      replace K := K.trans' k118 (fun i hi e => absurd (e ▸ hi) (Nat.not_lt.2 z6))
      clear hb4
      refine WL.op (d := 3) (.int .i64 10) (k := ?_)
      refine WL.nil ?_
      refine WX.seqN ?_
      refine WC.ret ?_
      refine WX.seqR ?_
      refine WX.ret (rs := [.cell 2 29, .tmp 3]) [.agg #[.int .i64 0, .int .i64 0, .int .i64 0, .int .i64 0, .int .i64 0, .int .i64 0, .bool false, .int .i64 0, .int .i64 0, .int .i64 0], .int .i64 10] (.tuple #[.agg #[.int .i64 0, .int .i64 0, .int .i64 0, .int .i64 0, .int .i64 0, .int .i64 0, .bool false, .int .i64 0, .int .i64 0, .int .i64 0], .int .i64 10]) ⟨⟨_, (by kernel_rfl), ldN (T := 29) (i := 0) (m := 10) (l := [.int .i64 0, .int .i64 0, .int .i64 0, .int .i64 0, .int .i64 0, .int .i64 0, .bool false, .int .i64 0, .int .i64 0, .int .i64 0]) hb117⟩, (by kernel_rfl), trivial⟩ (k := ?_)
      exact ⟨op_res (r := none) (opOf_none (fun o' h1 h2 => ph115 ((rd_1 ph45 q28 q51 q62 q73 q84 q95 q106).2 o' h1 h2).1)).symm, K⟩
    · have h119 : (decide (s105 = some [])) = true := by simpa using h114
      have ph119 := of_decide_eq_true h119
      refine WL.rw (t := 65) (v := .bool false) (congrArg Value.bool h114) (k := ?_)
      refine WL.load (v := .agg #[.int .i64 (n26 : Int), .int .i64 (n49 : Int), .int .i64 (n60 : Int), .int .i64 (n71 : Int), .int .i64 (n82 : Int), .int .i64 (n93 : Int), .bool n104, .int .i64 0, .int .i64 0, .int .i64 0]) (ldN (T := 29) (i := 0) (m := 10) (l := [.int .i64 (n26 : Int), .int .i64 (n49 : Int), .int .i64 (n60 : Int), .int .i64 (n71 : Int), .int .i64 (n82 : Int), .int .i64 (n93 : Int), .bool n104, .int .i64 0, .int .i64 0, .int .i64 0]) hb112) (k := ?_)
      refine WL.callG (d := 67) (f := 23) (args := #[.agg #[.int .i64 (n26 : Int), .int .i64 (n49 : Int), .int .i64 (n60 : Int), .int .i64 (n71 : Int), .int .i64 (n82 : Int), .int .i64 (n93 : Int), .bool n104, .int .i64 0, .int .i64 0, .int .i64 0]]) (pOCheck_c (⟨(n26 : Int), ⟨(n49 : Int), (n60 : Int), (n71 : Int), (n82 : Int), (n93 : Int)⟩, n104, 0, 0, 0⟩ : GOp) w111) (k := fun e_ w120 h_ => ⟨.bool (decide (GOp.ok (⟨(n26 : Int), ⟨(n49 : Int), (n60 : Int), (n71 : Int), (n82 : Int), (n93 : Int)⟩, n104, 0, 0, 0⟩ : GOp))), h_.1, ?_⟩)
      have k121 := h_.2; clear h_
      replace hb4 := k121.heap hb4 id
      replace hr107 := hr107.keeps k121 id
      replace hb23 := k121.heap hb23 id
      replace hb112 := k121.heap hb112 id
      replace K := K.trans (k121.any _)
      refine WL.op (d := 68) (.bool (!(decide (GOp.ok (⟨(n26 : Int), ⟨(n49 : Int), (n60 : Int), (n71 : Int), (n82 : Int), (n93 : Int)⟩, n104, 0, 0, 0⟩ : GOp))))) (k := ?_)
      refine WL.op (d := 69) (.bool (!(decide (GOp.ok (⟨(n26 : Int), ⟨(n49 : Int), (n60 : Int), (n71 : Int), (n82 : Int), (n93 : Int)⟩, n104, 0, 0, 0⟩ : GOp))))) (k := ?_)
      refine WL.nil ?_
      refine WX.seqN ?_
      refine WC.cond (b := !(decide (GOp.ok (⟨(n26 : Int), ⟨(n49 : Int), (n60 : Int), (n71 : Int), (n82 : Int), (n93 : Int)⟩, n104, 0, 0, 0⟩ : GOp)))) (ht := fun h122 => ?_) (hf := fun h122 => ?_)
      · have h123 : (decide (GOp.ok (⟨(n26 : Int), ⟨(n49 : Int), (n60 : Int), (n71 : Int), (n82 : Int), (n93 : Int)⟩, n104, 0, 0, 0⟩ : GOp))) = false := by simpa using h122
        have ph123 := of_decide_eq_false h123
        refine WC.seq ?_
        refine WC.region ?_
        refine WL.op (d := 70) (.agg #[.int .i64 0, .int .i64 0, .int .i64 0, .int .i64 0, .int .i64 0, .int .i64 0, .bool false, .int .i64 0, .int .i64 0, .int .i64 0]) (k := ?_)
        refine WL.store (v := .agg #[.int .i64 0, .int .i64 0, .int .i64 0, .int .i64 0, .int .i64 0, .int .i64 0, .bool false, .int .i64 0, .int .i64 0, .int .i64 0]) (i := 0) (cs' := #[.int .i64 0, .int .i64 0, .int .i64 0, .int .i64 0, .int .i64 0, .int .i64 0, .bool false, .int .i64 0, .int .i64 0, .int .i64 0]) hb4 (k := fun w124 hb125 k126 => ?_)
        replace hr107 := hr107.keeps k126 (Ne.symm n13)
        replace hb23 := k126.heap hb23 (Ne.symm n20)
        replace hb112 := k126.heap hb112 (Ne.symm n39)
        replace K := K.trans' k126 (fun i hi e => absurd (e ▸ hi) (Nat.not_lt.2 z6))
        clear hb4
        refine WL.op (d := 3) (.int .i64 10) (k := ?_)
        refine WL.nil ?_
        refine WX.seqN ?_
        refine WC.ret ?_
        refine WX.seqR ?_
        refine WX.ret (rs := [.cell 2 29, .tmp 3]) [.agg #[.int .i64 0, .int .i64 0, .int .i64 0, .int .i64 0, .int .i64 0, .int .i64 0, .bool false, .int .i64 0, .int .i64 0, .int .i64 0], .int .i64 10] (.tuple #[.agg #[.int .i64 0, .int .i64 0, .int .i64 0, .int .i64 0, .int .i64 0, .int .i64 0, .bool false, .int .i64 0, .int .i64 0, .int .i64 0], .int .i64 10]) ⟨⟨_, (by kernel_rfl), ldN (T := 29) (i := 0) (m := 10) (l := [.int .i64 0, .int .i64 0, .int .i64 0, .int .i64 0, .int .i64 0, .int .i64 0, .bool false, .int .i64 0, .int .i64 0, .int .i64 0]) hb125⟩, (by kernel_rfl), trivial⟩ (k := ?_)
        exact ⟨op_res (r := none) (opOf_none (fun o' h1 h2 => ph123 (((rd_1 ph45 q28 q51 q62 q73 q84 q95 q106).2 o' h1 h2).2 ▸ h1))).symm, K⟩
      · have h127 : (decide (GOp.ok (⟨(n26 : Int), ⟨(n49 : Int), (n60 : Int), (n71 : Int), (n82 : Int), (n93 : Int)⟩, n104, 0, 0, 0⟩ : GOp))) = true := by simpa using h122
        have ph127 := of_decide_eq_true h127
        refine WC.skip ?_
        refine WX.seqN ?_
        refine WC.seq ?_
        refine WC.region ?_
        refine WL.load (v := .agg #[.int .i64 (n26 : Int), .int .i64 (n49 : Int), .int .i64 (n60 : Int), .int .i64 (n71 : Int), .int .i64 (n82 : Int), .int .i64 (n93 : Int), .bool n104, .int .i64 0, .int .i64 0, .int .i64 0]) (ldN (T := 29) (i := 0) (m := 10) (l := [.int .i64 (n26 : Int), .int .i64 (n49 : Int), .int .i64 (n60 : Int), .int .i64 (n71 : Int), .int .i64 (n82 : Int), .int .i64 (n93 : Int), .bool n104, .int .i64 0, .int .i64 0, .int .i64 0]) hb112) (k := ?_)
        refine WL.store (v := .agg #[.int .i64 (n26 : Int), .int .i64 (n49 : Int), .int .i64 (n60 : Int), .int .i64 (n71 : Int), .int .i64 (n82 : Int), .int .i64 (n93 : Int), .bool n104, .int .i64 0, .int .i64 0, .int .i64 0]) (i := 0) (cs' := #[.int .i64 (n26 : Int), .int .i64 (n49 : Int), .int .i64 (n60 : Int), .int .i64 (n71 : Int), .int .i64 (n82 : Int), .int .i64 (n93 : Int), .bool n104, .int .i64 0, .int .i64 0, .int .i64 0]) hb4 (k := fun w128 hb129 k130 => ?_)
        replace hr107 := hr107.keeps k130 (Ne.symm n13)
        replace hb23 := k130.heap hb23 (Ne.symm n20)
        replace hb112 := k130.heap hb112 (Ne.symm n39)
        replace K := K.trans' k130 (fun i hi e => absurd (e ▸ hi) (Nat.not_lt.2 z6))
        clear hb4
        refine WL.op (d := 3) (.int .i64 0) (k := ?_)
        refine WL.nil ?_
        refine WX.seqN ?_
        refine WC.ret ?_
        refine WX.ret (rs := [.cell 2 29, .tmp 3]) [.agg #[.int .i64 (n26 : Int), .int .i64 (n49 : Int), .int .i64 (n60 : Int), .int .i64 (n71 : Int), .int .i64 (n82 : Int), .int .i64 (n93 : Int), .bool n104, .int .i64 0, .int .i64 0, .int .i64 0], .int .i64 0] (.tuple #[.agg #[.int .i64 (n26 : Int), .int .i64 (n49 : Int), .int .i64 (n60 : Int), .int .i64 (n71 : Int), .int .i64 (n82 : Int), .int .i64 (n93 : Int), .bool n104, .int .i64 0, .int .i64 0, .int .i64 0], .int .i64 0]) ⟨⟨_, (by kernel_rfl), ldN (T := 29) (i := 0) (m := 10) (l := [.int .i64 (n26 : Int), .int .i64 (n49 : Int), .int .i64 (n60 : Int), .int .i64 (n71 : Int), .int .i64 (n82 : Int), .int .i64 (n93 : Int), .bool n104, .int .i64 0, .int .i64 0, .int .i64 0]) hb129⟩, (by kernel_rfl), trivial⟩ (k := ?_)
        exact ⟨op_res (opOf_some ph127 ((rd_1 ph45 q28 q51 q62 q73 q84 q95 q106).1 ph119)).symm, K⟩
  · have ph45 := of_decide_eq_false h45
    refine bsplit (decide ((n26 : Int) = 2)) (fun h131 => ?_) (fun h131 => ?_)
    · have ph131 := of_decide_eq_true h131
      refine WL.callG (d := 14) (f := 37) (args := #[.agg #[.int .i64 (n26 : Int), .int .i64 0, .int .i64 0, .int .i64 0, .int .i64 0, .int .i64 0, .bool false, .int .i64 0, .int .i64 0, .int .i64 0]]) (pOf_k2 (⟨(n26 : Int), ⟨0, 0, 0, 0, 0⟩, false, 0, 0, 0⟩ : GOp) ph131 w42) (k := fun e_ w132 h_ => ⟨.iface 103 (.agg #[.int .i64 0]), h_.1, ?_⟩)
      have k133 := h_.2; clear h_
      replace hb4 := k133.heap hb4 id
      replace hr29 := hr29.keeps k133 id
      replace hb23 := k133.heap hb23 id
      replace hb43 := k133.heap hb43 id
      replace K := K.trans (k133.any _)
      refine WL.nil ?_
      refine WX.seqN ?_
      refine WC.block ?_
      refine WC.seq ?_
      refine WC.region ?_
      refine WL.op (d := 15) (.tuple #[.agg #[.int .i64 0, .int .i64 0, .int .i64 0, .int .i64 0, .int .i64 0, .bool false], .bool false]) (k := ?_)
      refine WL.op (d := 16) (.bool false) (k := ?_)
      refine WL.op (d := 17) (.agg #[.int .i64 0, .int .i64 0, .int .i64 0, .int .i64 0, .int .i64 0, .bool false]) (k := ?_)
      refine WL.nil ?_
      refine WX.seqN ?_
      refine WC.condF (k := ?_)
      refine WC.seq ?_
      refine WC.region ?_
      refine WL.op (d := 41) (.tuple #[.agg #[.int .i64 0], .bool true]) (k := ?_)
      refine WL.op (d := 42) (.bool true) (k := ?_)
      refine WL.op (d := 43) (.agg #[.int .i64 0]) (k := ?_)
      refine WL.nil ?_
      refine WX.seqN ?_
      refine WC.condT (k := ?_)
      refine WC.region ?_
      refine WL.load (v := .pointer (some ⟨b8, 0, none⟩)) (ld1 (T := 68) (i := 0) hb23) (k := ?_)
      refine WL.callG (d := 45) (f := 51) (args := #[.pointer (some ⟨b8, 0, none⟩), .int .i64 1023]) (rInt_x 1023 hr29 l31 (by omega) (by omega)) (k := fun e_ w134 h_ => ?_)
      obtain ⟨n135, s136, q137, rfl, hr138, k139, l140, m141⟩ := h_
      refine ⟨_, rfl, ?_⟩
      replace hb4 := k139.heap hb4 n13
      replace hb23 := k139.heap hb23 (Ne.symm n21)
      replace hb43 := k139.heap hb43 (Ne.symm n40)
      replace K := K.trans' k139 (fun i hi e => absurd (e ▸ hi) (Nat.not_lt.2 z12))
      clear hr29
      refine WL.op (d := 46) (.pointer (some ⟨b33, 7, none⟩)) (k := ?_)
      refine WL.store (v := .int .i64 (n135 : Int)) (i := 7) (cs' := #[.int .i64 (n26 : Int), .int .i64 0, .int .i64 0, .int .i64 0, .int .i64 0, .int .i64 0, .bool false, .int .i64 (n135 : Int), .int .i64 0, .int .i64 0]) hb43 (k := fun w142 hb143 k144 => ?_)
      replace hb4 := k144.heap hb4 n39
      replace hr138 := hr138.keeps k144 n40
      replace hb23 := k144.heap hb23 n41
      replace K := K.trans' k144 (fun i hi e => absurd (e ▸ hi) (Nat.not_lt.2 z38))
      clear hb43
      refine WL.nil ?_
      refine WX.blockN ?_
      refine WX.seqN ?_
      refine WC.seq ?_
      refine WC.seq ?_
      refine WC.region ?_
      refine WL.load (v := .pointer (some ⟨b8, 0, none⟩)) (ld1 (T := 68) (i := 0) hb23) (k := ?_)
      refine WL.callG (d := 63) (f := 67) (args := #[.pointer (some ⟨b8, 0, none⟩)]) (rEnd_any _ _ w142 hr138) (k := fun e_ w_ h_ => ⟨.bool (decide (s136 = some [])), h_.1, ?_⟩)
      obtain ⟨-, rfl⟩ := h_
      refine WL.op (d := 64) (.bool (!(decide (s136 = some [])))) (k := ?_)
      refine WL.op (d := 65) (.bool (!(decide (s136 = some [])))) (k := ?_)
      refine bsplit (!(decide (s136 = some []))) (fun h145 => ?_) (fun h145 => ?_)
      · have h146 : (decide (s136 = some [])) = false := by simpa using h145
        have ph146 := of_decide_eq_false h146
        refine WL.rw (t := 65) (v := .bool true) (congrArg Value.bool h145) (k := ?_)
        refine WL.skip (d := 66) (k := ?_)
        refine WL.skip (d := 67) (k := ?_)
        refine WL.skip (d := 68) (k := ?_)
        refine WL.op (d := 69) (.bool true) (k := ?_)
        refine WL.nil ?_
        refine WX.seqN ?_
        refine WC.condT (k := ?_)
        refine WC.seq ?_
        refine WC.region ?_
        refine WL.op (d := 70) (.agg #[.int .i64 0, .int .i64 0, .int .i64 0, .int .i64 0, .int .i64 0, .int .i64 0, .bool false, .int .i64 0, .int .i64 0, .int .i64 0]) (k := ?_)
        refine WL.store (v := .agg #[.int .i64 0, .int .i64 0, .int .i64 0, .int .i64 0, .int .i64 0, .int .i64 0, .bool false, .int .i64 0, .int .i64 0, .int .i64 0]) (i := 0) (cs' := #[.int .i64 0, .int .i64 0, .int .i64 0, .int .i64 0, .int .i64 0, .int .i64 0, .bool false, .int .i64 0, .int .i64 0, .int .i64 0]) hb4 (k := fun w147 hb148 k149 => ?_)
        replace hr138 := hr138.keeps k149 (Ne.symm n13)
        replace hb23 := k149.heap hb23 (Ne.symm n20)
        replace hb143 := k149.heap hb143 (Ne.symm n39)
        replace K := K.trans' k149 (fun i hi e => absurd (e ▸ hi) (Nat.not_lt.2 z6))
        clear hb4
        refine WL.op (d := 3) (.int .i64 10) (k := ?_)
        refine WL.nil ?_
        refine WX.seqN ?_
        refine WC.ret ?_
        refine WX.seqR ?_
        refine WX.ret (rs := [.cell 2 29, .tmp 3]) [.agg #[.int .i64 0, .int .i64 0, .int .i64 0, .int .i64 0, .int .i64 0, .int .i64 0, .bool false, .int .i64 0, .int .i64 0, .int .i64 0], .int .i64 10] (.tuple #[.agg #[.int .i64 0, .int .i64 0, .int .i64 0, .int .i64 0, .int .i64 0, .int .i64 0, .bool false, .int .i64 0, .int .i64 0, .int .i64 0], .int .i64 10]) ⟨⟨_, (by kernel_rfl), ldN (T := 29) (i := 0) (m := 10) (l := [.int .i64 0, .int .i64 0, .int .i64 0, .int .i64 0, .int .i64 0, .int .i64 0, .bool false, .int .i64 0, .int .i64 0, .int .i64 0]) hb148⟩, (by kernel_rfl), trivial⟩ (k := ?_)
        exact ⟨op_res (r := none) (opOf_none (fun o' h1 h2 => ph146 ((rd_2 ph131 q28 q137).2 o' h1 h2).1)).symm, K⟩
      · have h150 : (decide (s136 = some [])) = true := by simpa using h145
        have ph150 := of_decide_eq_true h150
        refine WL.rw (t := 65) (v := .bool false) (congrArg Value.bool h145) (k := ?_)
        refine WL.load (v := .agg #[.int .i64 (n26 : Int), .int .i64 0, .int .i64 0, .int .i64 0, .int .i64 0, .int .i64 0, .bool false, .int .i64 (n135 : Int), .int .i64 0, .int .i64 0]) (ldN (T := 29) (i := 0) (m := 10) (l := [.int .i64 (n26 : Int), .int .i64 0, .int .i64 0, .int .i64 0, .int .i64 0, .int .i64 0, .bool false, .int .i64 (n135 : Int), .int .i64 0, .int .i64 0]) hb143) (k := ?_)
        refine WL.callG (d := 67) (f := 23) (args := #[.agg #[.int .i64 (n26 : Int), .int .i64 0, .int .i64 0, .int .i64 0, .int .i64 0, .int .i64 0, .bool false, .int .i64 (n135 : Int), .int .i64 0, .int .i64 0]]) (pOCheck_c (⟨(n26 : Int), ⟨0, 0, 0, 0, 0⟩, false, (n135 : Int), 0, 0⟩ : GOp) w142) (k := fun e_ w151 h_ => ⟨.bool (decide (GOp.ok (⟨(n26 : Int), ⟨0, 0, 0, 0, 0⟩, false, (n135 : Int), 0, 0⟩ : GOp))), h_.1, ?_⟩)
        have k152 := h_.2; clear h_
        replace hb4 := k152.heap hb4 id
        replace hr138 := hr138.keeps k152 id
        replace hb23 := k152.heap hb23 id
        replace hb143 := k152.heap hb143 id
        replace K := K.trans (k152.any _)
        refine WL.op (d := 68) (.bool (!(decide (GOp.ok (⟨(n26 : Int), ⟨0, 0, 0, 0, 0⟩, false, (n135 : Int), 0, 0⟩ : GOp))))) (k := ?_)
        refine WL.op (d := 69) (.bool (!(decide (GOp.ok (⟨(n26 : Int), ⟨0, 0, 0, 0, 0⟩, false, (n135 : Int), 0, 0⟩ : GOp))))) (k := ?_)
        refine WL.nil ?_
        refine WX.seqN ?_
        refine WC.cond (b := !(decide (GOp.ok (⟨(n26 : Int), ⟨0, 0, 0, 0, 0⟩, false, (n135 : Int), 0, 0⟩ : GOp)))) (ht := fun h153 => ?_) (hf := fun h153 => ?_)
        · have h154 : (decide (GOp.ok (⟨(n26 : Int), ⟨0, 0, 0, 0, 0⟩, false, (n135 : Int), 0, 0⟩ : GOp))) = false := by simpa using h153
          have ph154 := of_decide_eq_false h154
          refine WC.seq ?_
          refine WC.region ?_
          refine WL.op (d := 70) (.agg #[.int .i64 0, .int .i64 0, .int .i64 0, .int .i64 0, .int .i64 0, .int .i64 0, .bool false, .int .i64 0, .int .i64 0, .int .i64 0]) (k := ?_)
          refine WL.store (v := .agg #[.int .i64 0, .int .i64 0, .int .i64 0, .int .i64 0, .int .i64 0, .int .i64 0, .bool false, .int .i64 0, .int .i64 0, .int .i64 0]) (i := 0) (cs' := #[.int .i64 0, .int .i64 0, .int .i64 0, .int .i64 0, .int .i64 0, .int .i64 0, .bool false, .int .i64 0, .int .i64 0, .int .i64 0]) hb4 (k := fun w155 hb156 k157 => ?_)
          replace hr138 := hr138.keeps k157 (Ne.symm n13)
          replace hb23 := k157.heap hb23 (Ne.symm n20)
          replace hb143 := k157.heap hb143 (Ne.symm n39)
          replace K := K.trans' k157 (fun i hi e => absurd (e ▸ hi) (Nat.not_lt.2 z6))
          clear hb4
          refine WL.op (d := 3) (.int .i64 10) (k := ?_)
          refine WL.nil ?_
          refine WX.seqN ?_
          refine WC.ret ?_
          refine WX.seqR ?_
          refine WX.ret (rs := [.cell 2 29, .tmp 3]) [.agg #[.int .i64 0, .int .i64 0, .int .i64 0, .int .i64 0, .int .i64 0, .int .i64 0, .bool false, .int .i64 0, .int .i64 0, .int .i64 0], .int .i64 10] (.tuple #[.agg #[.int .i64 0, .int .i64 0, .int .i64 0, .int .i64 0, .int .i64 0, .int .i64 0, .bool false, .int .i64 0, .int .i64 0, .int .i64 0], .int .i64 10]) ⟨⟨_, (by kernel_rfl), ldN (T := 29) (i := 0) (m := 10) (l := [.int .i64 0, .int .i64 0, .int .i64 0, .int .i64 0, .int .i64 0, .int .i64 0, .bool false, .int .i64 0, .int .i64 0, .int .i64 0]) hb156⟩, (by kernel_rfl), trivial⟩ (k := ?_)
          exact ⟨op_res (r := none) (opOf_none (fun o' h1 h2 => ph154 (((rd_2 ph131 q28 q137).2 o' h1 h2).2 ▸ h1))).symm, K⟩
        · have h158 : (decide (GOp.ok (⟨(n26 : Int), ⟨0, 0, 0, 0, 0⟩, false, (n135 : Int), 0, 0⟩ : GOp))) = true := by simpa using h153
          have ph158 := of_decide_eq_true h158
          refine WC.skip ?_
          refine WX.seqN ?_
          refine WC.seq ?_
          refine WC.region ?_
          refine WL.load (v := .agg #[.int .i64 (n26 : Int), .int .i64 0, .int .i64 0, .int .i64 0, .int .i64 0, .int .i64 0, .bool false, .int .i64 (n135 : Int), .int .i64 0, .int .i64 0]) (ldN (T := 29) (i := 0) (m := 10) (l := [.int .i64 (n26 : Int), .int .i64 0, .int .i64 0, .int .i64 0, .int .i64 0, .int .i64 0, .bool false, .int .i64 (n135 : Int), .int .i64 0, .int .i64 0]) hb143) (k := ?_)
          refine WL.store (v := .agg #[.int .i64 (n26 : Int), .int .i64 0, .int .i64 0, .int .i64 0, .int .i64 0, .int .i64 0, .bool false, .int .i64 (n135 : Int), .int .i64 0, .int .i64 0]) (i := 0) (cs' := #[.int .i64 (n26 : Int), .int .i64 0, .int .i64 0, .int .i64 0, .int .i64 0, .int .i64 0, .bool false, .int .i64 (n135 : Int), .int .i64 0, .int .i64 0]) hb4 (k := fun w159 hb160 k161 => ?_)
          replace hr138 := hr138.keeps k161 (Ne.symm n13)
          replace hb23 := k161.heap hb23 (Ne.symm n20)
          replace hb143 := k161.heap hb143 (Ne.symm n39)
          replace K := K.trans' k161 (fun i hi e => absurd (e ▸ hi) (Nat.not_lt.2 z6))
          clear hb4
          refine WL.op (d := 3) (.int .i64 0) (k := ?_)
          refine WL.nil ?_
          refine WX.seqN ?_
          refine WC.ret ?_
          refine WX.ret (rs := [.cell 2 29, .tmp 3]) [.agg #[.int .i64 (n26 : Int), .int .i64 0, .int .i64 0, .int .i64 0, .int .i64 0, .int .i64 0, .bool false, .int .i64 (n135 : Int), .int .i64 0, .int .i64 0], .int .i64 0] (.tuple #[.agg #[.int .i64 (n26 : Int), .int .i64 0, .int .i64 0, .int .i64 0, .int .i64 0, .int .i64 0, .bool false, .int .i64 (n135 : Int), .int .i64 0, .int .i64 0], .int .i64 0]) ⟨⟨_, (by kernel_rfl), ldN (T := 29) (i := 0) (m := 10) (l := [.int .i64 (n26 : Int), .int .i64 0, .int .i64 0, .int .i64 0, .int .i64 0, .int .i64 0, .bool false, .int .i64 (n135 : Int), .int .i64 0, .int .i64 0]) hb160⟩, (by kernel_rfl), trivial⟩ (k := ?_)
          exact ⟨op_res (opOf_some ph158 ((rd_2 ph131 q28 q137).1 ph150)).symm, K⟩
    · have ph131 := of_decide_eq_false h131
      refine bsplit (decide ((n26 : Int) = 3)) (fun h162 => ?_) (fun h162 => ?_)
      · have ph162 := of_decide_eq_true h162
        refine WL.callG (d := 14) (f := 37) (args := #[.agg #[.int .i64 (n26 : Int), .int .i64 0, .int .i64 0, .int .i64 0, .int .i64 0, .int .i64 0, .bool false, .int .i64 0, .int .i64 0, .int .i64 0]]) (pOf_k3 (⟨(n26 : Int), ⟨0, 0, 0, 0, 0⟩, false, 0, 0, 0⟩ : GOp) ph162 w42) (k := fun e_ w163 h_ => ⟨.iface 105 (.agg #[.int .i64 0, .int .i64 0]), h_.1, ?_⟩)
        have k164 := h_.2; clear h_
        replace hb4 := k164.heap hb4 id
        replace hr29 := hr29.keeps k164 id
        replace hb23 := k164.heap hb23 id
        replace hb43 := k164.heap hb43 id
        replace K := K.trans (k164.any _)
        refine WL.nil ?_
        refine WX.seqN ?_
        refine WC.block ?_
        refine WC.seq ?_
        refine WC.region ?_
        refine WL.op (d := 15) (.tuple #[.agg #[.int .i64 0, .int .i64 0, .int .i64 0, .int .i64 0, .int .i64 0, .bool false], .bool false]) (k := ?_)
        refine WL.op (d := 16) (.bool false) (k := ?_)
        refine WL.op (d := 17) (.agg #[.int .i64 0, .int .i64 0, .int .i64 0, .int .i64 0, .int .i64 0, .bool false]) (k := ?_)
        refine WL.nil ?_
        refine WX.seqN ?_
        refine WC.condF (k := ?_)
        refine WC.seq ?_
        refine WC.region ?_
        refine WL.op (d := 41) (.tuple #[.agg #[.int .i64 0], .bool false]) (k := ?_)
        refine WL.op (d := 42) (.bool false) (k := ?_)
        refine WL.op (d := 43) (.agg #[.int .i64 0]) (k := ?_)
        refine WL.nil ?_
        refine WX.seqN ?_
        refine WC.condF (k := ?_)
        refine WC.seq ?_
        refine WC.region ?_
        refine WL.op (d := 47) (.tuple #[.agg #[.int .i64 0, .int .i64 0], .bool true]) (k := ?_)
        refine WL.op (d := 48) (.bool true) (k := ?_)
        refine WL.op (d := 49) (.agg #[.int .i64 0, .int .i64 0]) (k := ?_)
        refine WL.nil ?_
        refine WX.seqN ?_
        refine WC.condT (k := ?_)
        refine WC.seq ?_
        refine WC.region ?_
        refine WL.load (v := .pointer (some ⟨b8, 0, none⟩)) (ld1 (T := 68) (i := 0) hb23) (k := ?_)
        refine WL.callG (d := 51) (f := 51) (args := #[.pointer (some ⟨b8, 0, none⟩), .int .i64 1023]) (rInt_x 1023 hr29 l31 (by omega) (by omega)) (k := fun e_ w165 h_ => ?_)
        obtain ⟨n166, s167, q168, rfl, hr169, k170, l171, m172⟩ := h_
        refine ⟨_, rfl, ?_⟩
        replace hb4 := k170.heap hb4 n13
        replace hb23 := k170.heap hb23 (Ne.symm n21)
        replace hb43 := k170.heap hb43 (Ne.symm n40)
        replace K := K.trans' k170 (fun i hi e => absurd (e ▸ hi) (Nat.not_lt.2 z12))
        clear hr29
        refine WL.op (d := 52) (.pointer (some ⟨b33, 7, none⟩)) (k := ?_)
        refine WL.store (v := .int .i64 (n166 : Int)) (i := 7) (cs' := #[.int .i64 (n26 : Int), .int .i64 0, .int .i64 0, .int .i64 0, .int .i64 0, .int .i64 0, .bool false, .int .i64 (n166 : Int), .int .i64 0, .int .i64 0]) hb43 (k := fun w173 hb174 k175 => ?_)
        replace hb4 := k175.heap hb4 n39
        replace hr169 := hr169.keeps k175 n40
        replace hb23 := k175.heap hb23 n41
        replace K := K.trans' k175 (fun i hi e => absurd (e ▸ hi) (Nat.not_lt.2 z38))
        clear hb43
        refine WL.nil ?_
        refine WX.seqN ?_
        refine WC.region ?_
        refine WL.op (d := 53) (.func (.func 65) #[] #[.pointer (some ⟨b14, 0, none⟩)]) (k := ?_)
        refine WL.callG (d := 54) (f := 65) (args := #[.pointer (some ⟨b14, 0, none⟩)]) (pRead1_c hb23 hr169 l171) (k := fun e_ w176 h_ => ?_)
        obtain ⟨n177, s178, q179, rfl, hr180, k181, l182, m183⟩ := h_
        refine ⟨_, rfl, ?_⟩
        replace hb4 := k181.heap hb4 n13
        replace hb23 := k181.heap hb23 (Ne.symm n21)
        replace hb174 := k181.heap hb174 (Ne.symm n40)
        replace K := K.trans' k181 (fun i hi e => absurd (e ▸ hi) (Nat.not_lt.2 z12))
        clear hr169
        refine WL.op (d := 55) (.pointer (some ⟨b33, 8, none⟩)) (k := ?_)
        refine WL.store (v := .int .i64 (n177 : Int)) (i := 8) (cs' := #[.int .i64 (n26 : Int), .int .i64 0, .int .i64 0, .int .i64 0, .int .i64 0, .int .i64 0, .bool false, .int .i64 (n166 : Int), .int .i64 (n177 : Int), .int .i64 0]) hb174 (k := fun w184 hb185 k186 => ?_)
        replace hb4 := k186.heap hb4 n39
        replace hr180 := hr180.keeps k186 n40
        replace hb23 := k186.heap hb23 n41
        replace K := K.trans' k186 (fun i hi e => absurd (e ▸ hi) (Nat.not_lt.2 z38))
        clear hb174
        refine WL.nil ?_
        refine WX.blockN ?_
        refine WX.seqN ?_
        refine WC.seq ?_
        refine WC.seq ?_
        refine WC.region ?_
        refine WL.load (v := .pointer (some ⟨b8, 0, none⟩)) (ld1 (T := 68) (i := 0) hb23) (k := ?_)
        refine WL.callG (d := 63) (f := 67) (args := #[.pointer (some ⟨b8, 0, none⟩)]) (rEnd_any _ _ w184 hr180) (k := fun e_ w_ h_ => ⟨.bool (decide (s178 = some [])), h_.1, ?_⟩)
        obtain ⟨-, rfl⟩ := h_
        refine WL.op (d := 64) (.bool (!(decide (s178 = some [])))) (k := ?_)
        refine WL.op (d := 65) (.bool (!(decide (s178 = some [])))) (k := ?_)
        refine bsplit (!(decide (s178 = some []))) (fun h187 => ?_) (fun h187 => ?_)
        · have h188 : (decide (s178 = some [])) = false := by simpa using h187
          have ph188 := of_decide_eq_false h188
          refine WL.rw (t := 65) (v := .bool true) (congrArg Value.bool h187) (k := ?_)
          refine WL.skip (d := 66) (k := ?_)
          refine WL.skip (d := 67) (k := ?_)
          refine WL.skip (d := 68) (k := ?_)
          refine WL.op (d := 69) (.bool true) (k := ?_)
          refine WL.nil ?_
          refine WX.seqN ?_
          refine WC.condT (k := ?_)
          refine WC.seq ?_
          refine WC.region ?_
          refine WL.op (d := 70) (.agg #[.int .i64 0, .int .i64 0, .int .i64 0, .int .i64 0, .int .i64 0, .int .i64 0, .bool false, .int .i64 0, .int .i64 0, .int .i64 0]) (k := ?_)
          refine WL.store (v := .agg #[.int .i64 0, .int .i64 0, .int .i64 0, .int .i64 0, .int .i64 0, .int .i64 0, .bool false, .int .i64 0, .int .i64 0, .int .i64 0]) (i := 0) (cs' := #[.int .i64 0, .int .i64 0, .int .i64 0, .int .i64 0, .int .i64 0, .int .i64 0, .bool false, .int .i64 0, .int .i64 0, .int .i64 0]) hb4 (k := fun w189 hb190 k191 => ?_)
          replace hr180 := hr180.keeps k191 (Ne.symm n13)
          replace hb23 := k191.heap hb23 (Ne.symm n20)
          replace hb185 := k191.heap hb185 (Ne.symm n39)
          replace K := K.trans' k191 (fun i hi e => absurd (e ▸ hi) (Nat.not_lt.2 z6))
          clear hb4
          refine WL.op (d := 3) (.int .i64 10) (k := ?_)
          refine WL.nil ?_
          refine WX.seqN ?_
          refine WC.ret ?_
          refine WX.seqR ?_
          refine WX.ret (rs := [.cell 2 29, .tmp 3]) [.agg #[.int .i64 0, .int .i64 0, .int .i64 0, .int .i64 0, .int .i64 0, .int .i64 0, .bool false, .int .i64 0, .int .i64 0, .int .i64 0], .int .i64 10] (.tuple #[.agg #[.int .i64 0, .int .i64 0, .int .i64 0, .int .i64 0, .int .i64 0, .int .i64 0, .bool false, .int .i64 0, .int .i64 0, .int .i64 0], .int .i64 10]) ⟨⟨_, (by kernel_rfl), ldN (T := 29) (i := 0) (m := 10) (l := [.int .i64 0, .int .i64 0, .int .i64 0, .int .i64 0, .int .i64 0, .int .i64 0, .bool false, .int .i64 0, .int .i64 0, .int .i64 0]) hb190⟩, (by kernel_rfl), trivial⟩ (k := ?_)
          exact ⟨op_res (r := none) (opOf_none (fun o' h1 h2 => ph188 ((rd_3 ph162 q28 q168 q179).2 o' h1 h2).1)).symm, K⟩
        · have h192 : (decide (s178 = some [])) = true := by simpa using h187
          have ph192 := of_decide_eq_true h192
          refine WL.rw (t := 65) (v := .bool false) (congrArg Value.bool h187) (k := ?_)
          refine WL.load (v := .agg #[.int .i64 (n26 : Int), .int .i64 0, .int .i64 0, .int .i64 0, .int .i64 0, .int .i64 0, .bool false, .int .i64 (n166 : Int), .int .i64 (n177 : Int), .int .i64 0]) (ldN (T := 29) (i := 0) (m := 10) (l := [.int .i64 (n26 : Int), .int .i64 0, .int .i64 0, .int .i64 0, .int .i64 0, .int .i64 0, .bool false, .int .i64 (n166 : Int), .int .i64 (n177 : Int), .int .i64 0]) hb185) (k := ?_)
          refine WL.callG (d := 67) (f := 23) (args := #[.agg #[.int .i64 (n26 : Int), .int .i64 0, .int .i64 0, .int .i64 0, .int .i64 0, .int .i64 0, .bool false, .int .i64 (n166 : Int), .int .i64 (n177 : Int), .int .i64 0]]) (pOCheck_c (⟨(n26 : Int), ⟨0, 0, 0, 0, 0⟩, false, (n166 : Int), (n177 : Int), 0⟩ : GOp) w184) (k := fun e_ w193 h_ => ⟨.bool (decide (GOp.ok (⟨(n26 : Int), ⟨0, 0, 0, 0, 0⟩, false, (n166 : Int), (n177 : Int), 0⟩ : GOp))), h_.1, ?_⟩)
          have k194 := h_.2; clear h_
          replace hb4 := k194.heap hb4 id
          replace hr180 := hr180.keeps k194 id
          replace hb23 := k194.heap hb23 id
          replace hb185 := k194.heap hb185 id
          replace K := K.trans (k194.any _)
          refine WL.op (d := 68) (.bool (!(decide (GOp.ok (⟨(n26 : Int), ⟨0, 0, 0, 0, 0⟩, false, (n166 : Int), (n177 : Int), 0⟩ : GOp))))) (k := ?_)
          refine WL.op (d := 69) (.bool (!(decide (GOp.ok (⟨(n26 : Int), ⟨0, 0, 0, 0, 0⟩, false, (n166 : Int), (n177 : Int), 0⟩ : GOp))))) (k := ?_)
          refine WL.nil ?_
          refine WX.seqN ?_
          refine WC.cond (b := !(decide (GOp.ok (⟨(n26 : Int), ⟨0, 0, 0, 0, 0⟩, false, (n166 : Int), (n177 : Int), 0⟩ : GOp)))) (ht := fun h195 => ?_) (hf := fun h195 => ?_)
          · have h196 : (decide (GOp.ok (⟨(n26 : Int), ⟨0, 0, 0, 0, 0⟩, false, (n166 : Int), (n177 : Int), 0⟩ : GOp))) = false := by simpa using h195
            have ph196 := of_decide_eq_false h196
            refine WC.seq ?_
            refine WC.region ?_
            refine WL.op (d := 70) (.agg #[.int .i64 0, .int .i64 0, .int .i64 0, .int .i64 0, .int .i64 0, .int .i64 0, .bool false, .int .i64 0, .int .i64 0, .int .i64 0]) (k := ?_)
            refine WL.store (v := .agg #[.int .i64 0, .int .i64 0, .int .i64 0, .int .i64 0, .int .i64 0, .int .i64 0, .bool false, .int .i64 0, .int .i64 0, .int .i64 0]) (i := 0) (cs' := #[.int .i64 0, .int .i64 0, .int .i64 0, .int .i64 0, .int .i64 0, .int .i64 0, .bool false, .int .i64 0, .int .i64 0, .int .i64 0]) hb4 (k := fun w197 hb198 k199 => ?_)
            replace hr180 := hr180.keeps k199 (Ne.symm n13)
            replace hb23 := k199.heap hb23 (Ne.symm n20)
            replace hb185 := k199.heap hb185 (Ne.symm n39)
            replace K := K.trans' k199 (fun i hi e => absurd (e ▸ hi) (Nat.not_lt.2 z6))
            clear hb4
            refine WL.op (d := 3) (.int .i64 10) (k := ?_)
            refine WL.nil ?_
            refine WX.seqN ?_
            refine WC.ret ?_
            refine WX.seqR ?_
            refine WX.ret (rs := [.cell 2 29, .tmp 3]) [.agg #[.int .i64 0, .int .i64 0, .int .i64 0, .int .i64 0, .int .i64 0, .int .i64 0, .bool false, .int .i64 0, .int .i64 0, .int .i64 0], .int .i64 10] (.tuple #[.agg #[.int .i64 0, .int .i64 0, .int .i64 0, .int .i64 0, .int .i64 0, .int .i64 0, .bool false, .int .i64 0, .int .i64 0, .int .i64 0], .int .i64 10]) ⟨⟨_, (by kernel_rfl), ldN (T := 29) (i := 0) (m := 10) (l := [.int .i64 0, .int .i64 0, .int .i64 0, .int .i64 0, .int .i64 0, .int .i64 0, .bool false, .int .i64 0, .int .i64 0, .int .i64 0]) hb198⟩, (by kernel_rfl), trivial⟩ (k := ?_)
            exact ⟨op_res (r := none) (opOf_none (fun o' h1 h2 => ph196 (((rd_3 ph162 q28 q168 q179).2 o' h1 h2).2 ▸ h1))).symm, K⟩
          · have h200 : (decide (GOp.ok (⟨(n26 : Int), ⟨0, 0, 0, 0, 0⟩, false, (n166 : Int), (n177 : Int), 0⟩ : GOp))) = true := by simpa using h195
            have ph200 := of_decide_eq_true h200
            refine WC.skip ?_
            refine WX.seqN ?_
            refine WC.seq ?_
            refine WC.region ?_
            refine WL.load (v := .agg #[.int .i64 (n26 : Int), .int .i64 0, .int .i64 0, .int .i64 0, .int .i64 0, .int .i64 0, .bool false, .int .i64 (n166 : Int), .int .i64 (n177 : Int), .int .i64 0]) (ldN (T := 29) (i := 0) (m := 10) (l := [.int .i64 (n26 : Int), .int .i64 0, .int .i64 0, .int .i64 0, .int .i64 0, .int .i64 0, .bool false, .int .i64 (n166 : Int), .int .i64 (n177 : Int), .int .i64 0]) hb185) (k := ?_)
            refine WL.store (v := .agg #[.int .i64 (n26 : Int), .int .i64 0, .int .i64 0, .int .i64 0, .int .i64 0, .int .i64 0, .bool false, .int .i64 (n166 : Int), .int .i64 (n177 : Int), .int .i64 0]) (i := 0) (cs' := #[.int .i64 (n26 : Int), .int .i64 0, .int .i64 0, .int .i64 0, .int .i64 0, .int .i64 0, .bool false, .int .i64 (n166 : Int), .int .i64 (n177 : Int), .int .i64 0]) hb4 (k := fun w201 hb202 k203 => ?_)
            replace hr180 := hr180.keeps k203 (Ne.symm n13)
            replace hb23 := k203.heap hb23 (Ne.symm n20)
            replace hb185 := k203.heap hb185 (Ne.symm n39)
            replace K := K.trans' k203 (fun i hi e => absurd (e ▸ hi) (Nat.not_lt.2 z6))
            clear hb4
            refine WL.op (d := 3) (.int .i64 0) (k := ?_)
            refine WL.nil ?_
            refine WX.seqN ?_
            refine WC.ret ?_
            refine WX.ret (rs := [.cell 2 29, .tmp 3]) [.agg #[.int .i64 (n26 : Int), .int .i64 0, .int .i64 0, .int .i64 0, .int .i64 0, .int .i64 0, .bool false, .int .i64 (n166 : Int), .int .i64 (n177 : Int), .int .i64 0], .int .i64 0] (.tuple #[.agg #[.int .i64 (n26 : Int), .int .i64 0, .int .i64 0, .int .i64 0, .int .i64 0, .int .i64 0, .bool false, .int .i64 (n166 : Int), .int .i64 (n177 : Int), .int .i64 0], .int .i64 0]) ⟨⟨_, (by kernel_rfl), ldN (T := 29) (i := 0) (m := 10) (l := [.int .i64 (n26 : Int), .int .i64 0, .int .i64 0, .int .i64 0, .int .i64 0, .int .i64 0, .bool false, .int .i64 (n166 : Int), .int .i64 (n177 : Int), .int .i64 0]) hb202⟩, (by kernel_rfl), trivial⟩ (k := ?_)
            exact ⟨op_res (opOf_some ph200 ((rd_3 ph162 q28 q168 q179).1 ph192)).symm, K⟩
      · have ph162 := of_decide_eq_false h162
        refine bsplit (decide ((n26 : Int) = 4)) (fun h204 => ?_) (fun h204 => ?_)
        · have ph204 := of_decide_eq_true h204
          refine WL.callG (d := 14) (f := 37) (args := #[.agg #[.int .i64 (n26 : Int), .int .i64 0, .int .i64 0, .int .i64 0, .int .i64 0, .int .i64 0, .bool false, .int .i64 0, .int .i64 0, .int .i64 0]]) (pOf_k4 (⟨(n26 : Int), ⟨0, 0, 0, 0, 0⟩, false, 0, 0, 0⟩ : GOp) ph204 w42) (k := fun e_ w205 h_ => ⟨.iface 107 (.agg #[.int .i64 0]), h_.1, ?_⟩)
          have k206 := h_.2; clear h_
          replace hb4 := k206.heap hb4 id
          replace hr29 := hr29.keeps k206 id
          replace hb23 := k206.heap hb23 id
          replace hb43 := k206.heap hb43 id
          replace K := K.trans (k206.any _)
          refine WL.nil ?_
          refine WX.seqN ?_
          refine WC.block ?_
          refine WC.seq ?_
          refine WC.region ?_
          refine WL.op (d := 15) (.tuple #[.agg #[.int .i64 0, .int .i64 0, .int .i64 0, .int .i64 0, .int .i64 0, .bool false], .bool false]) (k := ?_)
          refine WL.op (d := 16) (.bool false) (k := ?_)
          refine WL.op (d := 17) (.agg #[.int .i64 0, .int .i64 0, .int .i64 0, .int .i64 0, .int .i64 0, .bool false]) (k := ?_)
          refine WL.nil ?_
          refine WX.seqN ?_
          refine WC.condF (k := ?_)
          refine WC.seq ?_
          refine WC.region ?_
          refine WL.op (d := 41) (.tuple #[.agg #[.int .i64 0], .bool false]) (k := ?_)
          refine WL.op (d := 42) (.bool false) (k := ?_)
          refine WL.op (d := 43) (.agg #[.int .i64 0]) (k := ?_)
          refine WL.nil ?_
          refine WX.seqN ?_
          refine WC.condF (k := ?_)
          refine WC.seq ?_
          refine WC.region ?_
          refine WL.op (d := 47) (.tuple #[.agg #[.int .i64 0, .int .i64 0], .bool false]) (k := ?_)
          refine WL.op (d := 48) (.bool false) (k := ?_)
          refine WL.op (d := 49) (.agg #[.int .i64 0, .int .i64 0]) (k := ?_)
          refine WL.nil ?_
          refine WX.seqN ?_
          refine WC.condF (k := ?_)
          refine WC.seq ?_
          refine WC.region ?_
          refine WL.op (d := 56) (.tuple #[.agg #[.int .i64 0], .bool true]) (k := ?_)
          refine WL.op (d := 57) (.bool true) (k := ?_)
          refine WL.op (d := 58) (.agg #[.int .i64 0]) (k := ?_)
          refine WL.nil ?_
          refine WX.seqN ?_
          refine WC.condT (k := ?_)
          refine WC.region ?_
          refine WL.load (v := .pointer (some ⟨b8, 0, none⟩)) (ld1 (T := 68) (i := 0) hb23) (k := ?_)
          refine WL.callG (d := 60) (f := 51) (args := #[.pointer (some ⟨b8, 0, none⟩), .int .i64 3]) (rInt_x 3 hr29 l31 (by omega) (by omega)) (k := fun e_ w207 h_ => ?_)
          obtain ⟨n208, s209, q210, rfl, hr211, k212, l213, m214⟩ := h_
          refine ⟨_, rfl, ?_⟩
          replace hb4 := k212.heap hb4 n13
          replace hb23 := k212.heap hb23 (Ne.symm n21)
          replace hb43 := k212.heap hb43 (Ne.symm n40)
          replace K := K.trans' k212 (fun i hi e => absurd (e ▸ hi) (Nat.not_lt.2 z12))
          clear hr29
          refine WL.op (d := 61) (.pointer (some ⟨b33, 9, none⟩)) (k := ?_)
          refine WL.store (v := .int .i64 (n208 : Int)) (i := 9) (cs' := #[.int .i64 (n26 : Int), .int .i64 0, .int .i64 0, .int .i64 0, .int .i64 0, .int .i64 0, .bool false, .int .i64 0, .int .i64 0, .int .i64 (n208 : Int)]) hb43 (k := fun w215 hb216 k217 => ?_)
          replace hb4 := k217.heap hb4 n39
          replace hr211 := hr211.keeps k217 n40
          replace hb23 := k217.heap hb23 n41
          replace K := K.trans' k217 (fun i hi e => absurd (e ▸ hi) (Nat.not_lt.2 z38))
          clear hb43
          refine WL.nil ?_
          refine WX.blockN ?_
          refine WX.seqN ?_
          refine WC.seq ?_
          refine WC.seq ?_
          refine WC.region ?_
          refine WL.load (v := .pointer (some ⟨b8, 0, none⟩)) (ld1 (T := 68) (i := 0) hb23) (k := ?_)
          refine WL.callG (d := 63) (f := 67) (args := #[.pointer (some ⟨b8, 0, none⟩)]) (rEnd_any _ _ w215 hr211) (k := fun e_ w_ h_ => ⟨.bool (decide (s209 = some [])), h_.1, ?_⟩)
          obtain ⟨-, rfl⟩ := h_
          refine WL.op (d := 64) (.bool (!(decide (s209 = some [])))) (k := ?_)
          refine WL.op (d := 65) (.bool (!(decide (s209 = some [])))) (k := ?_)
          refine bsplit (!(decide (s209 = some []))) (fun h218 => ?_) (fun h218 => ?_)
          · have h219 : (decide (s209 = some [])) = false := by simpa using h218
            have ph219 := of_decide_eq_false h219
            refine WL.rw (t := 65) (v := .bool true) (congrArg Value.bool h218) (k := ?_)
            refine WL.skip (d := 66) (k := ?_)
            refine WL.skip (d := 67) (k := ?_)
            refine WL.skip (d := 68) (k := ?_)
            refine WL.op (d := 69) (.bool true) (k := ?_)
            refine WL.nil ?_
            refine WX.seqN ?_
            refine WC.condT (k := ?_)
            refine WC.seq ?_
            refine WC.region ?_
            refine WL.op (d := 70) (.agg #[.int .i64 0, .int .i64 0, .int .i64 0, .int .i64 0, .int .i64 0, .int .i64 0, .bool false, .int .i64 0, .int .i64 0, .int .i64 0]) (k := ?_)
            refine WL.store (v := .agg #[.int .i64 0, .int .i64 0, .int .i64 0, .int .i64 0, .int .i64 0, .int .i64 0, .bool false, .int .i64 0, .int .i64 0, .int .i64 0]) (i := 0) (cs' := #[.int .i64 0, .int .i64 0, .int .i64 0, .int .i64 0, .int .i64 0, .int .i64 0, .bool false, .int .i64 0, .int .i64 0, .int .i64 0]) hb4 (k := fun w220 hb221 k222 => ?_)
            replace hr211 := hr211.keeps k222 (Ne.symm n13)
            replace hb23 := k222.heap hb23 (Ne.symm n20)
            replace hb216 := k222.heap hb216 (Ne.symm n39)
            replace K := K.trans' k222 (fun i hi e => absurd (e ▸ hi) (Nat.not_lt.2 z6))
            clear hb4
            refine WL.op (d := 3) (.int .i64 10) (k := ?_)
            refine WL.nil ?_
            refine WX.seqN ?_
            refine WC.ret ?_
            refine WX.seqR ?_
            refine WX.ret (rs := [.cell 2 29, .tmp 3]) [.agg #[.int .i64 0, .int .i64 0, .int .i64 0, .int .i64 0, .int .i64 0, .int .i64 0, .bool false, .int .i64 0, .int .i64 0, .int .i64 0], .int .i64 10] (.tuple #[.agg #[.int .i64 0, .int .i64 0, .int .i64 0, .int .i64 0, .int .i64 0, .int .i64 0, .bool false, .int .i64 0, .int .i64 0, .int .i64 0], .int .i64 10]) ⟨⟨_, (by kernel_rfl), ldN (T := 29) (i := 0) (m := 10) (l := [.int .i64 0, .int .i64 0, .int .i64 0, .int .i64 0, .int .i64 0, .int .i64 0, .bool false, .int .i64 0, .int .i64 0, .int .i64 0]) hb221⟩, (by kernel_rfl), trivial⟩ (k := ?_)
            exact ⟨op_res (r := none) (opOf_none (fun o' h1 h2 => ph219 ((rd_4 ph204 q28 q210).2 o' h1 h2).1)).symm, K⟩
          · have h223 : (decide (s209 = some [])) = true := by simpa using h218
            have ph223 := of_decide_eq_true h223
            refine WL.rw (t := 65) (v := .bool false) (congrArg Value.bool h218) (k := ?_)
            refine WL.load (v := .agg #[.int .i64 (n26 : Int), .int .i64 0, .int .i64 0, .int .i64 0, .int .i64 0, .int .i64 0, .bool false, .int .i64 0, .int .i64 0, .int .i64 (n208 : Int)]) (ldN (T := 29) (i := 0) (m := 10) (l := [.int .i64 (n26 : Int), .int .i64 0, .int .i64 0, .int .i64 0, .int .i64 0, .int .i64 0, .bool false, .int .i64 0, .int .i64 0, .int .i64 (n208 : Int)]) hb216) (k := ?_)
            refine WL.callG (d := 67) (f := 23) (args := #[.agg #[.int .i64 (n26 : Int), .int .i64 0, .int .i64 0, .int .i64 0, .int .i64 0, .int .i64 0, .bool false, .int .i64 0, .int .i64 0, .int .i64 (n208 : Int)]]) (pOCheck_c (⟨(n26 : Int), ⟨0, 0, 0, 0, 0⟩, false, 0, 0, (n208 : Int)⟩ : GOp) w215) (k := fun e_ w224 h_ => ⟨.bool (decide (GOp.ok (⟨(n26 : Int), ⟨0, 0, 0, 0, 0⟩, false, 0, 0, (n208 : Int)⟩ : GOp))), h_.1, ?_⟩)
            have k225 := h_.2; clear h_
            replace hb4 := k225.heap hb4 id
            replace hr211 := hr211.keeps k225 id
            replace hb23 := k225.heap hb23 id
            replace hb216 := k225.heap hb216 id
            replace K := K.trans (k225.any _)
            refine WL.op (d := 68) (.bool (!(decide (GOp.ok (⟨(n26 : Int), ⟨0, 0, 0, 0, 0⟩, false, 0, 0, (n208 : Int)⟩ : GOp))))) (k := ?_)
            refine WL.op (d := 69) (.bool (!(decide (GOp.ok (⟨(n26 : Int), ⟨0, 0, 0, 0, 0⟩, false, 0, 0, (n208 : Int)⟩ : GOp))))) (k := ?_)
            refine WL.nil ?_
            refine WX.seqN ?_
            refine WC.cond (b := !(decide (GOp.ok (⟨(n26 : Int), ⟨0, 0, 0, 0, 0⟩, false, 0, 0, (n208 : Int)⟩ : GOp)))) (ht := fun h226 => ?_) (hf := fun h226 => ?_)
            · have h227 : (decide (GOp.ok (⟨(n26 : Int), ⟨0, 0, 0, 0, 0⟩, false, 0, 0, (n208 : Int)⟩ : GOp))) = false := by simpa using h226
              have ph227 := of_decide_eq_false h227
              refine WC.seq ?_
              refine WC.region ?_
              refine WL.op (d := 70) (.agg #[.int .i64 0, .int .i64 0, .int .i64 0, .int .i64 0, .int .i64 0, .int .i64 0, .bool false, .int .i64 0, .int .i64 0, .int .i64 0]) (k := ?_)
              refine WL.store (v := .agg #[.int .i64 0, .int .i64 0, .int .i64 0, .int .i64 0, .int .i64 0, .int .i64 0, .bool false, .int .i64 0, .int .i64 0, .int .i64 0]) (i := 0) (cs' := #[.int .i64 0, .int .i64 0, .int .i64 0, .int .i64 0, .int .i64 0, .int .i64 0, .bool false, .int .i64 0, .int .i64 0, .int .i64 0]) hb4 (k := fun w228 hb229 k230 => ?_)
              replace hr211 := hr211.keeps k230 (Ne.symm n13)
              replace hb23 := k230.heap hb23 (Ne.symm n20)
              replace hb216 := k230.heap hb216 (Ne.symm n39)
              replace K := K.trans' k230 (fun i hi e => absurd (e ▸ hi) (Nat.not_lt.2 z6))
              clear hb4
              refine WL.op (d := 3) (.int .i64 10) (k := ?_)
              refine WL.nil ?_
              refine WX.seqN ?_
              refine WC.ret ?_
              refine WX.seqR ?_
              refine WX.ret (rs := [.cell 2 29, .tmp 3]) [.agg #[.int .i64 0, .int .i64 0, .int .i64 0, .int .i64 0, .int .i64 0, .int .i64 0, .bool false, .int .i64 0, .int .i64 0, .int .i64 0], .int .i64 10] (.tuple #[.agg #[.int .i64 0, .int .i64 0, .int .i64 0, .int .i64 0, .int .i64 0, .int .i64 0, .bool false, .int .i64 0, .int .i64 0, .int .i64 0], .int .i64 10]) ⟨⟨_, (by kernel_rfl), ldN (T := 29) (i := 0) (m := 10) (l := [.int .i64 0, .int .i64 0, .int .i64 0, .int .i64 0, .int .i64 0, .int .i64 0, .bool false, .int .i64 0, .int .i64 0, .int .i64 0]) hb229⟩, (by kernel_rfl), trivial⟩ (k := ?_)
              exact ⟨op_res (r := none) (opOf_none (fun o' h1 h2 => ph227 (((rd_4 ph204 q28 q210).2 o' h1 h2).2 ▸ h1))).symm, K⟩
            · have h231 : (decide (GOp.ok (⟨(n26 : Int), ⟨0, 0, 0, 0, 0⟩, false, 0, 0, (n208 : Int)⟩ : GOp))) = true := by simpa using h226
              have ph231 := of_decide_eq_true h231
              refine WC.skip ?_
              refine WX.seqN ?_
              refine WC.seq ?_
              refine WC.region ?_
              refine WL.load (v := .agg #[.int .i64 (n26 : Int), .int .i64 0, .int .i64 0, .int .i64 0, .int .i64 0, .int .i64 0, .bool false, .int .i64 0, .int .i64 0, .int .i64 (n208 : Int)]) (ldN (T := 29) (i := 0) (m := 10) (l := [.int .i64 (n26 : Int), .int .i64 0, .int .i64 0, .int .i64 0, .int .i64 0, .int .i64 0, .bool false, .int .i64 0, .int .i64 0, .int .i64 (n208 : Int)]) hb216) (k := ?_)
              refine WL.store (v := .agg #[.int .i64 (n26 : Int), .int .i64 0, .int .i64 0, .int .i64 0, .int .i64 0, .int .i64 0, .bool false, .int .i64 0, .int .i64 0, .int .i64 (n208 : Int)]) (i := 0) (cs' := #[.int .i64 (n26 : Int), .int .i64 0, .int .i64 0, .int .i64 0, .int .i64 0, .int .i64 0, .bool false, .int .i64 0, .int .i64 0, .int .i64 (n208 : Int)]) hb4 (k := fun w232 hb233 k234 => ?_)
              replace hr211 := hr211.keeps k234 (Ne.symm n13)
              replace hb23 := k234.heap hb23 (Ne.symm n20)
              replace hb216 := k234.heap hb216 (Ne.symm n39)
              replace K := K.trans' k234 (fun i hi e => absurd (e ▸ hi) (Nat.not_lt.2 z6))
              clear hb4
              refine WL.op (d := 3) (.int .i64 0) (k := ?_)
              refine WL.nil ?_
              refine WX.seqN ?_
              refine WC.ret ?_
              refine WX.ret (rs := [.cell 2 29, .tmp 3]) [.agg #[.int .i64 (n26 : Int), .int .i64 0, .int .i64 0, .int .i64 0, .int .i64 0, .int .i64 0, .bool false, .int .i64 0, .int .i64 0, .int .i64 (n208 : Int)], .int .i64 0] (.tuple #[.agg #[.int .i64 (n26 : Int), .int .i64 0, .int .i64 0, .int .i64 0, .int .i64 0, .int .i64 0, .bool false, .int .i64 0, .int .i64 0, .int .i64 (n208 : Int)], .int .i64 0]) ⟨⟨_, (by kernel_rfl), ldN (T := 29) (i := 0) (m := 10) (l := [.int .i64 (n26 : Int), .int .i64 0, .int .i64 0, .int .i64 0, .int .i64 0, .int .i64 0, .bool false, .int .i64 0, .int .i64 0, .int .i64 (n208 : Int)]) hb233⟩, (by kernel_rfl), trivial⟩ (k := ?_)
              exact ⟨op_res (opOf_some ph231 ((rd_4 ph204 q28 q210).1 ph223)).symm, K⟩
        · have ph204 := of_decide_eq_false h204
          refine WL.callG (d := 14) (f := 37) (args := #[.agg #[.int .i64 (n26 : Int), .int .i64 0, .int .i64 0, .int .i64 0, .int .i64 0, .int .i64 0, .bool false, .int .i64 0, .int .i64 0, .int .i64 0]]) (pOf_k5 (⟨(n26 : Int), ⟨0, 0, 0, 0, 0⟩, false, 0, 0, 0⟩ : GOp) ph45 ph131 ph162 ph204 w42) (k := fun e_ w235 h_ => ⟨.iface 109 (.agg #[.int .i64 (n26 : Int)]), h_.1, ?_⟩)
          have k236 := h_.2; clear h_
          replace hb4 := k236.heap hb4 id
          replace hr29 := hr29.keeps k236 id
          replace hb23 := k236.heap hb23 id
          replace hb43 := k236.heap hb43 id
          replace K := K.trans (k236.any _)
          refine WL.nil ?_
          refine WX.seqN ?_
          refine WC.block ?_
          refine WC.seq ?_
          refine WC.region ?_
          refine WL.op (d := 15) (.tuple #[.agg #[.int .i64 0, .int .i64 0, .int .i64 0, .int .i64 0, .int .i64 0, .bool false], .bool false]) (k := ?_)
          refine WL.op (d := 16) (.bool false) (k := ?_)
          refine WL.op (d := 17) (.agg #[.int .i64 0, .int .i64 0, .int .i64 0, .int .i64 0, .int .i64 0, .bool false]) (k := ?_)
          refine WL.nil ?_
          refine WX.seqN ?_
          refine WC.condF (k := ?_)
          refine WC.seq ?_
          refine WC.region ?_
          refine WL.op (d := 41) (.tuple #[.agg #[.int .i64 0], .bool false]) (k := ?_)
          refine WL.op (d := 42) (.bool false) (k := ?_)
          refine WL.op (d := 43) (.agg #[.int .i64 0]) (k := ?_)
          refine WL.nil ?_
          refine WX.seqN ?_
          refine WC.condF (k := ?_)
          refine WC.seq ?_
          refine WC.region ?_
          refine WL.op (d := 47) (.tuple #[.agg #[.int .i64 0, .int .i64 0], .bool false]) (k := ?_)
          refine WL.op (d := 48) (.bool false) (k := ?_)
          refine WL.op (d := 49) (.agg #[.int .i64 0, .int .i64 0]) (k := ?_)
          refine WL.nil ?_
          refine WX.seqN ?_
          refine WC.condF (k := ?_)
          refine WC.seq ?_
          refine WC.region ?_
          refine WL.op (d := 56) (.tuple #[.agg #[.int .i64 0], .bool false]) (k := ?_)
          refine WL.op (d := 57) (.bool false) (k := ?_)
          refine WL.op (d := 58) (.agg #[.int .i64 0]) (k := ?_)
          refine WL.nil ?_
          refine WX.seqN ?_
          refine WC.condF (k := ?_)
          refine WC.skip ?_
          refine WX.blockN ?_
          refine WX.seqN ?_
          refine WC.seq ?_
          refine WC.seq ?_
          refine WC.region ?_
          refine WL.load (v := .pointer (some ⟨b8, 0, none⟩)) (ld1 (T := 68) (i := 0) hb23) (k := ?_)
          refine WL.callG (d := 63) (f := 67) (args := #[.pointer (some ⟨b8, 0, none⟩)]) (rEnd_any _ _ w235 hr29) (k := fun e_ w_ h_ => ⟨.bool (decide (s27 = some [])), h_.1, ?_⟩)
          obtain ⟨-, rfl⟩ := h_
          refine WL.op (d := 64) (.bool (!(decide (s27 = some [])))) (k := ?_)
          refine WL.op (d := 65) (.bool (!(decide (s27 = some [])))) (k := ?_)
          refine bsplit (!(decide (s27 = some []))) (fun h237 => ?_) (fun h237 => ?_)
          · have h238 : (decide (s27 = some [])) = false := by simpa using h237
            have ph238 := of_decide_eq_false h238
            refine WL.rw (t := 65) (v := .bool true) (congrArg Value.bool h237) (k := ?_)
            refine WL.skip (d := 66) (k := ?_)
            refine WL.skip (d := 67) (k := ?_)
            refine WL.skip (d := 68) (k := ?_)
            refine WL.op (d := 69) (.bool true) (k := ?_)
            refine WL.nil ?_
            refine WX.seqN ?_
            refine WC.condT (k := ?_)
            refine WC.seq ?_
            refine WC.region ?_
            refine WL.op (d := 70) (.agg #[.int .i64 0, .int .i64 0, .int .i64 0, .int .i64 0, .int .i64 0, .int .i64 0, .bool false, .int .i64 0, .int .i64 0, .int .i64 0]) (k := ?_)
            refine WL.store (v := .agg #[.int .i64 0, .int .i64 0, .int .i64 0, .int .i64 0, .int .i64 0, .int .i64 0, .bool false, .int .i64 0, .int .i64 0, .int .i64 0]) (i := 0) (cs' := #[.int .i64 0, .int .i64 0, .int .i64 0, .int .i64 0, .int .i64 0, .int .i64 0, .bool false, .int .i64 0, .int .i64 0, .int .i64 0]) hb4 (k := fun w239 hb240 k241 => ?_)
            replace hr29 := hr29.keeps k241 (Ne.symm n13)
            replace hb23 := k241.heap hb23 (Ne.symm n20)
            replace hb43 := k241.heap hb43 (Ne.symm n39)
            replace K := K.trans' k241 (fun i hi e => absurd (e ▸ hi) (Nat.not_lt.2 z6))
            clear hb4
            refine WL.op (d := 3) (.int .i64 10) (k := ?_)
            refine WL.nil ?_
            refine WX.seqN ?_
            refine WC.ret ?_
            refine WX.seqR ?_
            refine WX.ret (rs := [.cell 2 29, .tmp 3]) [.agg #[.int .i64 0, .int .i64 0, .int .i64 0, .int .i64 0, .int .i64 0, .int .i64 0, .bool false, .int .i64 0, .int .i64 0, .int .i64 0], .int .i64 10] (.tuple #[.agg #[.int .i64 0, .int .i64 0, .int .i64 0, .int .i64 0, .int .i64 0, .int .i64 0, .bool false, .int .i64 0, .int .i64 0, .int .i64 0], .int .i64 10]) ⟨⟨_, (by kernel_rfl), ldN (T := 29) (i := 0) (m := 10) (l := [.int .i64 0, .int .i64 0, .int .i64 0, .int .i64 0, .int .i64 0, .int .i64 0, .bool false, .int .i64 0, .int .i64 0, .int .i64 0]) hb240⟩, (by kernel_rfl), trivial⟩ (k := ?_)
            exact ⟨op_res (r := none) (opOf_none (rd_5 ph45 ph131 ph162 ph204 q28)).symm, K⟩
          · have h242 : (decide (s27 = some [])) = true := by simpa using h237
            have ph242 := of_decide_eq_true h242
            refine WL.rw (t := 65) (v := .bool false) (congrArg Value.bool h237) (k := ?_)
            refine WL.load (v := .agg #[.int .i64 (n26 : Int), .int .i64 0, .int .i64 0, .int .i64 0, .int .i64 0, .int .i64 0, .bool false, .int .i64 0, .int .i64 0, .int .i64 0]) (ldN (T := 29) (i := 0) (m := 10) (l := [.int .i64 (n26 : Int), .int .i64 0, .int .i64 0, .int .i64 0, .int .i64 0, .int .i64 0, .bool false, .int .i64 0, .int .i64 0, .int .i64 0]) hb43) (k := ?_)
            refine WL.callG (d := 67) (f := 23) (args := #[.agg #[.int .i64 (n26 : Int), .int .i64 0, .int .i64 0, .int .i64 0, .int .i64 0, .int .i64 0, .bool false, .int .i64 0, .int .i64 0, .int .i64 0]]) (pOCheck_c (⟨(n26 : Int), ⟨0, 0, 0, 0, 0⟩, false, 0, 0, 0⟩ : GOp) w235) (k := fun e_ w243 h_ => ⟨.bool (decide (GOp.ok (⟨(n26 : Int), ⟨0, 0, 0, 0, 0⟩, false, 0, 0, 0⟩ : GOp))), h_.1, ?_⟩)
            have k244 := h_.2; clear h_
            replace hb4 := k244.heap hb4 id
            replace hr29 := hr29.keeps k244 id
            replace hb23 := k244.heap hb23 id
            replace hb43 := k244.heap hb43 id
            replace K := K.trans (k244.any _)
            refine WL.op (d := 68) (.bool (!(decide (GOp.ok (⟨(n26 : Int), ⟨0, 0, 0, 0, 0⟩, false, 0, 0, 0⟩ : GOp))))) (k := ?_)
            refine WL.op (d := 69) (.bool (!(decide (GOp.ok (⟨(n26 : Int), ⟨0, 0, 0, 0, 0⟩, false, 0, 0, 0⟩ : GOp))))) (k := ?_)
            refine WL.nil ?_
            refine WX.seqN ?_
            refine WC.cond (b := !(decide (GOp.ok (⟨(n26 : Int), ⟨0, 0, 0, 0, 0⟩, false, 0, 0, 0⟩ : GOp)))) (ht := fun h245 => ?_) (hf := fun h245 => ?_)
            · have h246 : (decide (GOp.ok (⟨(n26 : Int), ⟨0, 0, 0, 0, 0⟩, false, 0, 0, 0⟩ : GOp))) = false := by simpa using h245
              have ph246 := of_decide_eq_false h246
              refine WC.seq ?_
              refine WC.region ?_
              refine WL.op (d := 70) (.agg #[.int .i64 0, .int .i64 0, .int .i64 0, .int .i64 0, .int .i64 0, .int .i64 0, .bool false, .int .i64 0, .int .i64 0, .int .i64 0]) (k := ?_)
              refine WL.store (v := .agg #[.int .i64 0, .int .i64 0, .int .i64 0, .int .i64 0, .int .i64 0, .int .i64 0, .bool false, .int .i64 0, .int .i64 0, .int .i64 0]) (i := 0) (cs' := #[.int .i64 0, .int .i64 0, .int .i64 0, .int .i64 0, .int .i64 0, .int .i64 0, .bool false, .int .i64 0, .int .i64 0, .int .i64 0]) hb4 (k := fun w247 hb248 k249 => ?_)
              replace hr29 := hr29.keeps k249 (Ne.symm n13)
              replace hb23 := k249.heap hb23 (Ne.symm n20)
              replace hb43 := k249.heap hb43 (Ne.symm n39)
              replace K := K.trans' k249 (fun i hi e => absurd (e ▸ hi) (Nat.not_lt.2 z6))
              clear hb4
              refine WL.op (d := 3) (.int .i64 10) (k := ?_)
              refine WL.nil ?_
              refine WX.seqN ?_
              refine WC.ret ?_
              refine WX.seqR ?_
              refine WX.ret (rs := [.cell 2 29, .tmp 3]) [.agg #[.int .i64 0, .int .i64 0, .int .i64 0, .int .i64 0, .int .i64 0, .int .i64 0, .bool false, .int .i64 0, .int .i64 0, .int .i64 0], .int .i64 10] (.tuple #[.agg #[.int .i64 0, .int .i64 0, .int .i64 0, .int .i64 0, .int .i64 0, .int .i64 0, .bool false, .int .i64 0, .int .i64 0, .int .i64 0], .int .i64 10]) ⟨⟨_, (by kernel_rfl), ldN (T := 29) (i := 0) (m := 10) (l := [.int .i64 0, .int .i64 0, .int .i64 0, .int .i64 0, .int .i64 0, .int .i64 0, .bool false, .int .i64 0, .int .i64 0, .int .i64 0]) hb248⟩, (by kernel_rfl), trivial⟩ (k := ?_)
              exact ⟨op_res (r := none) (opOf_none (rd_5 ph45 ph131 ph162 ph204 q28)).symm, K⟩
            · have h250 : (decide (GOp.ok (⟨(n26 : Int), ⟨0, 0, 0, 0, 0⟩, false, 0, 0, 0⟩ : GOp))) = true := by simpa using h245
              have ph250 := of_decide_eq_true h250
              refine WC.skip ?_
              refine WX.seqN ?_
              refine WC.seq ?_
              refine WC.region ?_
              refine WL.load (v := .agg #[.int .i64 (n26 : Int), .int .i64 0, .int .i64 0, .int .i64 0, .int .i64 0, .int .i64 0, .bool false, .int .i64 0, .int .i64 0, .int .i64 0]) (ldN (T := 29) (i := 0) (m := 10) (l := [.int .i64 (n26 : Int), .int .i64 0, .int .i64 0, .int .i64 0, .int .i64 0, .int .i64 0, .bool false, .int .i64 0, .int .i64 0, .int .i64 0]) hb43) (k := ?_)
              refine WL.store (v := .agg #[.int .i64 (n26 : Int), .int .i64 0, .int .i64 0, .int .i64 0, .int .i64 0, .int .i64 0, .bool false, .int .i64 0, .int .i64 0, .int .i64 0]) (i := 0) (cs' := #[.int .i64 (n26 : Int), .int .i64 0, .int .i64 0, .int .i64 0, .int .i64 0, .int .i64 0, .bool false, .int .i64 0, .int .i64 0, .int .i64 0]) hb4 (k := fun w251 hb252 k253 => ?_)
              replace hr29 := hr29.keeps k253 (Ne.symm n13)
              replace hb23 := k253.heap hb23 (Ne.symm n20)
              replace hb43 := k253.heap hb43 (Ne.symm n39)
              replace K := K.trans' k253 (fun i hi e => absurd (e ▸ hi) (Nat.not_lt.2 z6))
              clear hb4
              refine WL.op (d := 3) (.int .i64 0) (k := ?_)
              refine WL.nil ?_
              refine WX.seqN ?_
              refine WC.ret ?_
              refine WX.ret (rs := [.cell 2 29, .tmp 3]) [.agg #[.int .i64 (n26 : Int), .int .i64 0, .int .i64 0, .int .i64 0, .int .i64 0, .int .i64 0, .bool false, .int .i64 0, .int .i64 0, .int .i64 0], .int .i64 0] (.tuple #[.agg #[.int .i64 (n26 : Int), .int .i64 0, .int .i64 0, .int .i64 0, .int .i64 0, .int .i64 0, .bool false, .int .i64 0, .int .i64 0, .int .i64 0], .int .i64 0]) ⟨⟨_, (by kernel_rfl), ldN (T := 29) (i := 0) (m := 10) (l := [.int .i64 (n26 : Int), .int .i64 0, .int .i64 0, .int .i64 0, .int .i64 0, .int .i64 0, .bool false, .int .i64 0, .int .i64 0, .int .i64 0]) hb252⟩, (by kernel_rfl), trivial⟩ (k := ?_)
              exact absurd ph250 (fun h => by
                have B := h.b
                have := B.kl; have := B.kh
                simp only at *; omega)

set_option maxRecDepth 100000 in
theorem u13Read_c (l : List UInt8) (hl : l.length ≤ 1000000) (w : World) : Calls Try.prog 57 #[.string ⟨l.toArray⟩] w fun e w' => e = .returned (opRes (opOf l)) ∧ Adds w w' := by
  have K : Keeps (fun _ => False) w w := Keeps.refl _ w
  refine Calls.start Try.func57 rfl (by kernel_rfl) ?_
  refine WC.seq ?_
  refine WC.region ?_
  refine WL.new (d := 2) (T := 29) #[.int .i64 0, .int .i64 0, .int .i64 0, .int .i64 0, .int .i64 0, .int .i64 0, .bool false, .int .i64 0, .int .i64 0, .int .i64 0] (k := fun b1 w2 g3 hb4 k5 => ?_)
  have z6 := Nat.le_trans K.size g3
  replace K := K.trans (k5.any _)
  refine WL.op (d := 3) (.int .i64 0) (k := ?_)
  refine WL.nil ?_
  refine WX.seqN ?_
  refine WC.seq ?_
  refine WC.region ?_
  refine WL.op (d := 8) (.string ⟨(l).toArray⟩) (k := ?_)
  refine WL.op (d := 9) (.agg #[.string ⟨(l).toArray⟩, .bool false]) (k := ?_)
  refine WL.new (d := 10) (T := 75) #[.string ⟨(l).toArray⟩, .bool false] (k := fun b7 w8 g9 hb10 k11 => ?_)
  have z12 := Nat.le_trans K.size g9
  have n13 : b1 ≠ b7 := Nat.ne_of_lt (Nat.lt_of_lt_of_le (lt_of_heap hb4) g9)
  replace hb4 := k11.heap hb4 id
  replace K := K.trans (k11.any _)
  have hr14 : QrAt b7 (some l) w8 := QrAt.new hb10
  clear hb10
  refine WL.op (d := 4) (.pointer (some ⟨b7, 0, none⟩)) (k := ?_)
  refine WL.nil ?_
  refine WX.seqN ?_
  refine WC.seq ?_
  refine WC.region ?_
  refine WL.op (d := 11) (.pointer (some ⟨b7, 0, none⟩)) (k := ?_)
  refine WL.callG (d := 12) (f := 56) (args := #[.pointer (some ⟨b7, 0, none⟩), .int .i64 4]) (qInt_x 4 hr14 (by show List.length l ≤ _; first | omega | (simp; omega)) (by omega) (by omega)) (k := fun e_ w15 h_ => ?_)
  obtain ⟨n16, s17, q18, rfl, hr19, k20, l21, m22⟩ := h_
  refine ⟨_, rfl, ?_⟩
  replace hb4 := k20.heap hb4 n13
  replace K := K.trans' k20 (fun i hi e => absurd (e ▸ hi) (Nat.not_lt.2 z12))
  clear hr14
  refine WL.op (d := 13) (.agg #[.int .i64 (n16 : Int), .int .i64 0, .int .i64 0, .int .i64 0, .int .i64 0, .int .i64 0, .bool false, .int .i64 0, .int .i64 0, .int .i64 0]) (k := ?_)
  refine WL.new (d := 5) (T := 29) #[.int .i64 0, .int .i64 0, .int .i64 0, .int .i64 0, .int .i64 0, .int .i64 0, .bool false, .int .i64 0, .int .i64 0, .int .i64 0] (k := fun b23 w24 g25 hb26 k27 => ?_)
  have z28 := Nat.le_trans K.size g25
  have n29 : b1 ≠ b23 := Nat.ne_of_lt (Nat.lt_of_lt_of_le (lt_of_heap hb4) g25)
  have n30 : b7 ≠ b23 := Nat.ne_of_lt (Nat.lt_of_lt_of_le hr19.lt g25)
  replace hb4 := k27.heap hb4 id
  replace hr19 := hr19.keeps k27 id
  replace K := K.trans (k27.any _)
  refine WL.store (v := .agg #[.int .i64 (n16 : Int), .int .i64 0, .int .i64 0, .int .i64 0, .int .i64 0, .int .i64 0, .bool false, .int .i64 0, .int .i64 0, .int .i64 0]) (i := 0) (cs' := #[.int .i64 (n16 : Int), .int .i64 0, .int .i64 0, .int .i64 0, .int .i64 0, .int .i64 0, .bool false, .int .i64 0, .int .i64 0, .int .i64 0]) hb26 (k := fun w31 hb32 k33 => ?_)
  replace hb4 := k33.heap hb4 n29
  replace hr19 := hr19.keeps k33 n30
  replace K := K.trans' k33 (fun i hi e => absurd (e ▸ hi) (Nat.not_lt.2 z28))
  clear hb26
  refine WL.nil ?_
  refine WX.seqN ?_
  refine WC.seq ?_
  refine WC.seq ?_
  refine WC.region ?_
  refine WL.op (d := 14) (.pointer (some ⟨b23, 0, none⟩)) (k := ?_)
  refine WL.load (v := .int .i64 (n16 : Int)) (ld1 (T := 3) (i := 0) hb32) (k := ?_)
  refine WL.nil ?_
  refine WX.seqN ?_
  refine WC.block ?_
  refine WC.seq ?_
  refine WC.region ?_
  refine WL.op (d := 17) (.bool ((n16 : Int) == 1)) (k := ?_)
  refine WL.op (d := 16) (.bool ((n16 : Int) == 1)) (k := ?_)
  refine WL.nil ?_
  refine WX.seqN ?_
  refine WC.cond (b := (n16 : Int) == 1) (ht := fun h34 => ?_) (hf := fun h34 => ?_)
  · have ph34 := eq_of_beq h34
    refine WC.seq ?_
    refine WC.region ?_
    refine WL.op (d := 18) (.pointer (some ⟨b7, 0, none⟩)) (k := ?_)
    refine WL.callG (d := 19) (f := 56) (args := #[.pointer (some ⟨b7, 0, none⟩), .int .i64 1023]) (qInt_x 1023 hr19 l21 (by omega) (by omega)) (k := fun e_ w35 h_ => ?_)
    obtain ⟨n36, s37, q38, rfl, hr39, k40, l41, m42⟩ := h_
    refine ⟨_, rfl, ?_⟩
    replace hb4 := k40.heap hb4 n13
    replace hb32 := k40.heap hb32 (Ne.symm n30)
    replace K := K.trans' k40 (fun i hi e => absurd (e ▸ hi) (Nat.not_lt.2 z12))
    clear hr19
    refine WL.op (d := 20) (.pointer (some ⟨b23, 1, none⟩)) (k := ?_)
    refine WL.op (d := 21) (.pointer (some ⟨b23, 1, none⟩)) (k := ?_)
    refine WL.store (v := .int .i64 (n36 : Int)) (i := 1) (cs' := #[.int .i64 (n16 : Int), .int .i64 (n36 : Int), .int .i64 0, .int .i64 0, .int .i64 0, .int .i64 0, .bool false, .int .i64 0, .int .i64 0, .int .i64 0]) hb32 (k := fun w43 hb44 k45 => ?_)
    replace hb4 := k45.heap hb4 n29
    replace hr39 := hr39.keeps k45 n30
    replace K := K.trans' k45 (fun i hi e => absurd (e ▸ hi) (Nat.not_lt.2 z28))
    clear hb32
    refine WL.nil ?_
    refine WX.seqN ?_
    refine WC.seq ?_
    refine WC.region ?_
    refine WL.op (d := 22) (.pointer (some ⟨b7, 0, none⟩)) (k := ?_)
    refine WL.callG (d := 23) (f := 59) (args := #[.pointer (some ⟨b7, 0, none⟩), .int .u64 2147483648]) (qNum_x 2147483648 hr39 l41 (by omega) (by omega)) (k := fun e_ w46 h_ => ?_)
    obtain ⟨n47, s48, q49, rfl, hr50, k51, l52, m53⟩ := h_
    refine ⟨_, rfl, ?_⟩
    replace hb4 := k51.heap hb4 n13
    replace hb44 := k51.heap hb44 (Ne.symm n30)
    replace K := K.trans' k51 (fun i hi e => absurd (e ▸ hi) (Nat.not_lt.2 z12))
    clear hr39
    refine WL.opE (d := 24) (.int .i64 (IntKind.i64.wrap (n47 : Int))) (v := .int .i64 (n47 : Int)) (congrArg (Value.int .i64) (IntWalk.i64_in _ (by omega))) (k := ?_)
    refine WL.op (d := 25) (.pointer (some ⟨b23, 1, none⟩)) (k := ?_)
    refine WL.op (d := 26) (.pointer (some ⟨b23, 2, none⟩)) (k := ?_)
    refine WL.store (v := .int .i64 (n47 : Int)) (i := 2) (cs' := #[.int .i64 (n16 : Int), .int .i64 (n36 : Int), .int .i64 (n47 : Int), .int .i64 0, .int .i64 0, .int .i64 0, .bool false, .int .i64 0, .int .i64 0, .int .i64 0]) hb44 (k := fun w54 hb55 k56 => ?_)
    replace hb4 := k56.heap hb4 n29
    replace hr50 := hr50.keeps k56 n30
    replace K := K.trans' k56 (fun i hi e => absurd (e ▸ hi) (Nat.not_lt.2 z28))
    clear hb44
    refine WL.nil ?_
    refine WX.seqN ?_
    refine WC.seq ?_
    refine WC.region ?_
    refine WL.op (d := 27) (.pointer (some ⟨b7, 0, none⟩)) (k := ?_)
    refine WL.callG (d := 28) (f := 59) (args := #[.pointer (some ⟨b7, 0, none⟩), .int .u64 2147483648]) (qNum_x 2147483648 hr50 l52 (by omega) (by omega)) (k := fun e_ w57 h_ => ?_)
    obtain ⟨n58, s59, q60, rfl, hr61, k62, l63, m64⟩ := h_
    refine ⟨_, rfl, ?_⟩
    replace hb4 := k62.heap hb4 n13
    replace hb55 := k62.heap hb55 (Ne.symm n30)
    replace K := K.trans' k62 (fun i hi e => absurd (e ▸ hi) (Nat.not_lt.2 z12))
    clear hr50
    refine WL.opE (d := 29) (.int .i64 (IntKind.i64.wrap (n58 : Int))) (v := .int .i64 (n58 : Int)) (congrArg (Value.int .i64) (IntWalk.i64_in _ (by omega))) (k := ?_)
    refine WL.op (d := 30) (.pointer (some ⟨b23, 1, none⟩)) (k := ?_)
    refine WL.op (d := 31) (.pointer (some ⟨b23, 3, none⟩)) (k := ?_)
    refine WL.store (v := .int .i64 (n58 : Int)) (i := 3) (cs' := #[.int .i64 (n16 : Int), .int .i64 (n36 : Int), .int .i64 (n47 : Int), .int .i64 (n58 : Int), .int .i64 0, .int .i64 0, .bool false, .int .i64 0, .int .i64 0, .int .i64 0]) hb55 (k := fun w65 hb66 k67 => ?_)
    replace hb4 := k67.heap hb4 n29
    replace hr61 := hr61.keeps k67 n30
    replace K := K.trans' k67 (fun i hi e => absurd (e ▸ hi) (Nat.not_lt.2 z28))
    clear hb55
    refine WL.nil ?_
    refine WX.seqN ?_
    refine WC.seq ?_
    refine WC.region ?_
    refine WL.op (d := 32) (.pointer (some ⟨b7, 0, none⟩)) (k := ?_)
    refine WL.callG (d := 33) (f := 59) (args := #[.pointer (some ⟨b7, 0, none⟩), .int .u64 2147483648]) (qNum_x 2147483648 hr61 l63 (by omega) (by omega)) (k := fun e_ w68 h_ => ?_)
    obtain ⟨n69, s70, q71, rfl, hr72, k73, l74, m75⟩ := h_
    refine ⟨_, rfl, ?_⟩
    replace hb4 := k73.heap hb4 n13
    replace hb66 := k73.heap hb66 (Ne.symm n30)
    replace K := K.trans' k73 (fun i hi e => absurd (e ▸ hi) (Nat.not_lt.2 z12))
    clear hr61
    refine WL.opE (d := 34) (.int .i64 (IntKind.i64.wrap (n69 : Int))) (v := .int .i64 (n69 : Int)) (congrArg (Value.int .i64) (IntWalk.i64_in _ (by omega))) (k := ?_)
    refine WL.op (d := 35) (.pointer (some ⟨b23, 1, none⟩)) (k := ?_)
    refine WL.op (d := 36) (.pointer (some ⟨b23, 4, none⟩)) (k := ?_)
    refine WL.store (v := .int .i64 (n69 : Int)) (i := 4) (cs' := #[.int .i64 (n16 : Int), .int .i64 (n36 : Int), .int .i64 (n47 : Int), .int .i64 (n58 : Int), .int .i64 (n69 : Int), .int .i64 0, .bool false, .int .i64 0, .int .i64 0, .int .i64 0]) hb66 (k := fun w76 hb77 k78 => ?_)
    replace hb4 := k78.heap hb4 n29
    replace hr72 := hr72.keeps k78 n30
    replace K := K.trans' k78 (fun i hi e => absurd (e ▸ hi) (Nat.not_lt.2 z28))
    clear hb66
    refine WL.nil ?_
    refine WX.seqN ?_
    refine WC.seq ?_
    refine WC.region ?_
    refine WL.op (d := 37) (.pointer (some ⟨b7, 0, none⟩)) (k := ?_)
    refine WL.callG (d := 38) (f := 56) (args := #[.pointer (some ⟨b7, 0, none⟩), .int .i64 15]) (qInt_x 15 hr72 l74 (by omega) (by omega)) (k := fun e_ w79 h_ => ?_)
    obtain ⟨n80, s81, q82, rfl, hr83, k84, l85, m86⟩ := h_
    refine ⟨_, rfl, ?_⟩
    replace hb4 := k84.heap hb4 n13
    replace hb77 := k84.heap hb77 (Ne.symm n30)
    replace K := K.trans' k84 (fun i hi e => absurd (e ▸ hi) (Nat.not_lt.2 z12))
    clear hr72
    refine WL.op (d := 39) (.pointer (some ⟨b23, 1, none⟩)) (k := ?_)
    refine WL.op (d := 40) (.pointer (some ⟨b23, 5, none⟩)) (k := ?_)
    refine WL.store (v := .int .i64 (n80 : Int)) (i := 5) (cs' := #[.int .i64 (n16 : Int), .int .i64 (n36 : Int), .int .i64 (n47 : Int), .int .i64 (n58 : Int), .int .i64 (n69 : Int), .int .i64 (n80 : Int), .bool false, .int .i64 0, .int .i64 0, .int .i64 0]) hb77 (k := fun w87 hb88 k89 => ?_)
    replace hb4 := k89.heap hb4 n29
    replace hr83 := hr83.keeps k89 n30
    replace K := K.trans' k89 (fun i hi e => absurd (e ▸ hi) (Nat.not_lt.2 z28))
    clear hb77
    refine WL.nil ?_
    refine WX.seqN ?_
    refine WC.region ?_
    refine WL.op (d := 41) (.pointer (some ⟨b7, 0, none⟩)) (k := ?_)
    refine WL.callG (d := 42) (f := 69) (args := #[.pointer (some ⟨b7, 0, none⟩)]) (qFlag_x  hr83 l85 ) (k := fun e_ w90 h_ => ?_)
    obtain ⟨n91, s92, q93, rfl, hr94, k95, l96⟩ := h_
    refine ⟨_, rfl, ?_⟩
    replace hb4 := k95.heap hb4 n13
    replace hb88 := k95.heap hb88 (Ne.symm n30)
    replace K := K.trans' k95 (fun i hi e => absurd (e ▸ hi) (Nat.not_lt.2 z12))
    clear hr83
    refine WL.op (d := 43) (.pointer (some ⟨b23, 6, none⟩)) (k := ?_)
    refine WL.store (v := .bool n91) (i := 6) (cs' := #[.int .i64 (n16 : Int), .int .i64 (n36 : Int), .int .i64 (n47 : Int), .int .i64 (n58 : Int), .int .i64 (n69 : Int), .int .i64 (n80 : Int), .bool n91, .int .i64 0, .int .i64 0, .int .i64 0]) hb88 (k := fun w98 hb99 k100 => ?_)
    replace hb4 := k100.heap hb4 n29
    replace hr94 := hr94.keeps k100 n30
    replace K := K.trans' k100 (fun i hi e => absurd (e ▸ hi) (Nat.not_lt.2 z28))
    clear hb88
    refine WL.nil ?_
    refine WX.blockN ?_
    refine WX.seqN ?_
    refine WC.seq ?_
    refine WC.region ?_
    refine WL.load (v := .agg #[.int .i64 (n16 : Int), .int .i64 (n36 : Int), .int .i64 (n47 : Int), .int .i64 (n58 : Int), .int .i64 (n69 : Int), .int .i64 (n80 : Int), .bool n91, .int .i64 0, .int .i64 0, .int .i64 0]) (ldN (T := 29) (i := 0) (m := 10) (l := [.int .i64 (n16 : Int), .int .i64 (n36 : Int), .int .i64 (n47 : Int), .int .i64 (n58 : Int), .int .i64 (n69 : Int), .int .i64 (n80 : Int), .bool n91, .int .i64 0, .int .i64 0, .int .i64 0]) hb99) (k := ?_)
    refine bsplit (decide (GOp.ok (⟨(n16 : Int), ⟨(n36 : Int), (n47 : Int), (n58 : Int), (n69 : Int), (n80 : Int)⟩, n91, 0, 0, 0⟩ : GOp))) (fun h101 => ?_) (fun h101 => ?_)
    · have ph101 := of_decide_eq_true h101
      refine WL.callG (d := 65) (f := 48) (args := #[.agg #[.int .i64 (n16 : Int), .int .i64 (n36 : Int), .int .i64 (n47 : Int), .int .i64 (n58 : Int), .int .i64 (n69 : Int), .int .i64 (n80 : Int), .bool n91, .int .i64 0, .int .i64 0, .int .i64 0]]) (u13Bytes_ok (⟨(n16 : Int), ⟨(n36 : Int), (n47 : Int), (n58 : Int), (n69 : Int), (n80 : Int)⟩, n91, 0, 0, 0⟩ : GOp) ph101 w98) (k := fun e_ w102 h_ => ⟨.tuple #[.string ⟨(GOp.enc (⟨(n16 : Int), ⟨(n36 : Int), (n47 : Int), (n58 : Int), (n69 : Int), (n80 : Int)⟩, n91, 0, 0, 0⟩ : GOp)).toArray⟩, .int .i64 0], h_.1, ?_⟩)
      have k103 := h_.2; clear h_
      replace hb4 := k103.heap hb4 id
      replace hr94 := hr94.keeps k103 id
      replace hb99 := k103.heap hb99 id
      replace K := K.trans (k103.any _)
      refine WL.op (d := 63) (.tuple #[.string ⟨(GOp.enc (⟨(n16 : Int), ⟨(n36 : Int), (n47 : Int), (n58 : Int), (n69 : Int), (n80 : Int)⟩, n91, 0, 0, 0⟩ : GOp)).toArray⟩, .int .i64 0]) (k := ?_)
      refine WL.op (d := 66) (.string ⟨(GOp.enc (⟨(n16 : Int), ⟨(n36 : Int), (n47 : Int), (n58 : Int), (n69 : Int), (n80 : Int)⟩, n91, 0, 0, 0⟩ : GOp)).toArray⟩) (k := ?_)
      refine WL.op (d := 67) (.int .i64 0) (k := ?_)
      refine WL.op (d := 6) (.string ⟨(GOp.enc (⟨(n16 : Int), ⟨(n36 : Int), (n47 : Int), (n58 : Int), (n69 : Int), (n80 : Int)⟩, n91, 0, 0, 0⟩ : GOp)).toArray⟩) (k := ?_)
      refine WL.op (d := 7) (.int .i64 0) (k := ?_)
      refine WL.nil ?_
      refine WX.seqN ?_
      refine WC.seq ?_
      refine WC.seq ?_
      refine WC.region ?_
      refine WL.op (d := 68) (.pointer (some ⟨b7, 0, none⟩)) (k := ?_)
      refine WL.callG (d := 69) (f := 70) (args := #[.pointer (some ⟨b7, 0, none⟩)]) (qEnd_any _ _ w102 hr94) (k := fun e_ w_ h_ => ⟨.bool (decide (s92 = some [])), h_.1, ?_⟩)
      obtain ⟨-, rfl⟩ := h_
      refine WL.op (d := 70) (.bool (!(decide (s92 = some [])))) (k := ?_)
      refine WL.op (d := 71) (.bool (!(decide (s92 = some [])))) (k := ?_)
      refine bsplit (!(decide (s92 = some []))) (fun h104 => ?_) (fun h104 => ?_)
      · have h105 : (decide (s92 = some [])) = false := by simpa using h104
        have ph105 := of_decide_eq_false h105
        refine WL.rw (t := 71) (v := .bool true) (congrArg Value.bool h104) (k := ?_)
        refine WL.skip (d := 72) (k := ?_)
        refine WL.skip (d := 73) (k := ?_)
        refine WL.op (d := 74) (.bool true) (k := ?_)
        refine WL.op (d := 75) (.bool true) (k := ?_)
        refine WL.skip (d := 76) (k := ?_)
        refine WL.skip (d := 77) (k := ?_)
        refine WL.skip (d := 78) (k := ?_)
        refine WL.op (d := 79) (.bool true) (k := ?_)
        refine WL.nil ?_
        refine WX.seqN ?_
        refine WC.condT (k := ?_)
        refine WC.seq ?_
        refine WC.region ?_
        refine WL.op (d := 80) (.agg #[.int .i64 0, .int .i64 0, .int .i64 0, .int .i64 0, .int .i64 0, .int .i64 0, .bool false, .int .i64 0, .int .i64 0, .int .i64 0]) (k := ?_)
        refine WL.store (v := .agg #[.int .i64 0, .int .i64 0, .int .i64 0, .int .i64 0, .int .i64 0, .int .i64 0, .bool false, .int .i64 0, .int .i64 0, .int .i64 0]) (i := 0) (cs' := #[.int .i64 0, .int .i64 0, .int .i64 0, .int .i64 0, .int .i64 0, .int .i64 0, .bool false, .int .i64 0, .int .i64 0, .int .i64 0]) hb4 (k := fun w106 hb107 k108 => ?_)
        replace hr94 := hr94.keeps k108 (Ne.symm n13)
        replace hb99 := k108.heap hb99 (Ne.symm n29)
        replace K := K.trans' k108 (fun i hi e => absurd (e ▸ hi) (Nat.not_lt.2 z6))
        clear hb4
        refine WL.op (d := 3) (.int .i64 10) (k := ?_)
        refine WL.nil ?_
        refine WX.seqN ?_
        refine WC.ret ?_
        refine WX.seqR ?_
        refine WX.ret (rs := [.cell 2 29, .tmp 3]) [.agg #[.int .i64 0, .int .i64 0, .int .i64 0, .int .i64 0, .int .i64 0, .int .i64 0, .bool false, .int .i64 0, .int .i64 0, .int .i64 0], .int .i64 10] (.tuple #[.agg #[.int .i64 0, .int .i64 0, .int .i64 0, .int .i64 0, .int .i64 0, .int .i64 0, .bool false, .int .i64 0, .int .i64 0, .int .i64 0], .int .i64 10]) ⟨⟨_, (by kernel_rfl), ldN (T := 29) (i := 0) (m := 10) (l := [.int .i64 0, .int .i64 0, .int .i64 0, .int .i64 0, .int .i64 0, .int .i64 0, .bool false, .int .i64 0, .int .i64 0, .int .i64 0]) hb107⟩, (by kernel_rfl), trivial⟩ (k := ?_)
        exact ⟨op_res (r := none) (opOf_none (fun o' h1 h2 => ph105 ((rd_1 ph34 q18 q38 q49 q60 q71 q82 q93).2 o' h1 h2).1)).symm, K⟩
      · have h109 : (decide (s92 = some [])) = true := by simpa using h104
        have ph109 := of_decide_eq_true h109
        refine WL.rw (t := 71) (v := .bool false) (congrArg Value.bool h104) (k := ?_)
        refine WL.op (d := 72) (.int .i64 0) (k := ?_)
        refine WL.op (d := 73) (.bool false) (k := ?_)
        refine WL.op (d := 74) (.bool false) (k := ?_)
        refine WL.op (d := 75) (.bool false) (k := ?_)
        refine WL.op (d := 76) (.string ⟨(GOp.enc (⟨(n16 : Int), ⟨(n36 : Int), (n47 : Int), (n58 : Int), (n69 : Int), (n80 : Int)⟩, n91, 0, 0, 0⟩ : GOp)).toArray⟩) (k := ?_)
        refine WL.op (d := 77) (.string ⟨(l).toArray⟩) (k := ?_)
        refine WL.opE (d := 78) (.bool !(ByteArray.toList ⟨(GOp.enc (⟨(n16 : Int), ⟨(n36 : Int), (n47 : Int), (n58 : Int), (n69 : Int), (n80 : Int)⟩, n91, 0, 0, 0⟩ : GOp)).toArray⟩ == ByteArray.toList ⟨(l).toArray⟩)) (v := .bool (!(decide (GOp.enc (⟨(n16 : Int), ⟨(n36 : Int), (n47 : Int), (n58 : Int), (n69 : Int), (n80 : Int)⟩, n91, 0, 0, 0⟩ : GOp) = l)))) (str_neq _ _) (k := ?_)
        refine WL.op (d := 79) (.bool (!(decide (GOp.enc (⟨(n16 : Int), ⟨(n36 : Int), (n47 : Int), (n58 : Int), (n69 : Int), (n80 : Int)⟩, n91, 0, 0, 0⟩ : GOp) = l)))) (k := ?_)
        refine WL.nil ?_
        refine WX.seqN ?_
        refine WC.cond (b := !(decide (GOp.enc (⟨(n16 : Int), ⟨(n36 : Int), (n47 : Int), (n58 : Int), (n69 : Int), (n80 : Int)⟩, n91, 0, 0, 0⟩ : GOp) = l))) (ht := fun h110 => ?_) (hf := fun h110 => ?_)
        · have h111 : (decide (GOp.enc (⟨(n16 : Int), ⟨(n36 : Int), (n47 : Int), (n58 : Int), (n69 : Int), (n80 : Int)⟩, n91, 0, 0, 0⟩ : GOp) = l)) = false := by simpa using h110
          have ph111 := of_decide_eq_false h111
          refine WC.seq ?_
          refine WC.region ?_
          refine WL.op (d := 80) (.agg #[.int .i64 0, .int .i64 0, .int .i64 0, .int .i64 0, .int .i64 0, .int .i64 0, .bool false, .int .i64 0, .int .i64 0, .int .i64 0]) (k := ?_)
          refine WL.store (v := .agg #[.int .i64 0, .int .i64 0, .int .i64 0, .int .i64 0, .int .i64 0, .int .i64 0, .bool false, .int .i64 0, .int .i64 0, .int .i64 0]) (i := 0) (cs' := #[.int .i64 0, .int .i64 0, .int .i64 0, .int .i64 0, .int .i64 0, .int .i64 0, .bool false, .int .i64 0, .int .i64 0, .int .i64 0]) hb4 (k := fun w112 hb113 k114 => ?_)
          replace hr94 := hr94.keeps k114 (Ne.symm n13)
          replace hb99 := k114.heap hb99 (Ne.symm n29)
          replace K := K.trans' k114 (fun i hi e => absurd (e ▸ hi) (Nat.not_lt.2 z6))
          clear hb4
          refine WL.op (d := 3) (.int .i64 10) (k := ?_)
          refine WL.nil ?_
          refine WX.seqN ?_
          refine WC.ret ?_
          refine WX.seqR ?_
          refine WX.ret (rs := [.cell 2 29, .tmp 3]) [.agg #[.int .i64 0, .int .i64 0, .int .i64 0, .int .i64 0, .int .i64 0, .int .i64 0, .bool false, .int .i64 0, .int .i64 0, .int .i64 0], .int .i64 10] (.tuple #[.agg #[.int .i64 0, .int .i64 0, .int .i64 0, .int .i64 0, .int .i64 0, .int .i64 0, .bool false, .int .i64 0, .int .i64 0, .int .i64 0], .int .i64 10]) ⟨⟨_, (by kernel_rfl), ldN (T := 29) (i := 0) (m := 10) (l := [.int .i64 0, .int .i64 0, .int .i64 0, .int .i64 0, .int .i64 0, .int .i64 0, .bool false, .int .i64 0, .int .i64 0, .int .i64 0]) hb113⟩, (by kernel_rfl), trivial⟩ (k := ?_)
          exact absurd ((rd_1 ph34 q18 q38 q49 q60 q71 q82 q93).1 ph109) ph111
        · have h115 : (decide (GOp.enc (⟨(n16 : Int), ⟨(n36 : Int), (n47 : Int), (n58 : Int), (n69 : Int), (n80 : Int)⟩, n91, 0, 0, 0⟩ : GOp) = l)) = true := by simpa using h110
          have ph115 := of_decide_eq_true h115
          refine WC.skip ?_
          refine WX.seqN ?_
          refine WC.seq ?_
          refine WC.region ?_
          refine WL.load (v := .agg #[.int .i64 (n16 : Int), .int .i64 (n36 : Int), .int .i64 (n47 : Int), .int .i64 (n58 : Int), .int .i64 (n69 : Int), .int .i64 (n80 : Int), .bool n91, .int .i64 0, .int .i64 0, .int .i64 0]) (ldN (T := 29) (i := 0) (m := 10) (l := [.int .i64 (n16 : Int), .int .i64 (n36 : Int), .int .i64 (n47 : Int), .int .i64 (n58 : Int), .int .i64 (n69 : Int), .int .i64 (n80 : Int), .bool n91, .int .i64 0, .int .i64 0, .int .i64 0]) hb99) (k := ?_)
          refine WL.store (v := .agg #[.int .i64 (n16 : Int), .int .i64 (n36 : Int), .int .i64 (n47 : Int), .int .i64 (n58 : Int), .int .i64 (n69 : Int), .int .i64 (n80 : Int), .bool n91, .int .i64 0, .int .i64 0, .int .i64 0]) (i := 0) (cs' := #[.int .i64 (n16 : Int), .int .i64 (n36 : Int), .int .i64 (n47 : Int), .int .i64 (n58 : Int), .int .i64 (n69 : Int), .int .i64 (n80 : Int), .bool n91, .int .i64 0, .int .i64 0, .int .i64 0]) hb4 (k := fun w116 hb117 k118 => ?_)
          replace hr94 := hr94.keeps k118 (Ne.symm n13)
          replace hb99 := k118.heap hb99 (Ne.symm n29)
          replace K := K.trans' k118 (fun i hi e => absurd (e ▸ hi) (Nat.not_lt.2 z6))
          clear hb4
          refine WL.op (d := 3) (.int .i64 0) (k := ?_)
          refine WL.nil ?_
          refine WX.seqN ?_
          refine WC.ret ?_
          refine WX.ret (rs := [.cell 2 29, .tmp 3]) [.agg #[.int .i64 (n16 : Int), .int .i64 (n36 : Int), .int .i64 (n47 : Int), .int .i64 (n58 : Int), .int .i64 (n69 : Int), .int .i64 (n80 : Int), .bool n91, .int .i64 0, .int .i64 0, .int .i64 0], .int .i64 0] (.tuple #[.agg #[.int .i64 (n16 : Int), .int .i64 (n36 : Int), .int .i64 (n47 : Int), .int .i64 (n58 : Int), .int .i64 (n69 : Int), .int .i64 (n80 : Int), .bool n91, .int .i64 0, .int .i64 0, .int .i64 0], .int .i64 0]) ⟨⟨_, (by kernel_rfl), ldN (T := 29) (i := 0) (m := 10) (l := [.int .i64 (n16 : Int), .int .i64 (n36 : Int), .int .i64 (n47 : Int), .int .i64 (n58 : Int), .int .i64 (n69 : Int), .int .i64 (n80 : Int), .bool n91, .int .i64 0, .int .i64 0, .int .i64 0]) hb117⟩, (by kernel_rfl), trivial⟩ (k := ?_)
          exact ⟨op_res (opOf_some ph101 ((rd_1 ph34 q18 q38 q49 q60 q71 q82 q93).1 ph109)).symm, K⟩
    · have ph101 := of_decide_eq_false h101
      refine WL.callG (d := 65) (f := 48) (args := #[.agg #[.int .i64 (n16 : Int), .int .i64 (n36 : Int), .int .i64 (n47 : Int), .int .i64 (n58 : Int), .int .i64 (n69 : Int), .int .i64 (n80 : Int), .bool n91, .int .i64 0, .int .i64 0, .int .i64 0]]) (u13Bytes_no (⟨(n16 : Int), ⟨(n36 : Int), (n47 : Int), (n58 : Int), (n69 : Int), (n80 : Int)⟩, n91, 0, 0, 0⟩ : GOp) ph101 w98) (k := fun e_ w119 h_ => ⟨.tuple #[.string ⟨#[]⟩, .int .i64 1], h_.1, ?_⟩)
      have k120 := h_.2; clear h_
      replace hb4 := k120.heap hb4 id
      replace hr94 := hr94.keeps k120 id
      replace hb99 := k120.heap hb99 id
      replace K := K.trans (k120.any _)
      refine WL.op (d := 63) (.tuple #[.string ⟨#[]⟩, .int .i64 1]) (k := ?_)
      refine WL.op (d := 66) (.string ⟨#[]⟩) (k := ?_)
      refine WL.op (d := 67) (.int .i64 1) (k := ?_)
      refine WL.op (d := 6) (.string ⟨#[]⟩) (k := ?_)
      refine WL.op (d := 7) (.int .i64 1) (k := ?_)
      refine WL.nil ?_
      refine WX.seqN ?_
      refine WC.seq ?_
      refine WC.seq ?_
      refine WC.region ?_
      refine WL.op (d := 68) (.pointer (some ⟨b7, 0, none⟩)) (k := ?_)
      refine WL.callG (d := 69) (f := 70) (args := #[.pointer (some ⟨b7, 0, none⟩)]) (qEnd_any _ _ w119 hr94) (k := fun e_ w_ h_ => ⟨.bool (decide (s92 = some [])), h_.1, ?_⟩)
      obtain ⟨-, rfl⟩ := h_
      refine WL.op (d := 70) (.bool (!(decide (s92 = some [])))) (k := ?_)
      refine WL.op (d := 71) (.bool (!(decide (s92 = some [])))) (k := ?_)
      refine bsplit (!(decide (s92 = some []))) (fun h121 => ?_) (fun h121 => ?_)
      · have h122 : (decide (s92 = some [])) = false := by simpa using h121
        have ph122 := of_decide_eq_false h122
        refine WL.rw (t := 71) (v := .bool true) (congrArg Value.bool h121) (k := ?_)
        refine WL.skip (d := 72) (k := ?_)
        refine WL.skip (d := 73) (k := ?_)
        refine WL.op (d := 74) (.bool true) (k := ?_)
        refine WL.op (d := 75) (.bool true) (k := ?_)
        refine WL.skip (d := 76) (k := ?_)
        refine WL.skip (d := 77) (k := ?_)
        refine WL.skip (d := 78) (k := ?_)
        refine WL.op (d := 79) (.bool true) (k := ?_)
        refine WL.nil ?_
        refine WX.seqN ?_
        refine WC.condT (k := ?_)
        refine WC.seq ?_
        refine WC.region ?_
        refine WL.op (d := 80) (.agg #[.int .i64 0, .int .i64 0, .int .i64 0, .int .i64 0, .int .i64 0, .int .i64 0, .bool false, .int .i64 0, .int .i64 0, .int .i64 0]) (k := ?_)
        refine WL.store (v := .agg #[.int .i64 0, .int .i64 0, .int .i64 0, .int .i64 0, .int .i64 0, .int .i64 0, .bool false, .int .i64 0, .int .i64 0, .int .i64 0]) (i := 0) (cs' := #[.int .i64 0, .int .i64 0, .int .i64 0, .int .i64 0, .int .i64 0, .int .i64 0, .bool false, .int .i64 0, .int .i64 0, .int .i64 0]) hb4 (k := fun w123 hb124 k125 => ?_)
        replace hr94 := hr94.keeps k125 (Ne.symm n13)
        replace hb99 := k125.heap hb99 (Ne.symm n29)
        replace K := K.trans' k125 (fun i hi e => absurd (e ▸ hi) (Nat.not_lt.2 z6))
        clear hb4
        refine WL.op (d := 3) (.int .i64 10) (k := ?_)
        refine WL.nil ?_
        refine WX.seqN ?_
        refine WC.ret ?_
        refine WX.seqR ?_
        refine WX.ret (rs := [.cell 2 29, .tmp 3]) [.agg #[.int .i64 0, .int .i64 0, .int .i64 0, .int .i64 0, .int .i64 0, .int .i64 0, .bool false, .int .i64 0, .int .i64 0, .int .i64 0], .int .i64 10] (.tuple #[.agg #[.int .i64 0, .int .i64 0, .int .i64 0, .int .i64 0, .int .i64 0, .int .i64 0, .bool false, .int .i64 0, .int .i64 0, .int .i64 0], .int .i64 10]) ⟨⟨_, (by kernel_rfl), ldN (T := 29) (i := 0) (m := 10) (l := [.int .i64 0, .int .i64 0, .int .i64 0, .int .i64 0, .int .i64 0, .int .i64 0, .bool false, .int .i64 0, .int .i64 0, .int .i64 0]) hb124⟩, (by kernel_rfl), trivial⟩ (k := ?_)
        exact ⟨op_res (r := none) (opOf_none (fun o' h1 h2 => ph122 ((rd_1 ph34 q18 q38 q49 q60 q71 q82 q93).2 o' h1 h2).1)).symm, K⟩
      · have h126 : (decide (s92 = some [])) = true := by simpa using h121
        have ph126 := of_decide_eq_true h126
        refine WL.rw (t := 71) (v := .bool false) (congrArg Value.bool h121) (k := ?_)
        refine WL.op (d := 72) (.int .i64 1) (k := ?_)
        refine WL.op (d := 73) (.bool true) (k := ?_)
        refine WL.op (d := 74) (.bool true) (k := ?_)
        refine WL.op (d := 75) (.bool true) (k := ?_)
        refine WL.skip (d := 76) (k := ?_)
        refine WL.skip (d := 77) (k := ?_)
        refine WL.skip (d := 78) (k := ?_)
        refine WL.op (d := 79) (.bool true) (k := ?_)
        refine WL.nil ?_
        refine WX.seqN ?_
        refine WC.condT (k := ?_)
        refine WC.seq ?_
        refine WC.region ?_
        refine WL.op (d := 80) (.agg #[.int .i64 0, .int .i64 0, .int .i64 0, .int .i64 0, .int .i64 0, .int .i64 0, .bool false, .int .i64 0, .int .i64 0, .int .i64 0]) (k := ?_)
        refine WL.store (v := .agg #[.int .i64 0, .int .i64 0, .int .i64 0, .int .i64 0, .int .i64 0, .int .i64 0, .bool false, .int .i64 0, .int .i64 0, .int .i64 0]) (i := 0) (cs' := #[.int .i64 0, .int .i64 0, .int .i64 0, .int .i64 0, .int .i64 0, .int .i64 0, .bool false, .int .i64 0, .int .i64 0, .int .i64 0]) hb4 (k := fun w127 hb128 k129 => ?_)
        replace hr94 := hr94.keeps k129 (Ne.symm n13)
        replace hb99 := k129.heap hb99 (Ne.symm n29)
        replace K := K.trans' k129 (fun i hi e => absurd (e ▸ hi) (Nat.not_lt.2 z6))
        clear hb4
        refine WL.op (d := 3) (.int .i64 10) (k := ?_)
        refine WL.nil ?_
        refine WX.seqN ?_
        refine WC.ret ?_
        refine WX.seqR ?_
        refine WX.ret (rs := [.cell 2 29, .tmp 3]) [.agg #[.int .i64 0, .int .i64 0, .int .i64 0, .int .i64 0, .int .i64 0, .int .i64 0, .bool false, .int .i64 0, .int .i64 0, .int .i64 0], .int .i64 10] (.tuple #[.agg #[.int .i64 0, .int .i64 0, .int .i64 0, .int .i64 0, .int .i64 0, .int .i64 0, .bool false, .int .i64 0, .int .i64 0, .int .i64 0], .int .i64 10]) ⟨⟨_, (by kernel_rfl), ldN (T := 29) (i := 0) (m := 10) (l := [.int .i64 0, .int .i64 0, .int .i64 0, .int .i64 0, .int .i64 0, .int .i64 0, .bool false, .int .i64 0, .int .i64 0, .int .i64 0]) hb128⟩, (by kernel_rfl), trivial⟩ (k := ?_)
        exact ⟨op_res (r := none) (opOf_none (fun o' h1 h2 => ph101 (((rd_1 ph34 q18 q38 q49 q60 q71 q82 q93).2 o' h1 h2).2 ▸ h1))).symm, K⟩
  · have ph34 := ne_of_beq_false h34
    refine WC.seq ?_
    refine WC.region ?_
    refine WL.op (d := 45) (.bool ((n16 : Int) == 2)) (k := ?_)
    refine WL.op (d := 44) (.bool ((n16 : Int) == 2)) (k := ?_)
    refine WL.nil ?_
    refine WX.seqN ?_
    refine WC.cond (b := (n16 : Int) == 2) (ht := fun h130 => ?_) (hf := fun h130 => ?_)
    · have ph130 := eq_of_beq h130
      refine WC.region ?_
      refine WL.op (d := 46) (.pointer (some ⟨b7, 0, none⟩)) (k := ?_)
      refine WL.callG (d := 47) (f := 56) (args := #[.pointer (some ⟨b7, 0, none⟩), .int .i64 1023]) (qInt_x 1023 hr19 l21 (by omega) (by omega)) (k := fun e_ w131 h_ => ?_)
      obtain ⟨n132, s133, q134, rfl, hr135, k136, l137, m138⟩ := h_
      refine ⟨_, rfl, ?_⟩
      replace hb4 := k136.heap hb4 n13
      replace hb32 := k136.heap hb32 (Ne.symm n30)
      replace K := K.trans' k136 (fun i hi e => absurd (e ▸ hi) (Nat.not_lt.2 z12))
      clear hr19
      refine WL.op (d := 48) (.pointer (some ⟨b23, 7, none⟩)) (k := ?_)
      refine WL.store (v := .int .i64 (n132 : Int)) (i := 7) (cs' := #[.int .i64 (n16 : Int), .int .i64 0, .int .i64 0, .int .i64 0, .int .i64 0, .int .i64 0, .bool false, .int .i64 (n132 : Int), .int .i64 0, .int .i64 0]) hb32 (k := fun w139 hb140 k141 => ?_)
      replace hb4 := k141.heap hb4 n29
      replace hr135 := hr135.keeps k141 n30
      replace K := K.trans' k141 (fun i hi e => absurd (e ▸ hi) (Nat.not_lt.2 z28))
      clear hb32
      refine WL.nil ?_
      refine WX.blockN ?_
      refine WX.seqN ?_
      refine WC.seq ?_
      refine WC.region ?_
      refine WL.load (v := .agg #[.int .i64 (n16 : Int), .int .i64 0, .int .i64 0, .int .i64 0, .int .i64 0, .int .i64 0, .bool false, .int .i64 (n132 : Int), .int .i64 0, .int .i64 0]) (ldN (T := 29) (i := 0) (m := 10) (l := [.int .i64 (n16 : Int), .int .i64 0, .int .i64 0, .int .i64 0, .int .i64 0, .int .i64 0, .bool false, .int .i64 (n132 : Int), .int .i64 0, .int .i64 0]) hb140) (k := ?_)
      refine bsplit (decide (GOp.ok (⟨(n16 : Int), ⟨0, 0, 0, 0, 0⟩, false, (n132 : Int), 0, 0⟩ : GOp))) (fun h142 => ?_) (fun h142 => ?_)
      · have ph142 := of_decide_eq_true h142
        refine WL.callG (d := 65) (f := 48) (args := #[.agg #[.int .i64 (n16 : Int), .int .i64 0, .int .i64 0, .int .i64 0, .int .i64 0, .int .i64 0, .bool false, .int .i64 (n132 : Int), .int .i64 0, .int .i64 0]]) (u13Bytes_ok (⟨(n16 : Int), ⟨0, 0, 0, 0, 0⟩, false, (n132 : Int), 0, 0⟩ : GOp) ph142 w139) (k := fun e_ w143 h_ => ⟨.tuple #[.string ⟨(GOp.enc (⟨(n16 : Int), ⟨0, 0, 0, 0, 0⟩, false, (n132 : Int), 0, 0⟩ : GOp)).toArray⟩, .int .i64 0], h_.1, ?_⟩)
        have k144 := h_.2; clear h_
        replace hb4 := k144.heap hb4 id
        replace hr135 := hr135.keeps k144 id
        replace hb140 := k144.heap hb140 id
        replace K := K.trans (k144.any _)
        refine WL.op (d := 63) (.tuple #[.string ⟨(GOp.enc (⟨(n16 : Int), ⟨0, 0, 0, 0, 0⟩, false, (n132 : Int), 0, 0⟩ : GOp)).toArray⟩, .int .i64 0]) (k := ?_)
        refine WL.op (d := 66) (.string ⟨(GOp.enc (⟨(n16 : Int), ⟨0, 0, 0, 0, 0⟩, false, (n132 : Int), 0, 0⟩ : GOp)).toArray⟩) (k := ?_)
        refine WL.op (d := 67) (.int .i64 0) (k := ?_)
        refine WL.op (d := 6) (.string ⟨(GOp.enc (⟨(n16 : Int), ⟨0, 0, 0, 0, 0⟩, false, (n132 : Int), 0, 0⟩ : GOp)).toArray⟩) (k := ?_)
        refine WL.op (d := 7) (.int .i64 0) (k := ?_)
        refine WL.nil ?_
        refine WX.seqN ?_
        refine WC.seq ?_
        refine WC.seq ?_
        refine WC.region ?_
        refine WL.op (d := 68) (.pointer (some ⟨b7, 0, none⟩)) (k := ?_)
        refine WL.callG (d := 69) (f := 70) (args := #[.pointer (some ⟨b7, 0, none⟩)]) (qEnd_any _ _ w143 hr135) (k := fun e_ w_ h_ => ⟨.bool (decide (s133 = some [])), h_.1, ?_⟩)
        obtain ⟨-, rfl⟩ := h_
        refine WL.op (d := 70) (.bool (!(decide (s133 = some [])))) (k := ?_)
        refine WL.op (d := 71) (.bool (!(decide (s133 = some [])))) (k := ?_)
        refine bsplit (!(decide (s133 = some []))) (fun h145 => ?_) (fun h145 => ?_)
        · have h146 : (decide (s133 = some [])) = false := by simpa using h145
          have ph146 := of_decide_eq_false h146
          refine WL.rw (t := 71) (v := .bool true) (congrArg Value.bool h145) (k := ?_)
          refine WL.skip (d := 72) (k := ?_)
          refine WL.skip (d := 73) (k := ?_)
          refine WL.op (d := 74) (.bool true) (k := ?_)
          refine WL.op (d := 75) (.bool true) (k := ?_)
          refine WL.skip (d := 76) (k := ?_)
          refine WL.skip (d := 77) (k := ?_)
          refine WL.skip (d := 78) (k := ?_)
          refine WL.op (d := 79) (.bool true) (k := ?_)
          refine WL.nil ?_
          refine WX.seqN ?_
          refine WC.condT (k := ?_)
          refine WC.seq ?_
          refine WC.region ?_
          refine WL.op (d := 80) (.agg #[.int .i64 0, .int .i64 0, .int .i64 0, .int .i64 0, .int .i64 0, .int .i64 0, .bool false, .int .i64 0, .int .i64 0, .int .i64 0]) (k := ?_)
          refine WL.store (v := .agg #[.int .i64 0, .int .i64 0, .int .i64 0, .int .i64 0, .int .i64 0, .int .i64 0, .bool false, .int .i64 0, .int .i64 0, .int .i64 0]) (i := 0) (cs' := #[.int .i64 0, .int .i64 0, .int .i64 0, .int .i64 0, .int .i64 0, .int .i64 0, .bool false, .int .i64 0, .int .i64 0, .int .i64 0]) hb4 (k := fun w147 hb148 k149 => ?_)
          replace hr135 := hr135.keeps k149 (Ne.symm n13)
          replace hb140 := k149.heap hb140 (Ne.symm n29)
          replace K := K.trans' k149 (fun i hi e => absurd (e ▸ hi) (Nat.not_lt.2 z6))
          clear hb4
          refine WL.op (d := 3) (.int .i64 10) (k := ?_)
          refine WL.nil ?_
          refine WX.seqN ?_
          refine WC.ret ?_
          refine WX.seqR ?_
          refine WX.ret (rs := [.cell 2 29, .tmp 3]) [.agg #[.int .i64 0, .int .i64 0, .int .i64 0, .int .i64 0, .int .i64 0, .int .i64 0, .bool false, .int .i64 0, .int .i64 0, .int .i64 0], .int .i64 10] (.tuple #[.agg #[.int .i64 0, .int .i64 0, .int .i64 0, .int .i64 0, .int .i64 0, .int .i64 0, .bool false, .int .i64 0, .int .i64 0, .int .i64 0], .int .i64 10]) ⟨⟨_, (by kernel_rfl), ldN (T := 29) (i := 0) (m := 10) (l := [.int .i64 0, .int .i64 0, .int .i64 0, .int .i64 0, .int .i64 0, .int .i64 0, .bool false, .int .i64 0, .int .i64 0, .int .i64 0]) hb148⟩, (by kernel_rfl), trivial⟩ (k := ?_)
          exact ⟨op_res (r := none) (opOf_none (fun o' h1 h2 => ph146 ((rd_2 ph130 q18 q134).2 o' h1 h2).1)).symm, K⟩
        · have h150 : (decide (s133 = some [])) = true := by simpa using h145
          have ph150 := of_decide_eq_true h150
          refine WL.rw (t := 71) (v := .bool false) (congrArg Value.bool h145) (k := ?_)
          refine WL.op (d := 72) (.int .i64 0) (k := ?_)
          refine WL.op (d := 73) (.bool false) (k := ?_)
          refine WL.op (d := 74) (.bool false) (k := ?_)
          refine WL.op (d := 75) (.bool false) (k := ?_)
          refine WL.op (d := 76) (.string ⟨(GOp.enc (⟨(n16 : Int), ⟨0, 0, 0, 0, 0⟩, false, (n132 : Int), 0, 0⟩ : GOp)).toArray⟩) (k := ?_)
          refine WL.op (d := 77) (.string ⟨(l).toArray⟩) (k := ?_)
          refine WL.opE (d := 78) (.bool !(ByteArray.toList ⟨(GOp.enc (⟨(n16 : Int), ⟨0, 0, 0, 0, 0⟩, false, (n132 : Int), 0, 0⟩ : GOp)).toArray⟩ == ByteArray.toList ⟨(l).toArray⟩)) (v := .bool (!(decide (GOp.enc (⟨(n16 : Int), ⟨0, 0, 0, 0, 0⟩, false, (n132 : Int), 0, 0⟩ : GOp) = l)))) (str_neq _ _) (k := ?_)
          refine WL.op (d := 79) (.bool (!(decide (GOp.enc (⟨(n16 : Int), ⟨0, 0, 0, 0, 0⟩, false, (n132 : Int), 0, 0⟩ : GOp) = l)))) (k := ?_)
          refine WL.nil ?_
          refine WX.seqN ?_
          refine WC.cond (b := !(decide (GOp.enc (⟨(n16 : Int), ⟨0, 0, 0, 0, 0⟩, false, (n132 : Int), 0, 0⟩ : GOp) = l))) (ht := fun h151 => ?_) (hf := fun h151 => ?_)
          · have h152 : (decide (GOp.enc (⟨(n16 : Int), ⟨0, 0, 0, 0, 0⟩, false, (n132 : Int), 0, 0⟩ : GOp) = l)) = false := by simpa using h151
            have ph152 := of_decide_eq_false h152
            refine WC.seq ?_
            refine WC.region ?_
            refine WL.op (d := 80) (.agg #[.int .i64 0, .int .i64 0, .int .i64 0, .int .i64 0, .int .i64 0, .int .i64 0, .bool false, .int .i64 0, .int .i64 0, .int .i64 0]) (k := ?_)
            refine WL.store (v := .agg #[.int .i64 0, .int .i64 0, .int .i64 0, .int .i64 0, .int .i64 0, .int .i64 0, .bool false, .int .i64 0, .int .i64 0, .int .i64 0]) (i := 0) (cs' := #[.int .i64 0, .int .i64 0, .int .i64 0, .int .i64 0, .int .i64 0, .int .i64 0, .bool false, .int .i64 0, .int .i64 0, .int .i64 0]) hb4 (k := fun w153 hb154 k155 => ?_)
            replace hr135 := hr135.keeps k155 (Ne.symm n13)
            replace hb140 := k155.heap hb140 (Ne.symm n29)
            replace K := K.trans' k155 (fun i hi e => absurd (e ▸ hi) (Nat.not_lt.2 z6))
            clear hb4
            refine WL.op (d := 3) (.int .i64 10) (k := ?_)
            refine WL.nil ?_
            refine WX.seqN ?_
            refine WC.ret ?_
            refine WX.seqR ?_
            refine WX.ret (rs := [.cell 2 29, .tmp 3]) [.agg #[.int .i64 0, .int .i64 0, .int .i64 0, .int .i64 0, .int .i64 0, .int .i64 0, .bool false, .int .i64 0, .int .i64 0, .int .i64 0], .int .i64 10] (.tuple #[.agg #[.int .i64 0, .int .i64 0, .int .i64 0, .int .i64 0, .int .i64 0, .int .i64 0, .bool false, .int .i64 0, .int .i64 0, .int .i64 0], .int .i64 10]) ⟨⟨_, (by kernel_rfl), ldN (T := 29) (i := 0) (m := 10) (l := [.int .i64 0, .int .i64 0, .int .i64 0, .int .i64 0, .int .i64 0, .int .i64 0, .bool false, .int .i64 0, .int .i64 0, .int .i64 0]) hb154⟩, (by kernel_rfl), trivial⟩ (k := ?_)
            exact absurd ((rd_2 ph130 q18 q134).1 ph150) ph152
          · have h156 : (decide (GOp.enc (⟨(n16 : Int), ⟨0, 0, 0, 0, 0⟩, false, (n132 : Int), 0, 0⟩ : GOp) = l)) = true := by simpa using h151
            have ph156 := of_decide_eq_true h156
            refine WC.skip ?_
            refine WX.seqN ?_
            refine WC.seq ?_
            refine WC.region ?_
            refine WL.load (v := .agg #[.int .i64 (n16 : Int), .int .i64 0, .int .i64 0, .int .i64 0, .int .i64 0, .int .i64 0, .bool false, .int .i64 (n132 : Int), .int .i64 0, .int .i64 0]) (ldN (T := 29) (i := 0) (m := 10) (l := [.int .i64 (n16 : Int), .int .i64 0, .int .i64 0, .int .i64 0, .int .i64 0, .int .i64 0, .bool false, .int .i64 (n132 : Int), .int .i64 0, .int .i64 0]) hb140) (k := ?_)
            refine WL.store (v := .agg #[.int .i64 (n16 : Int), .int .i64 0, .int .i64 0, .int .i64 0, .int .i64 0, .int .i64 0, .bool false, .int .i64 (n132 : Int), .int .i64 0, .int .i64 0]) (i := 0) (cs' := #[.int .i64 (n16 : Int), .int .i64 0, .int .i64 0, .int .i64 0, .int .i64 0, .int .i64 0, .bool false, .int .i64 (n132 : Int), .int .i64 0, .int .i64 0]) hb4 (k := fun w157 hb158 k159 => ?_)
            replace hr135 := hr135.keeps k159 (Ne.symm n13)
            replace hb140 := k159.heap hb140 (Ne.symm n29)
            replace K := K.trans' k159 (fun i hi e => absurd (e ▸ hi) (Nat.not_lt.2 z6))
            clear hb4
            refine WL.op (d := 3) (.int .i64 0) (k := ?_)
            refine WL.nil ?_
            refine WX.seqN ?_
            refine WC.ret ?_
            refine WX.ret (rs := [.cell 2 29, .tmp 3]) [.agg #[.int .i64 (n16 : Int), .int .i64 0, .int .i64 0, .int .i64 0, .int .i64 0, .int .i64 0, .bool false, .int .i64 (n132 : Int), .int .i64 0, .int .i64 0], .int .i64 0] (.tuple #[.agg #[.int .i64 (n16 : Int), .int .i64 0, .int .i64 0, .int .i64 0, .int .i64 0, .int .i64 0, .bool false, .int .i64 (n132 : Int), .int .i64 0, .int .i64 0], .int .i64 0]) ⟨⟨_, (by kernel_rfl), ldN (T := 29) (i := 0) (m := 10) (l := [.int .i64 (n16 : Int), .int .i64 0, .int .i64 0, .int .i64 0, .int .i64 0, .int .i64 0, .bool false, .int .i64 (n132 : Int), .int .i64 0, .int .i64 0]) hb158⟩, (by kernel_rfl), trivial⟩ (k := ?_)
            exact ⟨op_res (opOf_some ph142 ((rd_2 ph130 q18 q134).1 ph150)).symm, K⟩
      · have ph142 := of_decide_eq_false h142
        refine WL.callG (d := 65) (f := 48) (args := #[.agg #[.int .i64 (n16 : Int), .int .i64 0, .int .i64 0, .int .i64 0, .int .i64 0, .int .i64 0, .bool false, .int .i64 (n132 : Int), .int .i64 0, .int .i64 0]]) (u13Bytes_no (⟨(n16 : Int), ⟨0, 0, 0, 0, 0⟩, false, (n132 : Int), 0, 0⟩ : GOp) ph142 w139) (k := fun e_ w160 h_ => ⟨.tuple #[.string ⟨#[]⟩, .int .i64 1], h_.1, ?_⟩)
        have k161 := h_.2; clear h_
        replace hb4 := k161.heap hb4 id
        replace hr135 := hr135.keeps k161 id
        replace hb140 := k161.heap hb140 id
        replace K := K.trans (k161.any _)
        refine WL.op (d := 63) (.tuple #[.string ⟨#[]⟩, .int .i64 1]) (k := ?_)
        refine WL.op (d := 66) (.string ⟨#[]⟩) (k := ?_)
        refine WL.op (d := 67) (.int .i64 1) (k := ?_)
        refine WL.op (d := 6) (.string ⟨#[]⟩) (k := ?_)
        refine WL.op (d := 7) (.int .i64 1) (k := ?_)
        refine WL.nil ?_
        refine WX.seqN ?_
        refine WC.seq ?_
        refine WC.seq ?_
        refine WC.region ?_
        refine WL.op (d := 68) (.pointer (some ⟨b7, 0, none⟩)) (k := ?_)
        refine WL.callG (d := 69) (f := 70) (args := #[.pointer (some ⟨b7, 0, none⟩)]) (qEnd_any _ _ w160 hr135) (k := fun e_ w_ h_ => ⟨.bool (decide (s133 = some [])), h_.1, ?_⟩)
        obtain ⟨-, rfl⟩ := h_
        refine WL.op (d := 70) (.bool (!(decide (s133 = some [])))) (k := ?_)
        refine WL.op (d := 71) (.bool (!(decide (s133 = some [])))) (k := ?_)
        refine bsplit (!(decide (s133 = some []))) (fun h162 => ?_) (fun h162 => ?_)
        · have h163 : (decide (s133 = some [])) = false := by simpa using h162
          have ph163 := of_decide_eq_false h163
          refine WL.rw (t := 71) (v := .bool true) (congrArg Value.bool h162) (k := ?_)
          refine WL.skip (d := 72) (k := ?_)
          refine WL.skip (d := 73) (k := ?_)
          refine WL.op (d := 74) (.bool true) (k := ?_)
          refine WL.op (d := 75) (.bool true) (k := ?_)
          refine WL.skip (d := 76) (k := ?_)
          refine WL.skip (d := 77) (k := ?_)
          refine WL.skip (d := 78) (k := ?_)
          refine WL.op (d := 79) (.bool true) (k := ?_)
          refine WL.nil ?_
          refine WX.seqN ?_
          refine WC.condT (k := ?_)
          refine WC.seq ?_
          refine WC.region ?_
          refine WL.op (d := 80) (.agg #[.int .i64 0, .int .i64 0, .int .i64 0, .int .i64 0, .int .i64 0, .int .i64 0, .bool false, .int .i64 0, .int .i64 0, .int .i64 0]) (k := ?_)
          refine WL.store (v := .agg #[.int .i64 0, .int .i64 0, .int .i64 0, .int .i64 0, .int .i64 0, .int .i64 0, .bool false, .int .i64 0, .int .i64 0, .int .i64 0]) (i := 0) (cs' := #[.int .i64 0, .int .i64 0, .int .i64 0, .int .i64 0, .int .i64 0, .int .i64 0, .bool false, .int .i64 0, .int .i64 0, .int .i64 0]) hb4 (k := fun w164 hb165 k166 => ?_)
          replace hr135 := hr135.keeps k166 (Ne.symm n13)
          replace hb140 := k166.heap hb140 (Ne.symm n29)
          replace K := K.trans' k166 (fun i hi e => absurd (e ▸ hi) (Nat.not_lt.2 z6))
          clear hb4
          refine WL.op (d := 3) (.int .i64 10) (k := ?_)
          refine WL.nil ?_
          refine WX.seqN ?_
          refine WC.ret ?_
          refine WX.seqR ?_
          refine WX.ret (rs := [.cell 2 29, .tmp 3]) [.agg #[.int .i64 0, .int .i64 0, .int .i64 0, .int .i64 0, .int .i64 0, .int .i64 0, .bool false, .int .i64 0, .int .i64 0, .int .i64 0], .int .i64 10] (.tuple #[.agg #[.int .i64 0, .int .i64 0, .int .i64 0, .int .i64 0, .int .i64 0, .int .i64 0, .bool false, .int .i64 0, .int .i64 0, .int .i64 0], .int .i64 10]) ⟨⟨_, (by kernel_rfl), ldN (T := 29) (i := 0) (m := 10) (l := [.int .i64 0, .int .i64 0, .int .i64 0, .int .i64 0, .int .i64 0, .int .i64 0, .bool false, .int .i64 0, .int .i64 0, .int .i64 0]) hb165⟩, (by kernel_rfl), trivial⟩ (k := ?_)
          exact ⟨op_res (r := none) (opOf_none (fun o' h1 h2 => ph163 ((rd_2 ph130 q18 q134).2 o' h1 h2).1)).symm, K⟩
        · have h167 : (decide (s133 = some [])) = true := by simpa using h162
          have ph167 := of_decide_eq_true h167
          refine WL.rw (t := 71) (v := .bool false) (congrArg Value.bool h162) (k := ?_)
          refine WL.op (d := 72) (.int .i64 1) (k := ?_)
          refine WL.op (d := 73) (.bool true) (k := ?_)
          refine WL.op (d := 74) (.bool true) (k := ?_)
          refine WL.op (d := 75) (.bool true) (k := ?_)
          refine WL.skip (d := 76) (k := ?_)
          refine WL.skip (d := 77) (k := ?_)
          refine WL.skip (d := 78) (k := ?_)
          refine WL.op (d := 79) (.bool true) (k := ?_)
          refine WL.nil ?_
          refine WX.seqN ?_
          refine WC.condT (k := ?_)
          refine WC.seq ?_
          refine WC.region ?_
          refine WL.op (d := 80) (.agg #[.int .i64 0, .int .i64 0, .int .i64 0, .int .i64 0, .int .i64 0, .int .i64 0, .bool false, .int .i64 0, .int .i64 0, .int .i64 0]) (k := ?_)
          refine WL.store (v := .agg #[.int .i64 0, .int .i64 0, .int .i64 0, .int .i64 0, .int .i64 0, .int .i64 0, .bool false, .int .i64 0, .int .i64 0, .int .i64 0]) (i := 0) (cs' := #[.int .i64 0, .int .i64 0, .int .i64 0, .int .i64 0, .int .i64 0, .int .i64 0, .bool false, .int .i64 0, .int .i64 0, .int .i64 0]) hb4 (k := fun w168 hb169 k170 => ?_)
          replace hr135 := hr135.keeps k170 (Ne.symm n13)
          replace hb140 := k170.heap hb140 (Ne.symm n29)
          replace K := K.trans' k170 (fun i hi e => absurd (e ▸ hi) (Nat.not_lt.2 z6))
          clear hb4
          refine WL.op (d := 3) (.int .i64 10) (k := ?_)
          refine WL.nil ?_
          refine WX.seqN ?_
          refine WC.ret ?_
          refine WX.seqR ?_
          refine WX.ret (rs := [.cell 2 29, .tmp 3]) [.agg #[.int .i64 0, .int .i64 0, .int .i64 0, .int .i64 0, .int .i64 0, .int .i64 0, .bool false, .int .i64 0, .int .i64 0, .int .i64 0], .int .i64 10] (.tuple #[.agg #[.int .i64 0, .int .i64 0, .int .i64 0, .int .i64 0, .int .i64 0, .int .i64 0, .bool false, .int .i64 0, .int .i64 0, .int .i64 0], .int .i64 10]) ⟨⟨_, (by kernel_rfl), ldN (T := 29) (i := 0) (m := 10) (l := [.int .i64 0, .int .i64 0, .int .i64 0, .int .i64 0, .int .i64 0, .int .i64 0, .bool false, .int .i64 0, .int .i64 0, .int .i64 0]) hb169⟩, (by kernel_rfl), trivial⟩ (k := ?_)
          exact ⟨op_res (r := none) (opOf_none (fun o' h1 h2 => ph142 (((rd_2 ph130 q18 q134).2 o' h1 h2).2 ▸ h1))).symm, K⟩
    · have ph130 := ne_of_beq_false h130
      refine WC.seq ?_
      refine WC.region ?_
      refine WL.op (d := 50) (.bool ((n16 : Int) == 3)) (k := ?_)
      refine WL.op (d := 49) (.bool ((n16 : Int) == 3)) (k := ?_)
      refine WL.nil ?_
      refine WX.seqN ?_
      refine WC.cond (b := (n16 : Int) == 3) (ht := fun h171 => ?_) (hf := fun h171 => ?_)
      · have ph171 := eq_of_beq h171
        refine WC.seq ?_
        refine WC.region ?_
        refine WL.op (d := 51) (.pointer (some ⟨b7, 0, none⟩)) (k := ?_)
        refine WL.callG (d := 52) (f := 56) (args := #[.pointer (some ⟨b7, 0, none⟩), .int .i64 1023]) (qInt_x 1023 hr19 l21 (by omega) (by omega)) (k := fun e_ w172 h_ => ?_)
        obtain ⟨n173, s174, q175, rfl, hr176, k177, l178, m179⟩ := h_
        refine ⟨_, rfl, ?_⟩
        replace hb4 := k177.heap hb4 n13
        replace hb32 := k177.heap hb32 (Ne.symm n30)
        replace K := K.trans' k177 (fun i hi e => absurd (e ▸ hi) (Nat.not_lt.2 z12))
        clear hr19
        refine WL.op (d := 53) (.pointer (some ⟨b23, 7, none⟩)) (k := ?_)
        refine WL.store (v := .int .i64 (n173 : Int)) (i := 7) (cs' := #[.int .i64 (n16 : Int), .int .i64 0, .int .i64 0, .int .i64 0, .int .i64 0, .int .i64 0, .bool false, .int .i64 (n173 : Int), .int .i64 0, .int .i64 0]) hb32 (k := fun w180 hb181 k182 => ?_)
        replace hb4 := k182.heap hb4 n29
        replace hr176 := hr176.keeps k182 n30
        replace K := K.trans' k182 (fun i hi e => absurd (e ▸ hi) (Nat.not_lt.2 z28))
        clear hb32
        refine WL.nil ?_
        refine WX.seqN ?_
        refine WC.region ?_
        refine WL.op (d := 54) (.pointer (some ⟨b7, 0, none⟩)) (k := ?_)
        refine WL.callG (d := 55) (f := 59) (args := #[.pointer (some ⟨b7, 0, none⟩), .int .u64 2147483648]) (qNum_x 2147483648 hr176 l178 (by omega) (by omega)) (k := fun e_ w183 h_ => ?_)
        obtain ⟨n184, s185, q186, rfl, hr187, k188, l189, m190⟩ := h_
        refine ⟨_, rfl, ?_⟩
        replace hb4 := k188.heap hb4 n13
        replace hb181 := k188.heap hb181 (Ne.symm n30)
        replace K := K.trans' k188 (fun i hi e => absurd (e ▸ hi) (Nat.not_lt.2 z12))
        clear hr176
        refine WL.opE (d := 56) (.int .i64 (IntKind.i64.wrap (n184 : Int))) (v := .int .i64 (n184 : Int)) (congrArg (Value.int .i64) (IntWalk.i64_in _ (by omega))) (k := ?_)
        refine WL.op (d := 57) (.pointer (some ⟨b23, 8, none⟩)) (k := ?_)
        refine WL.store (v := .int .i64 (n184 : Int)) (i := 8) (cs' := #[.int .i64 (n16 : Int), .int .i64 0, .int .i64 0, .int .i64 0, .int .i64 0, .int .i64 0, .bool false, .int .i64 (n173 : Int), .int .i64 (n184 : Int), .int .i64 0]) hb181 (k := fun w191 hb192 k193 => ?_)
        replace hb4 := k193.heap hb4 n29
        replace hr187 := hr187.keeps k193 n30
        replace K := K.trans' k193 (fun i hi e => absurd (e ▸ hi) (Nat.not_lt.2 z28))
        clear hb181
        refine WL.nil ?_
        refine WX.blockN ?_
        refine WX.seqN ?_
        refine WC.seq ?_
        refine WC.region ?_
        refine WL.load (v := .agg #[.int .i64 (n16 : Int), .int .i64 0, .int .i64 0, .int .i64 0, .int .i64 0, .int .i64 0, .bool false, .int .i64 (n173 : Int), .int .i64 (n184 : Int), .int .i64 0]) (ldN (T := 29) (i := 0) (m := 10) (l := [.int .i64 (n16 : Int), .int .i64 0, .int .i64 0, .int .i64 0, .int .i64 0, .int .i64 0, .bool false, .int .i64 (n173 : Int), .int .i64 (n184 : Int), .int .i64 0]) hb192) (k := ?_)
        refine bsplit (decide (GOp.ok (⟨(n16 : Int), ⟨0, 0, 0, 0, 0⟩, false, (n173 : Int), (n184 : Int), 0⟩ : GOp))) (fun h194 => ?_) (fun h194 => ?_)
        · have ph194 := of_decide_eq_true h194
          refine WL.callG (d := 65) (f := 48) (args := #[.agg #[.int .i64 (n16 : Int), .int .i64 0, .int .i64 0, .int .i64 0, .int .i64 0, .int .i64 0, .bool false, .int .i64 (n173 : Int), .int .i64 (n184 : Int), .int .i64 0]]) (u13Bytes_ok (⟨(n16 : Int), ⟨0, 0, 0, 0, 0⟩, false, (n173 : Int), (n184 : Int), 0⟩ : GOp) ph194 w191) (k := fun e_ w195 h_ => ⟨.tuple #[.string ⟨(GOp.enc (⟨(n16 : Int), ⟨0, 0, 0, 0, 0⟩, false, (n173 : Int), (n184 : Int), 0⟩ : GOp)).toArray⟩, .int .i64 0], h_.1, ?_⟩)
          have k196 := h_.2; clear h_
          replace hb4 := k196.heap hb4 id
          replace hr187 := hr187.keeps k196 id
          replace hb192 := k196.heap hb192 id
          replace K := K.trans (k196.any _)
          refine WL.op (d := 63) (.tuple #[.string ⟨(GOp.enc (⟨(n16 : Int), ⟨0, 0, 0, 0, 0⟩, false, (n173 : Int), (n184 : Int), 0⟩ : GOp)).toArray⟩, .int .i64 0]) (k := ?_)
          refine WL.op (d := 66) (.string ⟨(GOp.enc (⟨(n16 : Int), ⟨0, 0, 0, 0, 0⟩, false, (n173 : Int), (n184 : Int), 0⟩ : GOp)).toArray⟩) (k := ?_)
          refine WL.op (d := 67) (.int .i64 0) (k := ?_)
          refine WL.op (d := 6) (.string ⟨(GOp.enc (⟨(n16 : Int), ⟨0, 0, 0, 0, 0⟩, false, (n173 : Int), (n184 : Int), 0⟩ : GOp)).toArray⟩) (k := ?_)
          refine WL.op (d := 7) (.int .i64 0) (k := ?_)
          refine WL.nil ?_
          refine WX.seqN ?_
          refine WC.seq ?_
          refine WC.seq ?_
          refine WC.region ?_
          refine WL.op (d := 68) (.pointer (some ⟨b7, 0, none⟩)) (k := ?_)
          refine WL.callG (d := 69) (f := 70) (args := #[.pointer (some ⟨b7, 0, none⟩)]) (qEnd_any _ _ w195 hr187) (k := fun e_ w_ h_ => ⟨.bool (decide (s185 = some [])), h_.1, ?_⟩)
          obtain ⟨-, rfl⟩ := h_
          refine WL.op (d := 70) (.bool (!(decide (s185 = some [])))) (k := ?_)
          refine WL.op (d := 71) (.bool (!(decide (s185 = some [])))) (k := ?_)
          refine bsplit (!(decide (s185 = some []))) (fun h197 => ?_) (fun h197 => ?_)
          · have h198 : (decide (s185 = some [])) = false := by simpa using h197
            have ph198 := of_decide_eq_false h198
            refine WL.rw (t := 71) (v := .bool true) (congrArg Value.bool h197) (k := ?_)
            refine WL.skip (d := 72) (k := ?_)
            refine WL.skip (d := 73) (k := ?_)
            refine WL.op (d := 74) (.bool true) (k := ?_)
            refine WL.op (d := 75) (.bool true) (k := ?_)
            refine WL.skip (d := 76) (k := ?_)
            refine WL.skip (d := 77) (k := ?_)
            refine WL.skip (d := 78) (k := ?_)
            refine WL.op (d := 79) (.bool true) (k := ?_)
            refine WL.nil ?_
            refine WX.seqN ?_
            refine WC.condT (k := ?_)
            refine WC.seq ?_
            refine WC.region ?_
            refine WL.op (d := 80) (.agg #[.int .i64 0, .int .i64 0, .int .i64 0, .int .i64 0, .int .i64 0, .int .i64 0, .bool false, .int .i64 0, .int .i64 0, .int .i64 0]) (k := ?_)
            refine WL.store (v := .agg #[.int .i64 0, .int .i64 0, .int .i64 0, .int .i64 0, .int .i64 0, .int .i64 0, .bool false, .int .i64 0, .int .i64 0, .int .i64 0]) (i := 0) (cs' := #[.int .i64 0, .int .i64 0, .int .i64 0, .int .i64 0, .int .i64 0, .int .i64 0, .bool false, .int .i64 0, .int .i64 0, .int .i64 0]) hb4 (k := fun w199 hb200 k201 => ?_)
            replace hr187 := hr187.keeps k201 (Ne.symm n13)
            replace hb192 := k201.heap hb192 (Ne.symm n29)
            replace K := K.trans' k201 (fun i hi e => absurd (e ▸ hi) (Nat.not_lt.2 z6))
            clear hb4
            refine WL.op (d := 3) (.int .i64 10) (k := ?_)
            refine WL.nil ?_
            refine WX.seqN ?_
            refine WC.ret ?_
            refine WX.seqR ?_
            refine WX.ret (rs := [.cell 2 29, .tmp 3]) [.agg #[.int .i64 0, .int .i64 0, .int .i64 0, .int .i64 0, .int .i64 0, .int .i64 0, .bool false, .int .i64 0, .int .i64 0, .int .i64 0], .int .i64 10] (.tuple #[.agg #[.int .i64 0, .int .i64 0, .int .i64 0, .int .i64 0, .int .i64 0, .int .i64 0, .bool false, .int .i64 0, .int .i64 0, .int .i64 0], .int .i64 10]) ⟨⟨_, (by kernel_rfl), ldN (T := 29) (i := 0) (m := 10) (l := [.int .i64 0, .int .i64 0, .int .i64 0, .int .i64 0, .int .i64 0, .int .i64 0, .bool false, .int .i64 0, .int .i64 0, .int .i64 0]) hb200⟩, (by kernel_rfl), trivial⟩ (k := ?_)
            exact ⟨op_res (r := none) (opOf_none (fun o' h1 h2 => ph198 ((rd_3 ph171 q18 q175 q186).2 o' h1 h2).1)).symm, K⟩
          · have h202 : (decide (s185 = some [])) = true := by simpa using h197
            have ph202 := of_decide_eq_true h202
            refine WL.rw (t := 71) (v := .bool false) (congrArg Value.bool h197) (k := ?_)
            refine WL.op (d := 72) (.int .i64 0) (k := ?_)
            refine WL.op (d := 73) (.bool false) (k := ?_)
            refine WL.op (d := 74) (.bool false) (k := ?_)
            refine WL.op (d := 75) (.bool false) (k := ?_)
            refine WL.op (d := 76) (.string ⟨(GOp.enc (⟨(n16 : Int), ⟨0, 0, 0, 0, 0⟩, false, (n173 : Int), (n184 : Int), 0⟩ : GOp)).toArray⟩) (k := ?_)
            refine WL.op (d := 77) (.string ⟨(l).toArray⟩) (k := ?_)
            refine WL.opE (d := 78) (.bool !(ByteArray.toList ⟨(GOp.enc (⟨(n16 : Int), ⟨0, 0, 0, 0, 0⟩, false, (n173 : Int), (n184 : Int), 0⟩ : GOp)).toArray⟩ == ByteArray.toList ⟨(l).toArray⟩)) (v := .bool (!(decide (GOp.enc (⟨(n16 : Int), ⟨0, 0, 0, 0, 0⟩, false, (n173 : Int), (n184 : Int), 0⟩ : GOp) = l)))) (str_neq _ _) (k := ?_)
            refine WL.op (d := 79) (.bool (!(decide (GOp.enc (⟨(n16 : Int), ⟨0, 0, 0, 0, 0⟩, false, (n173 : Int), (n184 : Int), 0⟩ : GOp) = l)))) (k := ?_)
            refine WL.nil ?_
            refine WX.seqN ?_
            refine WC.cond (b := !(decide (GOp.enc (⟨(n16 : Int), ⟨0, 0, 0, 0, 0⟩, false, (n173 : Int), (n184 : Int), 0⟩ : GOp) = l))) (ht := fun h203 => ?_) (hf := fun h203 => ?_)
            · have h204 : (decide (GOp.enc (⟨(n16 : Int), ⟨0, 0, 0, 0, 0⟩, false, (n173 : Int), (n184 : Int), 0⟩ : GOp) = l)) = false := by simpa using h203
              have ph204 := of_decide_eq_false h204
              refine WC.seq ?_
              refine WC.region ?_
              refine WL.op (d := 80) (.agg #[.int .i64 0, .int .i64 0, .int .i64 0, .int .i64 0, .int .i64 0, .int .i64 0, .bool false, .int .i64 0, .int .i64 0, .int .i64 0]) (k := ?_)
              refine WL.store (v := .agg #[.int .i64 0, .int .i64 0, .int .i64 0, .int .i64 0, .int .i64 0, .int .i64 0, .bool false, .int .i64 0, .int .i64 0, .int .i64 0]) (i := 0) (cs' := #[.int .i64 0, .int .i64 0, .int .i64 0, .int .i64 0, .int .i64 0, .int .i64 0, .bool false, .int .i64 0, .int .i64 0, .int .i64 0]) hb4 (k := fun w205 hb206 k207 => ?_)
              replace hr187 := hr187.keeps k207 (Ne.symm n13)
              replace hb192 := k207.heap hb192 (Ne.symm n29)
              replace K := K.trans' k207 (fun i hi e => absurd (e ▸ hi) (Nat.not_lt.2 z6))
              clear hb4
              refine WL.op (d := 3) (.int .i64 10) (k := ?_)
              refine WL.nil ?_
              refine WX.seqN ?_
              refine WC.ret ?_
              refine WX.seqR ?_
              refine WX.ret (rs := [.cell 2 29, .tmp 3]) [.agg #[.int .i64 0, .int .i64 0, .int .i64 0, .int .i64 0, .int .i64 0, .int .i64 0, .bool false, .int .i64 0, .int .i64 0, .int .i64 0], .int .i64 10] (.tuple #[.agg #[.int .i64 0, .int .i64 0, .int .i64 0, .int .i64 0, .int .i64 0, .int .i64 0, .bool false, .int .i64 0, .int .i64 0, .int .i64 0], .int .i64 10]) ⟨⟨_, (by kernel_rfl), ldN (T := 29) (i := 0) (m := 10) (l := [.int .i64 0, .int .i64 0, .int .i64 0, .int .i64 0, .int .i64 0, .int .i64 0, .bool false, .int .i64 0, .int .i64 0, .int .i64 0]) hb206⟩, (by kernel_rfl), trivial⟩ (k := ?_)
              exact absurd ((rd_3 ph171 q18 q175 q186).1 ph202) ph204
            · have h208 : (decide (GOp.enc (⟨(n16 : Int), ⟨0, 0, 0, 0, 0⟩, false, (n173 : Int), (n184 : Int), 0⟩ : GOp) = l)) = true := by simpa using h203
              have ph208 := of_decide_eq_true h208
              refine WC.skip ?_
              refine WX.seqN ?_
              refine WC.seq ?_
              refine WC.region ?_
              refine WL.load (v := .agg #[.int .i64 (n16 : Int), .int .i64 0, .int .i64 0, .int .i64 0, .int .i64 0, .int .i64 0, .bool false, .int .i64 (n173 : Int), .int .i64 (n184 : Int), .int .i64 0]) (ldN (T := 29) (i := 0) (m := 10) (l := [.int .i64 (n16 : Int), .int .i64 0, .int .i64 0, .int .i64 0, .int .i64 0, .int .i64 0, .bool false, .int .i64 (n173 : Int), .int .i64 (n184 : Int), .int .i64 0]) hb192) (k := ?_)
              refine WL.store (v := .agg #[.int .i64 (n16 : Int), .int .i64 0, .int .i64 0, .int .i64 0, .int .i64 0, .int .i64 0, .bool false, .int .i64 (n173 : Int), .int .i64 (n184 : Int), .int .i64 0]) (i := 0) (cs' := #[.int .i64 (n16 : Int), .int .i64 0, .int .i64 0, .int .i64 0, .int .i64 0, .int .i64 0, .bool false, .int .i64 (n173 : Int), .int .i64 (n184 : Int), .int .i64 0]) hb4 (k := fun w209 hb210 k211 => ?_)
              replace hr187 := hr187.keeps k211 (Ne.symm n13)
              replace hb192 := k211.heap hb192 (Ne.symm n29)
              replace K := K.trans' k211 (fun i hi e => absurd (e ▸ hi) (Nat.not_lt.2 z6))
              clear hb4
              refine WL.op (d := 3) (.int .i64 0) (k := ?_)
              refine WL.nil ?_
              refine WX.seqN ?_
              refine WC.ret ?_
              refine WX.ret (rs := [.cell 2 29, .tmp 3]) [.agg #[.int .i64 (n16 : Int), .int .i64 0, .int .i64 0, .int .i64 0, .int .i64 0, .int .i64 0, .bool false, .int .i64 (n173 : Int), .int .i64 (n184 : Int), .int .i64 0], .int .i64 0] (.tuple #[.agg #[.int .i64 (n16 : Int), .int .i64 0, .int .i64 0, .int .i64 0, .int .i64 0, .int .i64 0, .bool false, .int .i64 (n173 : Int), .int .i64 (n184 : Int), .int .i64 0], .int .i64 0]) ⟨⟨_, (by kernel_rfl), ldN (T := 29) (i := 0) (m := 10) (l := [.int .i64 (n16 : Int), .int .i64 0, .int .i64 0, .int .i64 0, .int .i64 0, .int .i64 0, .bool false, .int .i64 (n173 : Int), .int .i64 (n184 : Int), .int .i64 0]) hb210⟩, (by kernel_rfl), trivial⟩ (k := ?_)
              exact ⟨op_res (opOf_some ph194 ((rd_3 ph171 q18 q175 q186).1 ph202)).symm, K⟩
        · have ph194 := of_decide_eq_false h194
          refine WL.callG (d := 65) (f := 48) (args := #[.agg #[.int .i64 (n16 : Int), .int .i64 0, .int .i64 0, .int .i64 0, .int .i64 0, .int .i64 0, .bool false, .int .i64 (n173 : Int), .int .i64 (n184 : Int), .int .i64 0]]) (u13Bytes_no (⟨(n16 : Int), ⟨0, 0, 0, 0, 0⟩, false, (n173 : Int), (n184 : Int), 0⟩ : GOp) ph194 w191) (k := fun e_ w212 h_ => ⟨.tuple #[.string ⟨#[]⟩, .int .i64 1], h_.1, ?_⟩)
          have k213 := h_.2; clear h_
          replace hb4 := k213.heap hb4 id
          replace hr187 := hr187.keeps k213 id
          replace hb192 := k213.heap hb192 id
          replace K := K.trans (k213.any _)
          refine WL.op (d := 63) (.tuple #[.string ⟨#[]⟩, .int .i64 1]) (k := ?_)
          refine WL.op (d := 66) (.string ⟨#[]⟩) (k := ?_)
          refine WL.op (d := 67) (.int .i64 1) (k := ?_)
          refine WL.op (d := 6) (.string ⟨#[]⟩) (k := ?_)
          refine WL.op (d := 7) (.int .i64 1) (k := ?_)
          refine WL.nil ?_
          refine WX.seqN ?_
          refine WC.seq ?_
          refine WC.seq ?_
          refine WC.region ?_
          refine WL.op (d := 68) (.pointer (some ⟨b7, 0, none⟩)) (k := ?_)
          refine WL.callG (d := 69) (f := 70) (args := #[.pointer (some ⟨b7, 0, none⟩)]) (qEnd_any _ _ w212 hr187) (k := fun e_ w_ h_ => ⟨.bool (decide (s185 = some [])), h_.1, ?_⟩)
          obtain ⟨-, rfl⟩ := h_
          refine WL.op (d := 70) (.bool (!(decide (s185 = some [])))) (k := ?_)
          refine WL.op (d := 71) (.bool (!(decide (s185 = some [])))) (k := ?_)
          refine bsplit (!(decide (s185 = some []))) (fun h214 => ?_) (fun h214 => ?_)
          · have h215 : (decide (s185 = some [])) = false := by simpa using h214
            have ph215 := of_decide_eq_false h215
            refine WL.rw (t := 71) (v := .bool true) (congrArg Value.bool h214) (k := ?_)
            refine WL.skip (d := 72) (k := ?_)
            refine WL.skip (d := 73) (k := ?_)
            refine WL.op (d := 74) (.bool true) (k := ?_)
            refine WL.op (d := 75) (.bool true) (k := ?_)
            refine WL.skip (d := 76) (k := ?_)
            refine WL.skip (d := 77) (k := ?_)
            refine WL.skip (d := 78) (k := ?_)
            refine WL.op (d := 79) (.bool true) (k := ?_)
            refine WL.nil ?_
            refine WX.seqN ?_
            refine WC.condT (k := ?_)
            refine WC.seq ?_
            refine WC.region ?_
            refine WL.op (d := 80) (.agg #[.int .i64 0, .int .i64 0, .int .i64 0, .int .i64 0, .int .i64 0, .int .i64 0, .bool false, .int .i64 0, .int .i64 0, .int .i64 0]) (k := ?_)
            refine WL.store (v := .agg #[.int .i64 0, .int .i64 0, .int .i64 0, .int .i64 0, .int .i64 0, .int .i64 0, .bool false, .int .i64 0, .int .i64 0, .int .i64 0]) (i := 0) (cs' := #[.int .i64 0, .int .i64 0, .int .i64 0, .int .i64 0, .int .i64 0, .int .i64 0, .bool false, .int .i64 0, .int .i64 0, .int .i64 0]) hb4 (k := fun w216 hb217 k218 => ?_)
            replace hr187 := hr187.keeps k218 (Ne.symm n13)
            replace hb192 := k218.heap hb192 (Ne.symm n29)
            replace K := K.trans' k218 (fun i hi e => absurd (e ▸ hi) (Nat.not_lt.2 z6))
            clear hb4
            refine WL.op (d := 3) (.int .i64 10) (k := ?_)
            refine WL.nil ?_
            refine WX.seqN ?_
            refine WC.ret ?_
            refine WX.seqR ?_
            refine WX.ret (rs := [.cell 2 29, .tmp 3]) [.agg #[.int .i64 0, .int .i64 0, .int .i64 0, .int .i64 0, .int .i64 0, .int .i64 0, .bool false, .int .i64 0, .int .i64 0, .int .i64 0], .int .i64 10] (.tuple #[.agg #[.int .i64 0, .int .i64 0, .int .i64 0, .int .i64 0, .int .i64 0, .int .i64 0, .bool false, .int .i64 0, .int .i64 0, .int .i64 0], .int .i64 10]) ⟨⟨_, (by kernel_rfl), ldN (T := 29) (i := 0) (m := 10) (l := [.int .i64 0, .int .i64 0, .int .i64 0, .int .i64 0, .int .i64 0, .int .i64 0, .bool false, .int .i64 0, .int .i64 0, .int .i64 0]) hb217⟩, (by kernel_rfl), trivial⟩ (k := ?_)
            exact ⟨op_res (r := none) (opOf_none (fun o' h1 h2 => ph215 ((rd_3 ph171 q18 q175 q186).2 o' h1 h2).1)).symm, K⟩
          · have h219 : (decide (s185 = some [])) = true := by simpa using h214
            have ph219 := of_decide_eq_true h219
            refine WL.rw (t := 71) (v := .bool false) (congrArg Value.bool h214) (k := ?_)
            refine WL.op (d := 72) (.int .i64 1) (k := ?_)
            refine WL.op (d := 73) (.bool true) (k := ?_)
            refine WL.op (d := 74) (.bool true) (k := ?_)
            refine WL.op (d := 75) (.bool true) (k := ?_)
            refine WL.skip (d := 76) (k := ?_)
            refine WL.skip (d := 77) (k := ?_)
            refine WL.skip (d := 78) (k := ?_)
            refine WL.op (d := 79) (.bool true) (k := ?_)
            refine WL.nil ?_
            refine WX.seqN ?_
            refine WC.condT (k := ?_)
            refine WC.seq ?_
            refine WC.region ?_
            refine WL.op (d := 80) (.agg #[.int .i64 0, .int .i64 0, .int .i64 0, .int .i64 0, .int .i64 0, .int .i64 0, .bool false, .int .i64 0, .int .i64 0, .int .i64 0]) (k := ?_)
            refine WL.store (v := .agg #[.int .i64 0, .int .i64 0, .int .i64 0, .int .i64 0, .int .i64 0, .int .i64 0, .bool false, .int .i64 0, .int .i64 0, .int .i64 0]) (i := 0) (cs' := #[.int .i64 0, .int .i64 0, .int .i64 0, .int .i64 0, .int .i64 0, .int .i64 0, .bool false, .int .i64 0, .int .i64 0, .int .i64 0]) hb4 (k := fun w220 hb221 k222 => ?_)
            replace hr187 := hr187.keeps k222 (Ne.symm n13)
            replace hb192 := k222.heap hb192 (Ne.symm n29)
            replace K := K.trans' k222 (fun i hi e => absurd (e ▸ hi) (Nat.not_lt.2 z6))
            clear hb4
            refine WL.op (d := 3) (.int .i64 10) (k := ?_)
            refine WL.nil ?_
            refine WX.seqN ?_
            refine WC.ret ?_
            refine WX.seqR ?_
            refine WX.ret (rs := [.cell 2 29, .tmp 3]) [.agg #[.int .i64 0, .int .i64 0, .int .i64 0, .int .i64 0, .int .i64 0, .int .i64 0, .bool false, .int .i64 0, .int .i64 0, .int .i64 0], .int .i64 10] (.tuple #[.agg #[.int .i64 0, .int .i64 0, .int .i64 0, .int .i64 0, .int .i64 0, .int .i64 0, .bool false, .int .i64 0, .int .i64 0, .int .i64 0], .int .i64 10]) ⟨⟨_, (by kernel_rfl), ldN (T := 29) (i := 0) (m := 10) (l := [.int .i64 0, .int .i64 0, .int .i64 0, .int .i64 0, .int .i64 0, .int .i64 0, .bool false, .int .i64 0, .int .i64 0, .int .i64 0]) hb221⟩, (by kernel_rfl), trivial⟩ (k := ?_)
            exact ⟨op_res (r := none) (opOf_none (fun o' h1 h2 => ph194 (((rd_3 ph171 q18 q175 q186).2 o' h1 h2).2 ▸ h1))).symm, K⟩
      · have ph171 := ne_of_beq_false h171
        refine WC.seq ?_
        refine WC.region ?_
        refine WL.op (d := 59) (.bool ((n16 : Int) == 4)) (k := ?_)
        refine WL.op (d := 58) (.bool ((n16 : Int) == 4)) (k := ?_)
        refine WL.nil ?_
        refine WX.seqN ?_
        refine WC.cond (b := (n16 : Int) == 4) (ht := fun h223 => ?_) (hf := fun h223 => ?_)
        · have ph223 := eq_of_beq h223
          refine WC.region ?_
          refine WL.op (d := 60) (.pointer (some ⟨b7, 0, none⟩)) (k := ?_)
          refine WL.callG (d := 61) (f := 56) (args := #[.pointer (some ⟨b7, 0, none⟩), .int .i64 3]) (qInt_x 3 hr19 l21 (by omega) (by omega)) (k := fun e_ w224 h_ => ?_)
          obtain ⟨n225, s226, q227, rfl, hr228, k229, l230, m231⟩ := h_
          refine ⟨_, rfl, ?_⟩
          replace hb4 := k229.heap hb4 n13
          replace hb32 := k229.heap hb32 (Ne.symm n30)
          replace K := K.trans' k229 (fun i hi e => absurd (e ▸ hi) (Nat.not_lt.2 z12))
          clear hr19
          refine WL.op (d := 62) (.pointer (some ⟨b23, 9, none⟩)) (k := ?_)
          refine WL.store (v := .int .i64 (n225 : Int)) (i := 9) (cs' := #[.int .i64 (n16 : Int), .int .i64 0, .int .i64 0, .int .i64 0, .int .i64 0, .int .i64 0, .bool false, .int .i64 0, .int .i64 0, .int .i64 (n225 : Int)]) hb32 (k := fun w232 hb233 k234 => ?_)
          replace hb4 := k234.heap hb4 n29
          replace hr228 := hr228.keeps k234 n30
          replace K := K.trans' k234 (fun i hi e => absurd (e ▸ hi) (Nat.not_lt.2 z28))
          clear hb32
          refine WL.nil ?_
          refine WX.blockN ?_
          refine WX.seqN ?_
          refine WC.seq ?_
          refine WC.region ?_
          refine WL.load (v := .agg #[.int .i64 (n16 : Int), .int .i64 0, .int .i64 0, .int .i64 0, .int .i64 0, .int .i64 0, .bool false, .int .i64 0, .int .i64 0, .int .i64 (n225 : Int)]) (ldN (T := 29) (i := 0) (m := 10) (l := [.int .i64 (n16 : Int), .int .i64 0, .int .i64 0, .int .i64 0, .int .i64 0, .int .i64 0, .bool false, .int .i64 0, .int .i64 0, .int .i64 (n225 : Int)]) hb233) (k := ?_)
          refine bsplit (decide (GOp.ok (⟨(n16 : Int), ⟨0, 0, 0, 0, 0⟩, false, 0, 0, (n225 : Int)⟩ : GOp))) (fun h235 => ?_) (fun h235 => ?_)
          · have ph235 := of_decide_eq_true h235
            refine WL.callG (d := 65) (f := 48) (args := #[.agg #[.int .i64 (n16 : Int), .int .i64 0, .int .i64 0, .int .i64 0, .int .i64 0, .int .i64 0, .bool false, .int .i64 0, .int .i64 0, .int .i64 (n225 : Int)]]) (u13Bytes_ok (⟨(n16 : Int), ⟨0, 0, 0, 0, 0⟩, false, 0, 0, (n225 : Int)⟩ : GOp) ph235 w232) (k := fun e_ w236 h_ => ⟨.tuple #[.string ⟨(GOp.enc (⟨(n16 : Int), ⟨0, 0, 0, 0, 0⟩, false, 0, 0, (n225 : Int)⟩ : GOp)).toArray⟩, .int .i64 0], h_.1, ?_⟩)
            have k237 := h_.2; clear h_
            replace hb4 := k237.heap hb4 id
            replace hr228 := hr228.keeps k237 id
            replace hb233 := k237.heap hb233 id
            replace K := K.trans (k237.any _)
            refine WL.op (d := 63) (.tuple #[.string ⟨(GOp.enc (⟨(n16 : Int), ⟨0, 0, 0, 0, 0⟩, false, 0, 0, (n225 : Int)⟩ : GOp)).toArray⟩, .int .i64 0]) (k := ?_)
            refine WL.op (d := 66) (.string ⟨(GOp.enc (⟨(n16 : Int), ⟨0, 0, 0, 0, 0⟩, false, 0, 0, (n225 : Int)⟩ : GOp)).toArray⟩) (k := ?_)
            refine WL.op (d := 67) (.int .i64 0) (k := ?_)
            refine WL.op (d := 6) (.string ⟨(GOp.enc (⟨(n16 : Int), ⟨0, 0, 0, 0, 0⟩, false, 0, 0, (n225 : Int)⟩ : GOp)).toArray⟩) (k := ?_)
            refine WL.op (d := 7) (.int .i64 0) (k := ?_)
            refine WL.nil ?_
            refine WX.seqN ?_
            refine WC.seq ?_
            refine WC.seq ?_
            refine WC.region ?_
            refine WL.op (d := 68) (.pointer (some ⟨b7, 0, none⟩)) (k := ?_)
            refine WL.callG (d := 69) (f := 70) (args := #[.pointer (some ⟨b7, 0, none⟩)]) (qEnd_any _ _ w236 hr228) (k := fun e_ w_ h_ => ⟨.bool (decide (s226 = some [])), h_.1, ?_⟩)
            obtain ⟨-, rfl⟩ := h_
            refine WL.op (d := 70) (.bool (!(decide (s226 = some [])))) (k := ?_)
            refine WL.op (d := 71) (.bool (!(decide (s226 = some [])))) (k := ?_)
            refine bsplit (!(decide (s226 = some []))) (fun h238 => ?_) (fun h238 => ?_)
            · have h239 : (decide (s226 = some [])) = false := by simpa using h238
              have ph239 := of_decide_eq_false h239
              refine WL.rw (t := 71) (v := .bool true) (congrArg Value.bool h238) (k := ?_)
              refine WL.skip (d := 72) (k := ?_)
              refine WL.skip (d := 73) (k := ?_)
              refine WL.op (d := 74) (.bool true) (k := ?_)
              refine WL.op (d := 75) (.bool true) (k := ?_)
              refine WL.skip (d := 76) (k := ?_)
              refine WL.skip (d := 77) (k := ?_)
              refine WL.skip (d := 78) (k := ?_)
              refine WL.op (d := 79) (.bool true) (k := ?_)
              refine WL.nil ?_
              refine WX.seqN ?_
              refine WC.condT (k := ?_)
              refine WC.seq ?_
              refine WC.region ?_
              refine WL.op (d := 80) (.agg #[.int .i64 0, .int .i64 0, .int .i64 0, .int .i64 0, .int .i64 0, .int .i64 0, .bool false, .int .i64 0, .int .i64 0, .int .i64 0]) (k := ?_)
              refine WL.store (v := .agg #[.int .i64 0, .int .i64 0, .int .i64 0, .int .i64 0, .int .i64 0, .int .i64 0, .bool false, .int .i64 0, .int .i64 0, .int .i64 0]) (i := 0) (cs' := #[.int .i64 0, .int .i64 0, .int .i64 0, .int .i64 0, .int .i64 0, .int .i64 0, .bool false, .int .i64 0, .int .i64 0, .int .i64 0]) hb4 (k := fun w240 hb241 k242 => ?_)
              replace hr228 := hr228.keeps k242 (Ne.symm n13)
              replace hb233 := k242.heap hb233 (Ne.symm n29)
              replace K := K.trans' k242 (fun i hi e => absurd (e ▸ hi) (Nat.not_lt.2 z6))
              clear hb4
              refine WL.op (d := 3) (.int .i64 10) (k := ?_)
              refine WL.nil ?_
              refine WX.seqN ?_
              refine WC.ret ?_
              refine WX.seqR ?_
              refine WX.ret (rs := [.cell 2 29, .tmp 3]) [.agg #[.int .i64 0, .int .i64 0, .int .i64 0, .int .i64 0, .int .i64 0, .int .i64 0, .bool false, .int .i64 0, .int .i64 0, .int .i64 0], .int .i64 10] (.tuple #[.agg #[.int .i64 0, .int .i64 0, .int .i64 0, .int .i64 0, .int .i64 0, .int .i64 0, .bool false, .int .i64 0, .int .i64 0, .int .i64 0], .int .i64 10]) ⟨⟨_, (by kernel_rfl), ldN (T := 29) (i := 0) (m := 10) (l := [.int .i64 0, .int .i64 0, .int .i64 0, .int .i64 0, .int .i64 0, .int .i64 0, .bool false, .int .i64 0, .int .i64 0, .int .i64 0]) hb241⟩, (by kernel_rfl), trivial⟩ (k := ?_)
              exact ⟨op_res (r := none) (opOf_none (fun o' h1 h2 => ph239 ((rd_4 ph223 q18 q227).2 o' h1 h2).1)).symm, K⟩
            · have h243 : (decide (s226 = some [])) = true := by simpa using h238
              have ph243 := of_decide_eq_true h243
              refine WL.rw (t := 71) (v := .bool false) (congrArg Value.bool h238) (k := ?_)
              refine WL.op (d := 72) (.int .i64 0) (k := ?_)
              refine WL.op (d := 73) (.bool false) (k := ?_)
              refine WL.op (d := 74) (.bool false) (k := ?_)
              refine WL.op (d := 75) (.bool false) (k := ?_)
              refine WL.op (d := 76) (.string ⟨(GOp.enc (⟨(n16 : Int), ⟨0, 0, 0, 0, 0⟩, false, 0, 0, (n225 : Int)⟩ : GOp)).toArray⟩) (k := ?_)
              refine WL.op (d := 77) (.string ⟨(l).toArray⟩) (k := ?_)
              refine WL.opE (d := 78) (.bool !(ByteArray.toList ⟨(GOp.enc (⟨(n16 : Int), ⟨0, 0, 0, 0, 0⟩, false, 0, 0, (n225 : Int)⟩ : GOp)).toArray⟩ == ByteArray.toList ⟨(l).toArray⟩)) (v := .bool (!(decide (GOp.enc (⟨(n16 : Int), ⟨0, 0, 0, 0, 0⟩, false, 0, 0, (n225 : Int)⟩ : GOp) = l)))) (str_neq _ _) (k := ?_)
              refine WL.op (d := 79) (.bool (!(decide (GOp.enc (⟨(n16 : Int), ⟨0, 0, 0, 0, 0⟩, false, 0, 0, (n225 : Int)⟩ : GOp) = l)))) (k := ?_)
              refine WL.nil ?_
              refine WX.seqN ?_
              refine WC.cond (b := !(decide (GOp.enc (⟨(n16 : Int), ⟨0, 0, 0, 0, 0⟩, false, 0, 0, (n225 : Int)⟩ : GOp) = l))) (ht := fun h244 => ?_) (hf := fun h244 => ?_)
              · have h245 : (decide (GOp.enc (⟨(n16 : Int), ⟨0, 0, 0, 0, 0⟩, false, 0, 0, (n225 : Int)⟩ : GOp) = l)) = false := by simpa using h244
                have ph245 := of_decide_eq_false h245
                refine WC.seq ?_
                refine WC.region ?_
                refine WL.op (d := 80) (.agg #[.int .i64 0, .int .i64 0, .int .i64 0, .int .i64 0, .int .i64 0, .int .i64 0, .bool false, .int .i64 0, .int .i64 0, .int .i64 0]) (k := ?_)
                refine WL.store (v := .agg #[.int .i64 0, .int .i64 0, .int .i64 0, .int .i64 0, .int .i64 0, .int .i64 0, .bool false, .int .i64 0, .int .i64 0, .int .i64 0]) (i := 0) (cs' := #[.int .i64 0, .int .i64 0, .int .i64 0, .int .i64 0, .int .i64 0, .int .i64 0, .bool false, .int .i64 0, .int .i64 0, .int .i64 0]) hb4 (k := fun w246 hb247 k248 => ?_)
                replace hr228 := hr228.keeps k248 (Ne.symm n13)
                replace hb233 := k248.heap hb233 (Ne.symm n29)
                replace K := K.trans' k248 (fun i hi e => absurd (e ▸ hi) (Nat.not_lt.2 z6))
                clear hb4
                refine WL.op (d := 3) (.int .i64 10) (k := ?_)
                refine WL.nil ?_
                refine WX.seqN ?_
                refine WC.ret ?_
                refine WX.seqR ?_
                refine WX.ret (rs := [.cell 2 29, .tmp 3]) [.agg #[.int .i64 0, .int .i64 0, .int .i64 0, .int .i64 0, .int .i64 0, .int .i64 0, .bool false, .int .i64 0, .int .i64 0, .int .i64 0], .int .i64 10] (.tuple #[.agg #[.int .i64 0, .int .i64 0, .int .i64 0, .int .i64 0, .int .i64 0, .int .i64 0, .bool false, .int .i64 0, .int .i64 0, .int .i64 0], .int .i64 10]) ⟨⟨_, (by kernel_rfl), ldN (T := 29) (i := 0) (m := 10) (l := [.int .i64 0, .int .i64 0, .int .i64 0, .int .i64 0, .int .i64 0, .int .i64 0, .bool false, .int .i64 0, .int .i64 0, .int .i64 0]) hb247⟩, (by kernel_rfl), trivial⟩ (k := ?_)
                exact absurd ((rd_4 ph223 q18 q227).1 ph243) ph245
              · have h249 : (decide (GOp.enc (⟨(n16 : Int), ⟨0, 0, 0, 0, 0⟩, false, 0, 0, (n225 : Int)⟩ : GOp) = l)) = true := by simpa using h244
                have ph249 := of_decide_eq_true h249
                refine WC.skip ?_
                refine WX.seqN ?_
                refine WC.seq ?_
                refine WC.region ?_
                refine WL.load (v := .agg #[.int .i64 (n16 : Int), .int .i64 0, .int .i64 0, .int .i64 0, .int .i64 0, .int .i64 0, .bool false, .int .i64 0, .int .i64 0, .int .i64 (n225 : Int)]) (ldN (T := 29) (i := 0) (m := 10) (l := [.int .i64 (n16 : Int), .int .i64 0, .int .i64 0, .int .i64 0, .int .i64 0, .int .i64 0, .bool false, .int .i64 0, .int .i64 0, .int .i64 (n225 : Int)]) hb233) (k := ?_)
                refine WL.store (v := .agg #[.int .i64 (n16 : Int), .int .i64 0, .int .i64 0, .int .i64 0, .int .i64 0, .int .i64 0, .bool false, .int .i64 0, .int .i64 0, .int .i64 (n225 : Int)]) (i := 0) (cs' := #[.int .i64 (n16 : Int), .int .i64 0, .int .i64 0, .int .i64 0, .int .i64 0, .int .i64 0, .bool false, .int .i64 0, .int .i64 0, .int .i64 (n225 : Int)]) hb4 (k := fun w250 hb251 k252 => ?_)
                replace hr228 := hr228.keeps k252 (Ne.symm n13)
                replace hb233 := k252.heap hb233 (Ne.symm n29)
                replace K := K.trans' k252 (fun i hi e => absurd (e ▸ hi) (Nat.not_lt.2 z6))
                clear hb4
                refine WL.op (d := 3) (.int .i64 0) (k := ?_)
                refine WL.nil ?_
                refine WX.seqN ?_
                refine WC.ret ?_
                refine WX.ret (rs := [.cell 2 29, .tmp 3]) [.agg #[.int .i64 (n16 : Int), .int .i64 0, .int .i64 0, .int .i64 0, .int .i64 0, .int .i64 0, .bool false, .int .i64 0, .int .i64 0, .int .i64 (n225 : Int)], .int .i64 0] (.tuple #[.agg #[.int .i64 (n16 : Int), .int .i64 0, .int .i64 0, .int .i64 0, .int .i64 0, .int .i64 0, .bool false, .int .i64 0, .int .i64 0, .int .i64 (n225 : Int)], .int .i64 0]) ⟨⟨_, (by kernel_rfl), ldN (T := 29) (i := 0) (m := 10) (l := [.int .i64 (n16 : Int), .int .i64 0, .int .i64 0, .int .i64 0, .int .i64 0, .int .i64 0, .bool false, .int .i64 0, .int .i64 0, .int .i64 (n225 : Int)]) hb251⟩, (by kernel_rfl), trivial⟩ (k := ?_)
                exact ⟨op_res (opOf_some ph235 ((rd_4 ph223 q18 q227).1 ph243)).symm, K⟩
          · have ph235 := of_decide_eq_false h235
            refine WL.callG (d := 65) (f := 48) (args := #[.agg #[.int .i64 (n16 : Int), .int .i64 0, .int .i64 0, .int .i64 0, .int .i64 0, .int .i64 0, .bool false, .int .i64 0, .int .i64 0, .int .i64 (n225 : Int)]]) (u13Bytes_no (⟨(n16 : Int), ⟨0, 0, 0, 0, 0⟩, false, 0, 0, (n225 : Int)⟩ : GOp) ph235 w232) (k := fun e_ w253 h_ => ⟨.tuple #[.string ⟨#[]⟩, .int .i64 1], h_.1, ?_⟩)
            have k254 := h_.2; clear h_
            replace hb4 := k254.heap hb4 id
            replace hr228 := hr228.keeps k254 id
            replace hb233 := k254.heap hb233 id
            replace K := K.trans (k254.any _)
            refine WL.op (d := 63) (.tuple #[.string ⟨#[]⟩, .int .i64 1]) (k := ?_)
            refine WL.op (d := 66) (.string ⟨#[]⟩) (k := ?_)
            refine WL.op (d := 67) (.int .i64 1) (k := ?_)
            refine WL.op (d := 6) (.string ⟨#[]⟩) (k := ?_)
            refine WL.op (d := 7) (.int .i64 1) (k := ?_)
            refine WL.nil ?_
            refine WX.seqN ?_
            refine WC.seq ?_
            refine WC.seq ?_
            refine WC.region ?_
            refine WL.op (d := 68) (.pointer (some ⟨b7, 0, none⟩)) (k := ?_)
            refine WL.callG (d := 69) (f := 70) (args := #[.pointer (some ⟨b7, 0, none⟩)]) (qEnd_any _ _ w253 hr228) (k := fun e_ w_ h_ => ⟨.bool (decide (s226 = some [])), h_.1, ?_⟩)
            obtain ⟨-, rfl⟩ := h_
            refine WL.op (d := 70) (.bool (!(decide (s226 = some [])))) (k := ?_)
            refine WL.op (d := 71) (.bool (!(decide (s226 = some [])))) (k := ?_)
            refine bsplit (!(decide (s226 = some []))) (fun h255 => ?_) (fun h255 => ?_)
            · have h256 : (decide (s226 = some [])) = false := by simpa using h255
              have ph256 := of_decide_eq_false h256
              refine WL.rw (t := 71) (v := .bool true) (congrArg Value.bool h255) (k := ?_)
              refine WL.skip (d := 72) (k := ?_)
              refine WL.skip (d := 73) (k := ?_)
              refine WL.op (d := 74) (.bool true) (k := ?_)
              refine WL.op (d := 75) (.bool true) (k := ?_)
              refine WL.skip (d := 76) (k := ?_)
              refine WL.skip (d := 77) (k := ?_)
              refine WL.skip (d := 78) (k := ?_)
              refine WL.op (d := 79) (.bool true) (k := ?_)
              refine WL.nil ?_
              refine WX.seqN ?_
              refine WC.condT (k := ?_)
              refine WC.seq ?_
              refine WC.region ?_
              refine WL.op (d := 80) (.agg #[.int .i64 0, .int .i64 0, .int .i64 0, .int .i64 0, .int .i64 0, .int .i64 0, .bool false, .int .i64 0, .int .i64 0, .int .i64 0]) (k := ?_)
              refine WL.store (v := .agg #[.int .i64 0, .int .i64 0, .int .i64 0, .int .i64 0, .int .i64 0, .int .i64 0, .bool false, .int .i64 0, .int .i64 0, .int .i64 0]) (i := 0) (cs' := #[.int .i64 0, .int .i64 0, .int .i64 0, .int .i64 0, .int .i64 0, .int .i64 0, .bool false, .int .i64 0, .int .i64 0, .int .i64 0]) hb4 (k := fun w257 hb258 k259 => ?_)
              replace hr228 := hr228.keeps k259 (Ne.symm n13)
              replace hb233 := k259.heap hb233 (Ne.symm n29)
              replace K := K.trans' k259 (fun i hi e => absurd (e ▸ hi) (Nat.not_lt.2 z6))
              clear hb4
              refine WL.op (d := 3) (.int .i64 10) (k := ?_)
              refine WL.nil ?_
              refine WX.seqN ?_
              refine WC.ret ?_
              refine WX.seqR ?_
              refine WX.ret (rs := [.cell 2 29, .tmp 3]) [.agg #[.int .i64 0, .int .i64 0, .int .i64 0, .int .i64 0, .int .i64 0, .int .i64 0, .bool false, .int .i64 0, .int .i64 0, .int .i64 0], .int .i64 10] (.tuple #[.agg #[.int .i64 0, .int .i64 0, .int .i64 0, .int .i64 0, .int .i64 0, .int .i64 0, .bool false, .int .i64 0, .int .i64 0, .int .i64 0], .int .i64 10]) ⟨⟨_, (by kernel_rfl), ldN (T := 29) (i := 0) (m := 10) (l := [.int .i64 0, .int .i64 0, .int .i64 0, .int .i64 0, .int .i64 0, .int .i64 0, .bool false, .int .i64 0, .int .i64 0, .int .i64 0]) hb258⟩, (by kernel_rfl), trivial⟩ (k := ?_)
              exact ⟨op_res (r := none) (opOf_none (fun o' h1 h2 => ph256 ((rd_4 ph223 q18 q227).2 o' h1 h2).1)).symm, K⟩
            · have h260 : (decide (s226 = some [])) = true := by simpa using h255
              have ph260 := of_decide_eq_true h260
              refine WL.rw (t := 71) (v := .bool false) (congrArg Value.bool h255) (k := ?_)
              refine WL.op (d := 72) (.int .i64 1) (k := ?_)
              refine WL.op (d := 73) (.bool true) (k := ?_)
              refine WL.op (d := 74) (.bool true) (k := ?_)
              refine WL.op (d := 75) (.bool true) (k := ?_)
              refine WL.skip (d := 76) (k := ?_)
              refine WL.skip (d := 77) (k := ?_)
              refine WL.skip (d := 78) (k := ?_)
              refine WL.op (d := 79) (.bool true) (k := ?_)
              refine WL.nil ?_
              refine WX.seqN ?_
              refine WC.condT (k := ?_)
              refine WC.seq ?_
              refine WC.region ?_
              refine WL.op (d := 80) (.agg #[.int .i64 0, .int .i64 0, .int .i64 0, .int .i64 0, .int .i64 0, .int .i64 0, .bool false, .int .i64 0, .int .i64 0, .int .i64 0]) (k := ?_)
              refine WL.store (v := .agg #[.int .i64 0, .int .i64 0, .int .i64 0, .int .i64 0, .int .i64 0, .int .i64 0, .bool false, .int .i64 0, .int .i64 0, .int .i64 0]) (i := 0) (cs' := #[.int .i64 0, .int .i64 0, .int .i64 0, .int .i64 0, .int .i64 0, .int .i64 0, .bool false, .int .i64 0, .int .i64 0, .int .i64 0]) hb4 (k := fun w261 hb262 k263 => ?_)
              replace hr228 := hr228.keeps k263 (Ne.symm n13)
              replace hb233 := k263.heap hb233 (Ne.symm n29)
              replace K := K.trans' k263 (fun i hi e => absurd (e ▸ hi) (Nat.not_lt.2 z6))
              clear hb4
              refine WL.op (d := 3) (.int .i64 10) (k := ?_)
              refine WL.nil ?_
              refine WX.seqN ?_
              refine WC.ret ?_
              refine WX.seqR ?_
              refine WX.ret (rs := [.cell 2 29, .tmp 3]) [.agg #[.int .i64 0, .int .i64 0, .int .i64 0, .int .i64 0, .int .i64 0, .int .i64 0, .bool false, .int .i64 0, .int .i64 0, .int .i64 0], .int .i64 10] (.tuple #[.agg #[.int .i64 0, .int .i64 0, .int .i64 0, .int .i64 0, .int .i64 0, .int .i64 0, .bool false, .int .i64 0, .int .i64 0, .int .i64 0], .int .i64 10]) ⟨⟨_, (by kernel_rfl), ldN (T := 29) (i := 0) (m := 10) (l := [.int .i64 0, .int .i64 0, .int .i64 0, .int .i64 0, .int .i64 0, .int .i64 0, .bool false, .int .i64 0, .int .i64 0, .int .i64 0]) hb262⟩, (by kernel_rfl), trivial⟩ (k := ?_)
              exact ⟨op_res (r := none) (opOf_none (fun o' h1 h2 => ph235 (((rd_4 ph223 q18 q227).2 o' h1 h2).2 ▸ h1))).symm, K⟩
        · have ph223 := ne_of_beq_false h223
          refine WC.skip ?_
          refine WX.blockN ?_
          refine WX.seqN ?_
          refine WC.seq ?_
          refine WC.region ?_
          refine WL.load (v := .agg #[.int .i64 (n16 : Int), .int .i64 0, .int .i64 0, .int .i64 0, .int .i64 0, .int .i64 0, .bool false, .int .i64 0, .int .i64 0, .int .i64 0]) (ldN (T := 29) (i := 0) (m := 10) (l := [.int .i64 (n16 : Int), .int .i64 0, .int .i64 0, .int .i64 0, .int .i64 0, .int .i64 0, .bool false, .int .i64 0, .int .i64 0, .int .i64 0]) hb32) (k := ?_)
          refine bsplit (decide (GOp.ok (⟨(n16 : Int), ⟨0, 0, 0, 0, 0⟩, false, 0, 0, 0⟩ : GOp))) (fun h264 => ?_) (fun h264 => ?_)
          · have ph264 := of_decide_eq_true h264
            refine WL.callG (d := 65) (f := 48) (args := #[.agg #[.int .i64 (n16 : Int), .int .i64 0, .int .i64 0, .int .i64 0, .int .i64 0, .int .i64 0, .bool false, .int .i64 0, .int .i64 0, .int .i64 0]]) (u13Bytes_ok (⟨(n16 : Int), ⟨0, 0, 0, 0, 0⟩, false, 0, 0, 0⟩ : GOp) ph264 w31) (k := fun e_ w265 h_ => ⟨.tuple #[.string ⟨(GOp.enc (⟨(n16 : Int), ⟨0, 0, 0, 0, 0⟩, false, 0, 0, 0⟩ : GOp)).toArray⟩, .int .i64 0], h_.1, ?_⟩)
            have k266 := h_.2; clear h_
            replace hb4 := k266.heap hb4 id
            replace hr19 := hr19.keeps k266 id
            replace hb32 := k266.heap hb32 id
            replace K := K.trans (k266.any _)
            refine WL.op (d := 63) (.tuple #[.string ⟨(GOp.enc (⟨(n16 : Int), ⟨0, 0, 0, 0, 0⟩, false, 0, 0, 0⟩ : GOp)).toArray⟩, .int .i64 0]) (k := ?_)
            refine WL.op (d := 66) (.string ⟨(GOp.enc (⟨(n16 : Int), ⟨0, 0, 0, 0, 0⟩, false, 0, 0, 0⟩ : GOp)).toArray⟩) (k := ?_)
            refine WL.op (d := 67) (.int .i64 0) (k := ?_)
            refine WL.op (d := 6) (.string ⟨(GOp.enc (⟨(n16 : Int), ⟨0, 0, 0, 0, 0⟩, false, 0, 0, 0⟩ : GOp)).toArray⟩) (k := ?_)
            refine WL.op (d := 7) (.int .i64 0) (k := ?_)
            refine WL.nil ?_
            refine WX.seqN ?_
            refine WC.seq ?_
            refine WC.seq ?_
            refine WC.region ?_
            refine WL.op (d := 68) (.pointer (some ⟨b7, 0, none⟩)) (k := ?_)
            refine WL.callG (d := 69) (f := 70) (args := #[.pointer (some ⟨b7, 0, none⟩)]) (qEnd_any _ _ w265 hr19) (k := fun e_ w_ h_ => ⟨.bool (decide (s17 = some [])), h_.1, ?_⟩)
            obtain ⟨-, rfl⟩ := h_
            refine WL.op (d := 70) (.bool (!(decide (s17 = some [])))) (k := ?_)
            refine WL.op (d := 71) (.bool (!(decide (s17 = some [])))) (k := ?_)
            refine bsplit (!(decide (s17 = some []))) (fun h267 => ?_) (fun h267 => ?_)
            · have h268 : (decide (s17 = some [])) = false := by simpa using h267
              have ph268 := of_decide_eq_false h268
              refine WL.rw (t := 71) (v := .bool true) (congrArg Value.bool h267) (k := ?_)
              refine WL.skip (d := 72) (k := ?_)
              refine WL.skip (d := 73) (k := ?_)
              refine WL.op (d := 74) (.bool true) (k := ?_)
              refine WL.op (d := 75) (.bool true) (k := ?_)
              refine WL.skip (d := 76) (k := ?_)
              refine WL.skip (d := 77) (k := ?_)
              refine WL.skip (d := 78) (k := ?_)
              refine WL.op (d := 79) (.bool true) (k := ?_)
              refine WL.nil ?_
              refine WX.seqN ?_
              refine WC.condT (k := ?_)
              refine WC.seq ?_
              refine WC.region ?_
              refine WL.op (d := 80) (.agg #[.int .i64 0, .int .i64 0, .int .i64 0, .int .i64 0, .int .i64 0, .int .i64 0, .bool false, .int .i64 0, .int .i64 0, .int .i64 0]) (k := ?_)
              refine WL.store (v := .agg #[.int .i64 0, .int .i64 0, .int .i64 0, .int .i64 0, .int .i64 0, .int .i64 0, .bool false, .int .i64 0, .int .i64 0, .int .i64 0]) (i := 0) (cs' := #[.int .i64 0, .int .i64 0, .int .i64 0, .int .i64 0, .int .i64 0, .int .i64 0, .bool false, .int .i64 0, .int .i64 0, .int .i64 0]) hb4 (k := fun w269 hb270 k271 => ?_)
              replace hr19 := hr19.keeps k271 (Ne.symm n13)
              replace hb32 := k271.heap hb32 (Ne.symm n29)
              replace K := K.trans' k271 (fun i hi e => absurd (e ▸ hi) (Nat.not_lt.2 z6))
              clear hb4
              refine WL.op (d := 3) (.int .i64 10) (k := ?_)
              refine WL.nil ?_
              refine WX.seqN ?_
              refine WC.ret ?_
              refine WX.seqR ?_
              refine WX.ret (rs := [.cell 2 29, .tmp 3]) [.agg #[.int .i64 0, .int .i64 0, .int .i64 0, .int .i64 0, .int .i64 0, .int .i64 0, .bool false, .int .i64 0, .int .i64 0, .int .i64 0], .int .i64 10] (.tuple #[.agg #[.int .i64 0, .int .i64 0, .int .i64 0, .int .i64 0, .int .i64 0, .int .i64 0, .bool false, .int .i64 0, .int .i64 0, .int .i64 0], .int .i64 10]) ⟨⟨_, (by kernel_rfl), ldN (T := 29) (i := 0) (m := 10) (l := [.int .i64 0, .int .i64 0, .int .i64 0, .int .i64 0, .int .i64 0, .int .i64 0, .bool false, .int .i64 0, .int .i64 0, .int .i64 0]) hb270⟩, (by kernel_rfl), trivial⟩ (k := ?_)
              exact absurd ph264 (fun h => by
                have B := h.b
                have := B.kl; have := B.kh
                simp only at *; omega)
            · have h272 : (decide (s17 = some [])) = true := by simpa using h267
              have ph272 := of_decide_eq_true h272
              refine WL.rw (t := 71) (v := .bool false) (congrArg Value.bool h267) (k := ?_)
              refine WL.op (d := 72) (.int .i64 0) (k := ?_)
              refine WL.op (d := 73) (.bool false) (k := ?_)
              refine WL.op (d := 74) (.bool false) (k := ?_)
              refine WL.op (d := 75) (.bool false) (k := ?_)
              refine WL.op (d := 76) (.string ⟨(GOp.enc (⟨(n16 : Int), ⟨0, 0, 0, 0, 0⟩, false, 0, 0, 0⟩ : GOp)).toArray⟩) (k := ?_)
              refine WL.op (d := 77) (.string ⟨(l).toArray⟩) (k := ?_)
              refine WL.opE (d := 78) (.bool !(ByteArray.toList ⟨(GOp.enc (⟨(n16 : Int), ⟨0, 0, 0, 0, 0⟩, false, 0, 0, 0⟩ : GOp)).toArray⟩ == ByteArray.toList ⟨(l).toArray⟩)) (v := .bool (!(decide (GOp.enc (⟨(n16 : Int), ⟨0, 0, 0, 0, 0⟩, false, 0, 0, 0⟩ : GOp) = l)))) (str_neq _ _) (k := ?_)
              refine WL.op (d := 79) (.bool (!(decide (GOp.enc (⟨(n16 : Int), ⟨0, 0, 0, 0, 0⟩, false, 0, 0, 0⟩ : GOp) = l)))) (k := ?_)
              refine WL.nil ?_
              refine WX.seqN ?_
              refine WC.cond (b := !(decide (GOp.enc (⟨(n16 : Int), ⟨0, 0, 0, 0, 0⟩, false, 0, 0, 0⟩ : GOp) = l))) (ht := fun h273 => ?_) (hf := fun h273 => ?_)
              · have h274 : (decide (GOp.enc (⟨(n16 : Int), ⟨0, 0, 0, 0, 0⟩, false, 0, 0, 0⟩ : GOp) = l)) = false := by simpa using h273
                have ph274 := of_decide_eq_false h274
                refine WC.seq ?_
                refine WC.region ?_
                refine WL.op (d := 80) (.agg #[.int .i64 0, .int .i64 0, .int .i64 0, .int .i64 0, .int .i64 0, .int .i64 0, .bool false, .int .i64 0, .int .i64 0, .int .i64 0]) (k := ?_)
                refine WL.store (v := .agg #[.int .i64 0, .int .i64 0, .int .i64 0, .int .i64 0, .int .i64 0, .int .i64 0, .bool false, .int .i64 0, .int .i64 0, .int .i64 0]) (i := 0) (cs' := #[.int .i64 0, .int .i64 0, .int .i64 0, .int .i64 0, .int .i64 0, .int .i64 0, .bool false, .int .i64 0, .int .i64 0, .int .i64 0]) hb4 (k := fun w275 hb276 k277 => ?_)
                replace hr19 := hr19.keeps k277 (Ne.symm n13)
                replace hb32 := k277.heap hb32 (Ne.symm n29)
                replace K := K.trans' k277 (fun i hi e => absurd (e ▸ hi) (Nat.not_lt.2 z6))
                clear hb4
                refine WL.op (d := 3) (.int .i64 10) (k := ?_)
                refine WL.nil ?_
                refine WX.seqN ?_
                refine WC.ret ?_
                refine WX.seqR ?_
                refine WX.ret (rs := [.cell 2 29, .tmp 3]) [.agg #[.int .i64 0, .int .i64 0, .int .i64 0, .int .i64 0, .int .i64 0, .int .i64 0, .bool false, .int .i64 0, .int .i64 0, .int .i64 0], .int .i64 10] (.tuple #[.agg #[.int .i64 0, .int .i64 0, .int .i64 0, .int .i64 0, .int .i64 0, .int .i64 0, .bool false, .int .i64 0, .int .i64 0, .int .i64 0], .int .i64 10]) ⟨⟨_, (by kernel_rfl), ldN (T := 29) (i := 0) (m := 10) (l := [.int .i64 0, .int .i64 0, .int .i64 0, .int .i64 0, .int .i64 0, .int .i64 0, .bool false, .int .i64 0, .int .i64 0, .int .i64 0]) hb276⟩, (by kernel_rfl), trivial⟩ (k := ?_)
                exact absurd ph264 (fun h => by
                  have B := h.b
                  have := B.kl; have := B.kh
                  simp only at *; omega)
              · have h278 : (decide (GOp.enc (⟨(n16 : Int), ⟨0, 0, 0, 0, 0⟩, false, 0, 0, 0⟩ : GOp) = l)) = true := by simpa using h273
                have ph278 := of_decide_eq_true h278
                refine WC.skip ?_
                refine WX.seqN ?_
                refine WC.seq ?_
                refine WC.region ?_
                refine WL.load (v := .agg #[.int .i64 (n16 : Int), .int .i64 0, .int .i64 0, .int .i64 0, .int .i64 0, .int .i64 0, .bool false, .int .i64 0, .int .i64 0, .int .i64 0]) (ldN (T := 29) (i := 0) (m := 10) (l := [.int .i64 (n16 : Int), .int .i64 0, .int .i64 0, .int .i64 0, .int .i64 0, .int .i64 0, .bool false, .int .i64 0, .int .i64 0, .int .i64 0]) hb32) (k := ?_)
                refine WL.store (v := .agg #[.int .i64 (n16 : Int), .int .i64 0, .int .i64 0, .int .i64 0, .int .i64 0, .int .i64 0, .bool false, .int .i64 0, .int .i64 0, .int .i64 0]) (i := 0) (cs' := #[.int .i64 (n16 : Int), .int .i64 0, .int .i64 0, .int .i64 0, .int .i64 0, .int .i64 0, .bool false, .int .i64 0, .int .i64 0, .int .i64 0]) hb4 (k := fun w279 hb280 k281 => ?_)
                replace hr19 := hr19.keeps k281 (Ne.symm n13)
                replace hb32 := k281.heap hb32 (Ne.symm n29)
                replace K := K.trans' k281 (fun i hi e => absurd (e ▸ hi) (Nat.not_lt.2 z6))
                clear hb4
                refine WL.op (d := 3) (.int .i64 0) (k := ?_)
                refine WL.nil ?_
                refine WX.seqN ?_
                refine WC.ret ?_
                refine WX.ret (rs := [.cell 2 29, .tmp 3]) [.agg #[.int .i64 (n16 : Int), .int .i64 0, .int .i64 0, .int .i64 0, .int .i64 0, .int .i64 0, .bool false, .int .i64 0, .int .i64 0, .int .i64 0], .int .i64 0] (.tuple #[.agg #[.int .i64 (n16 : Int), .int .i64 0, .int .i64 0, .int .i64 0, .int .i64 0, .int .i64 0, .bool false, .int .i64 0, .int .i64 0, .int .i64 0], .int .i64 0]) ⟨⟨_, (by kernel_rfl), ldN (T := 29) (i := 0) (m := 10) (l := [.int .i64 (n16 : Int), .int .i64 0, .int .i64 0, .int .i64 0, .int .i64 0, .int .i64 0, .bool false, .int .i64 0, .int .i64 0, .int .i64 0]) hb280⟩, (by kernel_rfl), trivial⟩ (k := ?_)
                exact absurd ph264 (fun h => by
                  have B := h.b
                  have := B.kl; have := B.kh
                  simp only at *; omega)
          · have ph264 := of_decide_eq_false h264
            refine WL.callG (d := 65) (f := 48) (args := #[.agg #[.int .i64 (n16 : Int), .int .i64 0, .int .i64 0, .int .i64 0, .int .i64 0, .int .i64 0, .bool false, .int .i64 0, .int .i64 0, .int .i64 0]]) (u13Bytes_no (⟨(n16 : Int), ⟨0, 0, 0, 0, 0⟩, false, 0, 0, 0⟩ : GOp) ph264 w31) (k := fun e_ w282 h_ => ⟨.tuple #[.string ⟨#[]⟩, .int .i64 1], h_.1, ?_⟩)
            have k283 := h_.2; clear h_
            replace hb4 := k283.heap hb4 id
            replace hr19 := hr19.keeps k283 id
            replace hb32 := k283.heap hb32 id
            replace K := K.trans (k283.any _)
            refine WL.op (d := 63) (.tuple #[.string ⟨#[]⟩, .int .i64 1]) (k := ?_)
            refine WL.op (d := 66) (.string ⟨#[]⟩) (k := ?_)
            refine WL.op (d := 67) (.int .i64 1) (k := ?_)
            refine WL.op (d := 6) (.string ⟨#[]⟩) (k := ?_)
            refine WL.op (d := 7) (.int .i64 1) (k := ?_)
            refine WL.nil ?_
            refine WX.seqN ?_
            refine WC.seq ?_
            refine WC.seq ?_
            refine WC.region ?_
            refine WL.op (d := 68) (.pointer (some ⟨b7, 0, none⟩)) (k := ?_)
            refine WL.callG (d := 69) (f := 70) (args := #[.pointer (some ⟨b7, 0, none⟩)]) (qEnd_any _ _ w282 hr19) (k := fun e_ w_ h_ => ⟨.bool (decide (s17 = some [])), h_.1, ?_⟩)
            obtain ⟨-, rfl⟩ := h_
            refine WL.op (d := 70) (.bool (!(decide (s17 = some [])))) (k := ?_)
            refine WL.op (d := 71) (.bool (!(decide (s17 = some [])))) (k := ?_)
            refine bsplit (!(decide (s17 = some []))) (fun h284 => ?_) (fun h284 => ?_)
            · have h285 : (decide (s17 = some [])) = false := by simpa using h284
              have ph285 := of_decide_eq_false h285
              refine WL.rw (t := 71) (v := .bool true) (congrArg Value.bool h284) (k := ?_)
              refine WL.skip (d := 72) (k := ?_)
              refine WL.skip (d := 73) (k := ?_)
              refine WL.op (d := 74) (.bool true) (k := ?_)
              refine WL.op (d := 75) (.bool true) (k := ?_)
              refine WL.skip (d := 76) (k := ?_)
              refine WL.skip (d := 77) (k := ?_)
              refine WL.skip (d := 78) (k := ?_)
              refine WL.op (d := 79) (.bool true) (k := ?_)
              refine WL.nil ?_
              refine WX.seqN ?_
              refine WC.condT (k := ?_)
              refine WC.seq ?_
              refine WC.region ?_
              refine WL.op (d := 80) (.agg #[.int .i64 0, .int .i64 0, .int .i64 0, .int .i64 0, .int .i64 0, .int .i64 0, .bool false, .int .i64 0, .int .i64 0, .int .i64 0]) (k := ?_)
              refine WL.store (v := .agg #[.int .i64 0, .int .i64 0, .int .i64 0, .int .i64 0, .int .i64 0, .int .i64 0, .bool false, .int .i64 0, .int .i64 0, .int .i64 0]) (i := 0) (cs' := #[.int .i64 0, .int .i64 0, .int .i64 0, .int .i64 0, .int .i64 0, .int .i64 0, .bool false, .int .i64 0, .int .i64 0, .int .i64 0]) hb4 (k := fun w286 hb287 k288 => ?_)
              replace hr19 := hr19.keeps k288 (Ne.symm n13)
              replace hb32 := k288.heap hb32 (Ne.symm n29)
              replace K := K.trans' k288 (fun i hi e => absurd (e ▸ hi) (Nat.not_lt.2 z6))
              clear hb4
              refine WL.op (d := 3) (.int .i64 10) (k := ?_)
              refine WL.nil ?_
              refine WX.seqN ?_
              refine WC.ret ?_
              refine WX.seqR ?_
              refine WX.ret (rs := [.cell 2 29, .tmp 3]) [.agg #[.int .i64 0, .int .i64 0, .int .i64 0, .int .i64 0, .int .i64 0, .int .i64 0, .bool false, .int .i64 0, .int .i64 0, .int .i64 0], .int .i64 10] (.tuple #[.agg #[.int .i64 0, .int .i64 0, .int .i64 0, .int .i64 0, .int .i64 0, .int .i64 0, .bool false, .int .i64 0, .int .i64 0, .int .i64 0], .int .i64 10]) ⟨⟨_, (by kernel_rfl), ldN (T := 29) (i := 0) (m := 10) (l := [.int .i64 0, .int .i64 0, .int .i64 0, .int .i64 0, .int .i64 0, .int .i64 0, .bool false, .int .i64 0, .int .i64 0, .int .i64 0]) hb287⟩, (by kernel_rfl), trivial⟩ (k := ?_)
              exact ⟨op_res (r := none) (opOf_none (rd_5 ph34 ph130 ph171 ph223 q18)).symm, K⟩
            · have h289 : (decide (s17 = some [])) = true := by simpa using h284
              have ph289 := of_decide_eq_true h289
              refine WL.rw (t := 71) (v := .bool false) (congrArg Value.bool h284) (k := ?_)
              refine WL.op (d := 72) (.int .i64 1) (k := ?_)
              refine WL.op (d := 73) (.bool true) (k := ?_)
              refine WL.op (d := 74) (.bool true) (k := ?_)
              refine WL.op (d := 75) (.bool true) (k := ?_)
              refine WL.skip (d := 76) (k := ?_)
              refine WL.skip (d := 77) (k := ?_)
              refine WL.skip (d := 78) (k := ?_)
              refine WL.op (d := 79) (.bool true) (k := ?_)
              refine WL.nil ?_
              refine WX.seqN ?_
              refine WC.condT (k := ?_)
              refine WC.seq ?_
              refine WC.region ?_
              refine WL.op (d := 80) (.agg #[.int .i64 0, .int .i64 0, .int .i64 0, .int .i64 0, .int .i64 0, .int .i64 0, .bool false, .int .i64 0, .int .i64 0, .int .i64 0]) (k := ?_)
              refine WL.store (v := .agg #[.int .i64 0, .int .i64 0, .int .i64 0, .int .i64 0, .int .i64 0, .int .i64 0, .bool false, .int .i64 0, .int .i64 0, .int .i64 0]) (i := 0) (cs' := #[.int .i64 0, .int .i64 0, .int .i64 0, .int .i64 0, .int .i64 0, .int .i64 0, .bool false, .int .i64 0, .int .i64 0, .int .i64 0]) hb4 (k := fun w290 hb291 k292 => ?_)
              replace hr19 := hr19.keeps k292 (Ne.symm n13)
              replace hb32 := k292.heap hb32 (Ne.symm n29)
              replace K := K.trans' k292 (fun i hi e => absurd (e ▸ hi) (Nat.not_lt.2 z6))
              clear hb4
              refine WL.op (d := 3) (.int .i64 10) (k := ?_)
              refine WL.nil ?_
              refine WX.seqN ?_
              refine WC.ret ?_
              refine WX.seqR ?_
              refine WX.ret (rs := [.cell 2 29, .tmp 3]) [.agg #[.int .i64 0, .int .i64 0, .int .i64 0, .int .i64 0, .int .i64 0, .int .i64 0, .bool false, .int .i64 0, .int .i64 0, .int .i64 0], .int .i64 10] (.tuple #[.agg #[.int .i64 0, .int .i64 0, .int .i64 0, .int .i64 0, .int .i64 0, .int .i64 0, .bool false, .int .i64 0, .int .i64 0, .int .i64 0], .int .i64 10]) ⟨⟨_, (by kernel_rfl), ldN (T := 29) (i := 0) (m := 10) (l := [.int .i64 0, .int .i64 0, .int .i64 0, .int .i64 0, .int .i64 0, .int .i64 0, .bool false, .int .i64 0, .int .i64 0, .int .i64 0]) hb291⟩, (by kernel_rfl), trivial⟩ (k := ?_)
              exact ⟨op_res (r := none) (opOf_none (rd_5 ph34 ph130 ph171 ph223 q18)).symm, K⟩

theorem pRead_v (l : List UInt8) (hl : l.length ≤ 1000000) (w : World) : Calls Try.prog 52 #[.string ⟨l.toArray⟩] w fun e w' => e = .returned (.tuple #[(opVal (opOf l)).val, .int .i64 (opErr (opOf l))]) ∧ Adds w w' := by
  rw [← opRes_eq]; exact pRead_c l hl w
theorem pRead_enc {o : GOp} (ho : o.ok) (w : World) : Calls Try.prog 52 #[.string ⟨o.enc.toArray⟩] w fun e w' => e = .returned (.tuple #[o.val, .int .i64 0]) ∧ Adds w w' := by
  have h := pRead_c o.enc (by have := enc_len43 ho; omega) w
  rw [opOf_some ho rfl] at h; exact h
theorem pRead_more {o : GOp} (ho : o.ok) (c : UInt8) (w : World) : Calls Try.prog 52 #[.string ⟨(o.enc ++ [c]).toArray⟩] w fun e w' => e = .returned (.tuple #[GOp.zero.val, .int .i64 10]) ∧ Adds w w' := by
  have h := pRead_c (o.enc ++ [c]) (by have := enc_len43 ho; simp; omega) w
  rw [opOf_more ho] at h; exact h
theorem u13Read_v (l : List UInt8) (hl : l.length ≤ 1000000) (w : World) : Calls Try.prog 57 #[.string ⟨l.toArray⟩] w fun e w' => e = .returned (.tuple #[(opVal (opOf l)).val, .int .i64 (opErr (opOf l))]) ∧ Adds w w' := by
  rw [← opRes_eq]; exact u13Read_c l hl w
theorem u13Read_enc {o : GOp} (ho : o.ok) (w : World) : Calls Try.prog 57 #[.string ⟨o.enc.toArray⟩] w fun e w' => e = .returned (.tuple #[o.val, .int .i64 0]) ∧ Adds w w' := by
  have h := u13Read_c o.enc (by have := enc_len43 ho; omega) w
  rw [opOf_some ho rfl] at h; exact h
theorem u13Read_more {o : GOp} (ho : o.ok) (c : UInt8) (w : World) : Calls Try.prog 57 #[.string ⟨(o.enc ++ [c]).toArray⟩] w fun e w' => e = .returned (.tuple #[GOp.zero.val, .int .i64 10]) ∧ Adds w w' := by
  have h := u13Read_c (o.enc ++ [c]) (by have := enc_len43 ho; simp; omega) w
  rw [opOf_more ho] at h; exact h

end Go.Proofs.Ytfpdfjbooalgjaa
