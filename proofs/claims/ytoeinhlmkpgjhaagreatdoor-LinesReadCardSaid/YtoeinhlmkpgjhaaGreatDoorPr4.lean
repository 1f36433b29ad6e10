/- Ln12, Ln13, Sc1, Ln14, Ln15, Ln16, Ln17, Ln18, Ln20, Ln21, Sc2b, Ln22, Lq0, Lq1, Lq2: one behind the other. -/
import Derived.Test.YtoeinhlmkpgjhaaGreatDoorPr3
namespace Go.Proofs.YtoeinhlmkpgjhaaGreatDoor
open Go.RowKit
set_option linter.unusedVariables false
set_option linter.unusedSimpArgs false
set_option maxRecDepth 100000 in
set_option maxHeartbeats 4000000 in
theorem lnRfates_c {b : Nat} {xs : Words} {w : World} (hr : RdW b xs w) : Calls Tryz.prog 47 #[.pointer (some ⟨b, 0, none⟩)] w (FatR b w (fatF xs)) := by
  have K : Keeps (fun i => i = b) w w := Keeps.refl _ w
  have lt0_ := hr.lt
  have xl_ := hr.len
  refine Calls.start Tryz.func47 rfl (by kernel_rfl) ?_
  refine WC.seq ?_
  refine WC.region ?_
  refine WL.op (d := 2) (.slice none 0 0) (k := ?_)
  refine WL.nil ?_
  refine WX.seqN ?_
  refine WC.scope ?_
  refine WC.seq ?_
  refine WC.region ?_
  refine WL.op (d := 3) (.slice none 0 0) (k := ?_)
  refine WL.nil ?_
  refine WX.seqN ?_
  refine WC.seq ?_
  refine WC.label ?_
  refine WX.seqN ?_
  refine WC.seq ?_
  refine WC.block ?_
  refine WC.loop (ι := Words × (List GFate) × (Option Addr) × Nat) (fun (⟨t, out, Ao, co⟩ : Words × (List GFate) × (Option Addr) × Nat) => [(0, .pointer (some ⟨b, 0, none⟩)), (2, .slice none 0 0), (3, .slice Ao out.length co)]) (fun (⟨t, out, Ao, co⟩ : Words × (List GFate) × (Option Addr) × Nat) (w_ : World) => (Keeps (fun i => i = b) w w_) ∧ (RdW b t w_) ∧ (OwAt fateC 2 72 Ao co out w_) ∧ (∀ i, blk Ao = some i → w.heap.size ≤ i) ∧ (fatI xs t out) ∧ (out.length + t.length ≤ xs.length)) (fun (⟨t, out, Ao, co⟩ : Words × (List GFate) × (Option Addr) × Nat) => List.length t) (xs, [], none, 0) ⟨(by kernel_rfl), (by kernel_rfl), (by kernel_rfl), trivial⟩ ⟨K, hr, OwAt.nil, (by simp [blk]), (fatI_zero xs), (by simp)⟩ ?_
  rintro ⟨t, out, Ao, co⟩ w1 ⟨K, hb2, hb3, ol4, hi, hl⟩
  refine WC.block ?_
  refine WC.seq ?_
  refine WC.seq ?_
  obtain ⟨A5, c6, hb7, hs8, hl9, hc10, hm11, hz12, hx13⟩ := id hb2
  refine WC.region ?_
  refine WL.op (d := 5) (.pointer (some ⟨b, 0, none⟩)) (k := ?_)
  refine WL.op (d := 6) (.pointer (some ⟨b, 0, none⟩)) (k := ?_)
  refine WL.op (d := 7) (.pointer (some ⟨b, 0, none⟩)) (k := ?_)
  refine WL.load (v := .slice A5 t.length c6) (ld1 (T := 43) (i := 0) hb7) (k := ?_)
  refine WL.op (d := 9) (.int .i64 (t.length : Int)) (k := ?_)
  refine WL.op (d := 10) (.bool ((t.length : Int) == 0)) (k := ?_)
  refine WL.nil ?_
  refine WX.seqN ?_
  refine WC.cond (b := (t.length : Int) == 0) (ht := fun h14 => ?_) (hf := fun h14 => ?_)
  · have ph14 := eq_of_beq h14
    refine WC.exit ?_
    refine WX.seqE ?_
    refine WX.blockO (by kernel_rfl) ?_
    refine WX.seqE ?_
    refine WX.blockE ?_
    refine WX.seqN ?_
    refine WC.seq ?_
    refine WC.region ?_
    refine WL.op (d := 30) (.slice Ao out.length co) (k := ?_)
    refine WL.op (d := 2) (.slice Ao out.length co) (k := ?_)
    refine WL.nil ?_
    refine WX.seqN ?_
    refine WC.ret ?_
    refine WX.scopeR ?_
    refine WX.ret (rs := [.tmp 2]) [.slice Ao out.length co] (.slice Ao out.length co) ⟨(by kernel_rfl), trivial⟩ (k := ?_)
    have t_ : t = [] := List.eq_nil_of_length_eq_zero (by omega)
    subst t_
    have f_ := fatI_end hi
    rw [f_]
    exact ⟨K, _, _, rfl, hb3, ol4, hb2⟩
  · have ph14 := ne_of_beq_false h14
    refine WC.skip ?_
    refine WX.seqN ?_
    refine WC.seq ?_
    refine WC.region ?_
    refine WL.op (d := 11) (.agg #[.int .i64 0, .int .i64 0]) (k := ?_)
    refine WL.new (d := 4) (T := 72) #[.int .i64 0, .int .i64 0] (k := fun b15 w16 g17 hb18 k19 => ?_)
    have z20 := Nat.le_trans K.size g17
    have n21 : b < b15 := Nat.lt_of_lt_of_le hb2.lt g17
    have n22 : b ≠ b15 := Nat.ne_of_lt (Nat.lt_of_lt_of_le hb2.lt g17)
    have n23 := OwAt.off_new hb3 g17
    replace hb2 := hb2.adds k19
    replace hb3 := hb3.adds k19
    replace K := K.trans (k19.any _)
    refine WL.store (v := .agg #[.int .i64 0, .int .i64 0]) (i := 0) (cs' := #[.int .i64 0, .int .i64 0]) hb18 (k := fun w24 hb25 k26 => ?_)
    replace hb2 := hb2.keeps k26 (fun i e => e ▸ n21)
    replace hb3 := hb3.keeps k26 (fun i hi e => (n23) (e ▸ hi))
    replace K := K.trans' k26 (fun i hi e => absurd (e ▸ hi) (Nat.not_lt.2 z20))
    clear hb18
    refine WL.nil ?_
    refine WX.seqN ?_
    refine WC.seq ?_
    refine WC.seq ?_
    refine WC.region ?_
    refine WL.op (d := 12) (.pointer (some ⟨b, 0, none⟩)) (k := ?_)
    refine bsplit (Option.isSome (nextF t)) (fun h27 => ?_) (fun h27 => ?_)
    · obtain ⟨⟨v30, t31⟩, hq28⟩ := isSome_ex h27
      have nl33 := nextF_le hb2 hq28
      have nl34 := nextF_len hq28
      refine WL.callG (d := 13) (f := 44) (args := #[.pointer (some ⟨b, 0, none⟩)]) (RdR.y (lnNext_c hb2) (by rw [hq28]; rfl)) (k := fun e_ w35 h_ => ?_)
      obtain ⟨rfl, hr32, k29⟩ := h_
      refine ⟨_, rfl, ?_⟩
      replace hb3 := hb3.keeps k29 (fun i hi e => (hb2.offO hb3 (by decide)) (e ▸ hi))
      replace hb25 := k29.heap hb25 (Ne.symm n22)
      replace K := K.trans' k29 (fun i hi e => e)
      clear hb2
      refine WL.nil ?_
      refine WX.seqN ?_
      refine WC.block ?_
      refine WC.seq ?_
      refine WC.region ?_
      refine WL.opE (d := 17) (.bool (ByteArray.toList ⟨(v30).toArray⟩ == ByteArray.toList ⟨([108, 111, 115, 116]).toArray⟩)) (v := .bool (decide (v30 = [108, 111, 115, 116]))) (str_eql _ _) (k := ?_)
      refine WL.op (d := 16) (.bool (decide (v30 = [108, 111, 115, 116]))) (k := ?_)
      refine WL.nil ?_
      refine WX.seqN ?_
      refine WC.cond (b := decide (v30 = [108, 111, 115, 116])) (ht := fun h36 => ?_) (hf := fun h36 => ?_)
      · have ph36 := of_decide_eq_true h36
        refine WC.skip ?_
        refine WX.blockN ?_
        refine WX.seqN ?_
        refine WC.region ?_
        refine WL.op (d := 26) (.slice Ao out.length co) (k := ?_)
        refine WL.load (v := .agg #[.int .i64 0, .int .i64 0]) (ldN (T := 72) (i := 0) (m := 2) (l := [.int .i64 0, .int .i64 0]) hb25) (k := ?_)
        refine WL.newF (d := 28) (T := 72) #[.int .i64 0, .int .i64 0] (fun b => .slice (some ⟨b, 0, none⟩) 1 1) (k := fun b37 w38 g39 hb40 k41 => ?_)
        have z42 := Nat.le_trans K.size g39
        have n43 : b < b37 := Nat.lt_of_lt_of_le hr32.lt g39
        have n44 : b ≠ b37 := Nat.ne_of_lt (Nat.lt_of_lt_of_le hr32.lt g39)
        have n45 := OwAt.off_new hb3 g39
        have n46 : b15 ≠ b37 := Nat.ne_of_lt (Nat.lt_of_lt_of_le (lt_of_heap hb25) g39)
        replace hr32 := hr32.adds k41
        replace hb3 := hb3.adds k41
        replace hb25 := k41.heap hb25 id
        replace K := K.trans (k41.any _)
        refine WL.append (d := 29) (T := 37) (cl := fateC) (xs := out) (ys := [(⟨0, 0⟩ : GFate)]) (c := 1) ekFate hb3 (SlAt.of_lit (ys := [(⟨0, 0⟩ : GFate)]) ekFate hb40 (by kernel_rfl)) (by first | omega | (simp; omega)) (k := fun A47 c48 w49 ho50 k51 n52 => ?_)
        have ol53 := olink_step ol4 K n52
        have n54 := off_step n52 n23 (lt_of_heap hb25)
        replace hr32 := hr32.keeps k51 (fun i hi => Nat.lt_of_lt_of_le lt0_ (ol4 i hi))
        replace hb25 := k51.heap hb25 n23
        replace K := K.trans' k51 (fun i hi e => absurd hi (Nat.not_lt.2 (ol4 i e)))
        clear hb3
        refine WL.op (d := 3) (.slice A47 ((out ++ [(⟨0, 0⟩ : GFate)]).length) c48) (k := ?_)
        refine WL.nil ?_
        refine WX.blockN ?_
        refine WX.round (t31, out ++ [(⟨0, 0⟩ : GFate)], A47, c48) (by show List.length t31 < List.length t; omega) ⟨(by kernel_rfl), (by kernel_rfl), (by kernel_rfl), trivial⟩ ⟨K, hr32, ho50, ol53, (fatI_succ hi hq28 (by simp [fatS, kLost, kKept, kTorn, hq28, ph36])), (by simp; omega)⟩
      · have ph36 := of_decide_eq_false h36
        refine WC.seq ?_
        refine WC.region ?_
        refine WL.opE (d := 19) (.bool (ByteArray.toList ⟨(v30).toArray⟩ == ByteArray.toList ⟨([107, 101, 112, 116]).toArray⟩)) (v := .bool (decide (v30 = [107, 101, 112, 116]))) (str_eql _ _) (k := ?_)
        refine WL.op (d := 18) (.bool (decide (v30 = [107, 101, 112, 116]))) (k := ?_)
        refine WL.nil ?_
        refine WX.seqN ?_
        refine WC.cond (b := decide (v30 = [107, 101, 112, 116])) (ht := fun h55 => ?_) (hf := fun h55 => ?_)
        · have ph55 := of_decide_eq_true h55
          refine WC.region ?_
          refine WL.op (d := 20) (.pointer (some ⟨b15, 0, none⟩)) (k := ?_)
          refine WL.store (v := .int .i64 1) (i := 0) (cs' := #[.int .i64 1, .int .i64 0]) hb25 (k := fun w56 hb57 k58 => ?_)
          replace hr32 := hr32.keeps k58 (fun i e => e ▸ n21)
          replace hb3 := hb3.keeps k58 (fun i hi e => (n23) (e ▸ hi))
          replace K := K.trans' k58 (fun i hi e => absurd (e ▸ hi) (Nat.not_lt.2 z20))
          clear hb25
          refine WL.nil ?_
          refine WX.blockN ?_
          refine WX.seqN ?_
          refine WC.region ?_
          refine WL.op (d := 26) (.slice Ao out.length co) (k := ?_)
          refine WL.load (v := .agg #[.int .i64 1, .int .i64 0]) (ldN (T := 72) (i := 0) (m := 2) (l := [.int .i64 1, .int .i64 0]) hb57) (k := ?_)
          refine WL.newF (d := 28) (T := 72) #[.int .i64 1, .int .i64 0] (fun b => .slice (some ⟨b, 0, none⟩) 1 1) (k := fun b59 w60 g61 hb62 k63 => ?_)
          have z64 := Nat.le_trans K.size g61
          have n65 : b < b59 := Nat.lt_of_lt_of_le hr32.lt g61
          have n66 : b ≠ b59 := Nat.ne_of_lt (Nat.lt_of_lt_of_le hr32.lt g61)
          have n67 := OwAt.off_new hb3 g61
          have n68 : b15 ≠ b59 := Nat.ne_of_lt (Nat.lt_of_lt_of_le (lt_of_heap hb57) g61)
          replace hr32 := hr32.adds k63
          replace hb3 := hb3.adds k63
          replace hb57 := k63.heap hb57 id
          replace K := K.trans (k63.any _)
          refine WL.append (d := 29) (T := 37) (cl := fateC) (xs := out) (ys := [(⟨1, 0⟩ : GFate)]) (c := 1) ekFate hb3 (SlAt.of_lit (ys := [(⟨1, 0⟩ : GFate)]) ekFate hb62 (by kernel_rfl)) (by first | omega | (simp; omega)) (k := fun A69 c70 w71 ho72 k73 n74 => ?_)
          have ol75 := olink_step ol4 K n74
          have n76 := off_step n74 n23 (lt_of_heap hb57)
          replace hr32 := hr32.keeps k73 (fun i hi => Nat.lt_of_lt_of_le lt0_ (ol4 i hi))
          replace hb57 := k73.heap hb57 n23
          replace K := K.trans' k73 (fun i hi e => absurd hi (Nat.not_lt.2 (ol4 i e)))
          clear hb3
          refine WL.op (d := 3) (.slice A69 ((out ++ [(⟨1, 0⟩ : GFate)]).length) c70) (k := ?_)
          refine WL.nil ?_
          refine WX.blockN ?_
          refine WX.round (t31, out ++ [(⟨1, 0⟩ : GFate)], A69, c70) (by show List.length t31 < List.length t; omega) ⟨(by kernel_rfl), (by kernel_rfl), (by kernel_rfl), trivial⟩ ⟨K, hr32, ho72, ol75, (fatI_succ hi hq28 (by simp [fatS, kLost, kKept, kTorn, hq28, ph36, ph55])), (by simp; omega)⟩
        · have ph55 := of_decide_eq_false h55
          refine WC.seq ?_
          refine WC.region ?_
          refine WL.opE (d := 22) (.bool (ByteArray.toList ⟨(v30).toArray⟩ == ByteArray.toList ⟨([116, 111, 114, 110]).toArray⟩)) (v := .bool (decide (v30 = [116, 111, 114, 110]))) (str_eql _ _) (k := ?_)
          refine WL.op (d := 21) (.bool (decide (v30 = [116, 111, 114, 110]))) (k := ?_)
          refine WL.nil ?_
          refine WX.seqN ?_
          refine WC.cond (b := decide (v30 = [116, 111, 114, 110])) (ht := fun h77 => ?_) (hf := fun h77 => ?_)
          · have ph77 := of_decide_eq_true h77
            refine WC.region ?_
            refine WL.op (d := 23) (.pointer (some ⟨b, 0, none⟩)) (k := ?_)
            refine bsplit (Option.isSome (numF t31)) (fun h78 => ?_) (fun h78 => ?_)
            · obtain ⟨⟨v81, t82⟩, hq79⟩ := isSome_ex h78
              have nl84 := numF_le hq79
              have nl85 := numF_len hq79
              refine WL.callG (d := 24) (f := 46) (args := #[.pointer (some ⟨b, 0, none⟩)]) (RdR.y (lnRint_c hr32) (by rw [hq79]; rfl)) (k := fun e_ w86 h_ => ?_)
              obtain ⟨rfl, hr83, k80⟩ := h_
              refine ⟨_, rfl, ?_⟩
              replace hb3 := hb3.keeps k80 (fun i hi e => (hr32.offO hb3 (by decide)) (e ▸ hi))
              replace hb25 := k80.heap hb25 (Ne.symm n22)
              replace K := K.trans' k80 (fun i hi e => e)
              clear hr32
              refine WL.op (d := 25) (.agg #[.int .i64 2, .int .i64 (v81 : Int)]) (k := ?_)
              refine WL.store (v := .agg #[.int .i64 2, .int .i64 (v81 : Int)]) (i := 0) (cs' := #[.int .i64 2, .int .i64 (v81 : Int)]) hb25 (k := fun w87 hb88 k89 => ?_)
              replace hr83 := hr83.keeps k89 (fun i e => e ▸ n21)
              replace hb3 := hb3.keeps k89 (fun i hi e => (n23) (e ▸ hi))
              replace K := K.trans' k89 (fun i hi e => absurd (e ▸ hi) (Nat.not_lt.2 z20))
              clear hb25
              refine WL.nil ?_
              refine WX.blockN ?_
              refine WX.seqN ?_
              refine WC.region ?_
              refine WL.op (d := 26) (.slice Ao out.length co) (k := ?_)
              refine WL.load (v := .agg #[.int .i64 2, .int .i64 (v81 : Int)]) (ldN (T := 72) (i := 0) (m := 2) (l := [.int .i64 2, .int .i64 (v81 : Int)]) hb88) (k := ?_)
              refine WL.newF (d := 28) (T := 72) #[.int .i64 2, .int .i64 (v81 : Int)] (fun b => .slice (some ⟨b, 0, none⟩) 1 1) (k := fun b90 w91 g92 hb93 k94 => ?_)
              have z95 := Nat.le_trans K.size g92
              have n96 : b < b90 := Nat.lt_of_lt_of_le hr83.lt g92
              have n97 : b ≠ b90 := Nat.ne_of_lt (Nat.lt_of_lt_of_le hr83.lt g92)
              have n98 := OwAt.off_new hb3 g92
              have n99 : b15 ≠ b90 := Nat.ne_of_lt (Nat.lt_of_lt_of_le (lt_of_heap hb88) g92)
              replace hr83 := hr83.adds k94
              replace hb3 := hb3.adds k94
              replace hb88 := k94.heap hb88 id
              replace K := K.trans (k94.any _)
              refine WL.append (d := 29) (T := 37) (cl := fateC) (xs := out) (ys := [(⟨2, (v81 : Int)⟩ : GFate)]) (c := 1) ekFate hb3 (SlAt.of_lit (ys := [(⟨2, (v81 : Int)⟩ : GFate)]) ekFate hb93 (by kernel_rfl)) (by first | omega | (simp; omega)) (k := fun A100 c101 w102 ho103 k104 n105 => ?_)
              have ol106 := olink_step ol4 K n105
              have n107 := off_step n105 n23 (lt_of_heap hb88)
              replace hr83 := hr83.keeps k104 (fun i hi => Nat.lt_of_lt_of_le lt0_ (ol4 i hi))
              replace hb88 := k104.heap hb88 n23
              replace K := K.trans' k104 (fun i hi e => absurd hi (Nat.not_lt.2 (ol4 i e)))
              clear hb3
              refine WL.op (d := 3) (.slice A100 ((out ++ [(⟨2, (v81 : Int)⟩ : GFate)]).length) c101) (k := ?_)
              refine WL.nil ?_
              refine WX.blockN ?_
              refine WX.round (t82, out ++ [(⟨2, (v81 : Int)⟩ : GFate)], A100, c101) (by show List.length t82 < List.length t; omega) ⟨(by kernel_rfl), (by kernel_rfl), (by kernel_rfl), trivial⟩ ⟨K, hr83, ho103, ol106, (fatI_succ hi hq28 (by simp [fatS, kLost, kKept, kTorn, hq28, hq79, ph36, ph55, ph77])), (by simp; omega)⟩
            have hq108 := isSome_no h78
            refine WL.callGP (f := 46) (args := #[.pointer (some ⟨b, 0, none⟩)]) (RdR.n (lnRint_c hr32) (by rw [hq108]; rfl)) (by kernel_rfl) (by kernel_rfl) (by kernel_rfl) (fun e_ w110 h_ => ?_)
            obtain ⟨rfl, k109⟩ := h_
            refine ⟨_, rfl, ?_⟩
            replace hb3 := hb3.keeps k109 (fun i hi e => (hr32.offO hb3 (by decide)) (e ▸ hi))
            replace hb25 := k109.heap hb25 (Ne.symm n22)
            replace K := K.trans' k109 (fun i hi e => e)
            clear hr32
            refine WX.blockP ?_
            refine WX.seqP ?_
            refine WX.blockP ?_
            refine WX.seqP ?_
            refine WX.blockP ?_
            refine WX.seqP ?_
            refine WX.scopeP ?_
            refine WX.pan ?_
            have f_ := fatI_no hi hq28 (by simp [fatS, kLost, kKept, kTorn, hq28, hq108, ph36, ph55, ph77])
            rw [f_]
            exact ⟨K, rfl⟩
          · have ph77 := of_decide_eq_false h77
            refine WC.region ?_
            refine WL.op (d := 14) (.agg #[]) (k := ?_)
            refine WL.op (d := 15) (.iface 104 (.agg #[])) (k := ?_)
            refine WL.panicV (.iface 104 (.agg #[])) (by kernel_rfl) (by kernel_rfl) (by kernel_rfl) ?_
            refine WX.blockP ?_
            refine WX.seqP ?_
            refine WX.blockP ?_
            refine WX.seqP ?_
            refine WX.blockP ?_
            refine WX.seqP ?_
            refine WX.scopeP ?_
            refine WX.pan ?_
            have f_ := fatI_no hi hq28 (by simp [fatS, kLost, kKept, kTorn, hq28, ph36, ph55, ph77])
            rw [f_]
            exact ⟨K, rfl⟩
    have hq111 := isSome_no h27
    refine WL.callGP (f := 44) (args := #[.pointer (some ⟨b, 0, none⟩)]) (RdR.n (lnNext_c hb2) (by rw [hq111]; rfl)) (by kernel_rfl) (by kernel_rfl) (by kernel_rfl) (fun e_ w113 h_ => ?_)
    obtain ⟨rfl, k112⟩ := h_
    refine ⟨_, rfl, ?_⟩
    replace hb3 := hb3.keeps k112 (fun i hi e => (hb2.offO hb3 (by decide)) (e ▸ hi))
    replace hb25 := k112.heap hb25 (Ne.symm n22)
    replace K := K.trans' k112 (fun i hi e => e)
    clear hb2
    refine WX.seqP ?_
    refine WX.seqP ?_
    refine WX.blockP ?_
    refine WX.seqP ?_
    refine WX.blockP ?_
    refine WX.seqP ?_
    refine WX.scopeP ?_
    refine WX.pan ?_
    exfalso
    cases t with
    | nil => simp at *
    | cons y ys => simp [nextF] at hq111
set_option maxRecDepth 100000 in
set_option maxHeartbeats 4000000 in
theorem lnCommand_c {b : Nat} {xs : Words} {w : World} (hr : RdW b xs w) (hG : GB w) (hb6 : 6 ≤ b) : Calls Tryz.prog 23 #[.pointer (some ⟨b, 0, none⟩)] w (CmdR b w (cmdF xs)) := by
  have K : Keeps (fun i => i = b) w w := Keeps.refl _ w
  have lt0_ := hr.lt
  have xl_ := hr.len
  refine Calls.start Tryz.func23 rfl (by kernel_rfl) ?_
  refine WC.seq ?_
  refine WC.region ?_
  refine WL.new (d := 2) (T := 39) #[.int .i64 0, .int .i64 0, .int .i64 0, .int .i64 0, .int .i64 0, .int .i64 0, .int .i64 0, .bool false, .int .i64 0, .int .i64 0, .int .i64 0, .int .i64 0, .int .i64 0, .int .i64 0, .slice none 0 0] (k := fun b1 w2 g3 hb4 k5 => ?_)
  have z6 := Nat.le_trans K.size g3
  have n7 : b < b1 := Nat.lt_of_lt_of_le hr.lt g3
  have n8 : b ≠ b1 := Nat.ne_of_lt (Nat.lt_of_lt_of_le hr.lt g3)
  replace hr := hr.adds k5
  replace K := K.trans (k5.any _)
  refine WL.nil ?_
  refine WX.seqN ?_
  refine WC.seq ?_
  refine WC.region ?_
  refine WL.new (d := 3) (T := 39) #[.int .i64 0, .int .i64 0, .int .i64 0, .int .i64 0, .int .i64 0, .int .i64 0, .int .i64 0, .bool false, .int .i64 0, .int .i64 0, .int .i64 0, .int .i64 0, .int .i64 0, .int .i64 0, .slice none 0 0] (k := fun b9 w10 g11 hb12 k13 => ?_)
  have z14 := Nat.le_trans K.size g11
  have n15 : b < b9 := Nat.lt_of_lt_of_le hr.lt g11
  have n16 : b ≠ b9 := Nat.ne_of_lt (Nat.lt_of_lt_of_le hr.lt g11)
  have n17 : b1 ≠ b9 := Nat.ne_of_lt (Nat.lt_of_lt_of_le (lt_of_heap hb4) g11)
  replace hr := hr.adds k13
  replace hb4 := k13.heap hb4 id
  replace K := K.trans (k13.any _)
  refine WL.nil ?_
  refine WX.seqN ?_
  refine WC.seq ?_
  refine WC.seq ?_
  refine WC.region ?_
  refine WL.op (d := 5) (.pointer (some ⟨b, 0, none⟩)) (k := ?_)
  refine bsplit (Option.isSome (nextF xs)) (fun h18 => ?_) (fun h18 => ?_)
  · obtain ⟨⟨v21, t22⟩, hq19⟩ := isSome_ex h18
    have nl24 := nextF_le hr hq19
    have nl25 := nextF_len hq19
    refine WL.callG (d := 6) (f := 44) (args := #[.pointer (some ⟨b, 0, none⟩)]) (RdR.y (lnNext_c hr) (by rw [hq19]; rfl)) (k := fun e_ w26 h_ => ?_)
    obtain ⟨rfl, hr23, k20⟩ := h_
    refine ⟨_, rfl, ?_⟩
    replace hb4 := k20.heap hb4 (Ne.symm n8)
    replace hb12 := k20.heap hb12 (Ne.symm n16)
    replace K := K.trans' k20 (fun i hi e => e)
    clear hr
    refine WL.op (d := 4) (.string ⟨(v21).toArray⟩) (k := ?_)
    refine WL.nil ?_
    refine WX.seqN ?_
    refine WC.seq ?_
    refine WC.region ?_
    refine WL.op (d := 7) (.string ⟨(v21).toArray⟩) (k := ?_)
    refine WL.nil ?_
    refine WX.seqN ?_
    refine WC.block ?_
    refine WC.seq ?_
    refine WC.region ?_
    refine WL.opE (d := 13) (.bool (ByteArray.toList ⟨(v21).toArray⟩ == ByteArray.toList ⟨([114, 101, 108, 101, 97, 115, 101]).toArray⟩)) (v := .bool (decide (v21 = [114, 101, 108, 101, 97, 115, 101]))) (str_eql _ _) (k := ?_)
    refine WL.op (d := 12) (.bool (decide (v21 = [114, 101, 108, 101, 97, 115, 101]))) (k := ?_)
    refine WL.nil ?_
    refine WX.seqN ?_
    refine WC.cond (b := decide (v21 = [114, 101, 108, 101, 97, 115, 101])) (ht := fun h27 => ?_) (hf := fun h27 => ?_)
    · have ph27 := of_decide_eq_true h27
      refine WC.region ?_
      refine WL.op (d := 14) (.pointer (some ⟨b, 0, none⟩)) (k := ?_)
      refine bsplit (Option.isSome (wrkF 2 t22)) (fun h28 => ?_) (fun h28 => ?_)
      · obtain ⟨⟨v31, t32⟩, hq29⟩ := isSome_ex h28
        obtain ⟨i34, j35, rfl⟩ := wrkF_ex hq29
        refine WL.callG (d := 15) (f := 45) (args := #[.pointer (some ⟨b, 0, none⟩), .int .i64 2]) (RdR.y (lnWork_a hr23) (by rw [hq29]; rfl)) (k := fun e_ w36 h_ => ?_)
        obtain ⟨rfl, hr33, k30⟩ := h_
        refine ⟨_, rfl, ?_⟩
        replace hb4 := k30.heap hb4 (Ne.symm n8)
        replace hb12 := k30.heap hb12 (Ne.symm n16)
        replace K := K.trans' k30 (fun i hi e => e)
        clear hr23
        refine WL.store (v := .agg #[.int .i64 2, .int .i64 0, .int .i64 0, .int .i64 0, .int .i64 0, .int .i64 0, .int .i64 0, .bool false, .int .i64 0, .int .i64 0, .int .i64 0, .int .i64 i34, .int .i64 j35, .int .i64 0, .slice none 0 0]) (i := 0) (cs' := #[.int .i64 2, .int .i64 0, .int .i64 0, .int .i64 0, .int .i64 0, .int .i64 0, .int .i64 0, .bool false, .int .i64 0, .int .i64 0, .int .i64 0, .int .i64 i34, .int .i64 j35, .int .i64 0, .slice none 0 0]) hb12 (k := fun w37 hb38 k39 => ?_)
        replace hr33 := hr33.keeps k39 (fun i e => e ▸ n15)
        replace hb4 := k39.heap hb4 n17
        replace K := K.trans' k39 (fun i hi e => absurd (e ▸ hi) (Nat.not_lt.2 z14))
        clear hb12
        refine WL.nil ?_
        refine WX.blockN ?_
        refine WX.seqN ?_
        refine WC.seq ?_
        obtain ⟨A40, c41, hb42, hs43, hl44, hc45, hm46, hz47, hx48⟩ := id hr33
        refine WC.region ?_
        refine WL.op (d := 46) (.pointer (some ⟨b, 0, none⟩)) (k := ?_)
        refine WL.op (d := 47) (.pointer (some ⟨b, 0, none⟩)) (k := ?_)
        refine WL.op (d := 48) (.pointer (some ⟨b, 0, none⟩)) (k := ?_)
        refine WL.load (v := .slice A40 t32.length c41) (ld1 (T := 43) (i := 0) hb42) (k := ?_)
        refine WL.op (d := 50) (.int .i64 (t32.length : Int)) (k := ?_)
        refine WL.op (d := 51) (.bool ((t32.length : Int) == 0)) (k := ?_)
        refine WL.op (d := 52) (.bool ((t32.length : Int) == 0)) (k := ?_)
        refine bsplit ((t32.length : Int) == 0) (fun h49 => ?_) (fun h49 => ?_)
        · have ph49 := eq_of_beq h49
          refine WL.rw (t := 52) (v := .bool true) (congrArg Value.bool h49) (k := ?_)
          refine WL.load (v := .agg #[.int .i64 2, .int .i64 0, .int .i64 0, .int .i64 0, .int .i64 0, .int .i64 0, .int .i64 0, .bool false, .int .i64 0, .int .i64 0, .int .i64 0, .int .i64 i34, .int .i64 j35, .int .i64 0, .slice none 0 0]) (ldN (T := 39) (i := 0) (m := 15) (l := [.int .i64 2, .int .i64 0, .int .i64 0, .int .i64 0, .int .i64 0, .int .i64 0, .int .i64 0, .bool false, .int .i64 0, .int .i64 0, .int .i64 0, .int .i64 i34, .int .i64 j35, .int .i64 0, .slice none 0 0]) hb38) (k := ?_)
          refine WL.callG (d := 54) (f := 33) (args := #[.agg #[.int .i64 2, .int .i64 0, .int .i64 0, .int .i64 0, .int .i64 0, .int .i64 0, .int .i64 0, .bool false, .int .i64 0, .int .i64 0, .int .i64 0, .int .i64 i34, .int .i64 j35, .int .i64 0, .slice none 0 0]]) (sCheck_c (c := (⟨⟨2, (⟨0, ⟨0, 0, 0, 0, 0⟩, false, 0, 0, 0⟩ : GOp), i34, j35, 0, []⟩, none, 0⟩ : GCmd)) SlAt.nil (by first | omega | (simp; done) | (simp; omega))) (k := fun e_ w50 h_ => ⟨.bool (cokB (⟨⟨2, (⟨0, ⟨0, 0, 0, 0, 0⟩, false, 0, 0, 0⟩ : GOp), i34, j35, 0, []⟩, none, 0⟩ : GCmd).p), h_.1, ?_⟩)
          have k51 := h_.2; clear h_
          replace hb42 := k51.heap hb42 id
          replace hb4 := k51.heap hb4 id
          replace hb38 := k51.heap hb38 id
          replace hs43 := hs43.adds k51
          replace K := K.trans (k51.any _)
          refine WL.op (d := 55) (.bool (cokB (⟨⟨2, (⟨0, ⟨0, 0, 0, 0, 0⟩, false, 0, 0, 0⟩ : GOp), i34, j35, 0, []⟩, none, 0⟩ : GCmd).p)) (k := ?_)
          refine bsplit (cokB (⟨⟨2, (⟨0, ⟨0, 0, 0, 0, 0⟩, false, 0, 0, 0⟩ : GOp), i34, j35, 0, []⟩, none, 0⟩ : GCmd).p) (fun h52 => ?_) (fun h52 => ?_)
          · have ph52 := cok_t h52
            refine WL.callG (d := 56) (f := 49) (args := #[.bool (cokB (⟨⟨2, (⟨0, ⟨0, 0, 0, 0, 0⟩, false, 0, 0, 0⟩ : GOp), i34, j35, 0, []⟩, none, 0⟩ : GCmd).p)]) (lnMust_y h52 w50) (k := fun e_ w53 h_ => ⟨.tuple #[], h_.1, ?_⟩)
            have k54 := h_.2; clear h_
            replace hb42 := k54.heap hb42 id
            replace hb4 := k54.heap hb4 id
            replace hb38 := k54.heap hb38 id
            replace hs43 := hs43.adds k54
            replace K := K.trans (k54.any _)
            refine WL.nil ?_
            refine WX.seqN ?_
            refine WC.seq ?_
            refine WC.region ?_
            refine WL.load (v := .agg #[.int .i64 2, .int .i64 0, .int .i64 0, .int .i64 0, .int .i64 0, .int .i64 0, .int .i64 0, .bool false, .int .i64 0, .int .i64 0, .int .i64 0, .int .i64 i34, .int .i64 j35, .int .i64 0, .slice none 0 0]) (ldN (T := 39) (i := 0) (m := 15) (l := [.int .i64 2, .int .i64 0, .int .i64 0, .int .i64 0, .int .i64 0, .int .i64 0, .int .i64 0, .bool false, .int .i64 0, .int .i64 0, .int .i64 0, .int .i64 i34, .int .i64 j35, .int .i64 0, .slice none 0 0]) hb38) (k := ?_)
            refine WL.store (v := .agg #[.int .i64 2, .int .i64 0, .int .i64 0, .int .i64 0, .int .i64 0, .int .i64 0, .int .i64 0, .bool false, .int .i64 0, .int .i64 0, .int .i64 0, .int .i64 i34, .int .i64 j35, .int .i64 0, .slice none 0 0]) (i := 0) (cs' := #[.int .i64 2, .int .i64 0, .int .i64 0, .int .i64 0, .int .i64 0, .int .i64 0, .int .i64 0, .bool false, .int .i64 0, .int .i64 0, .int .i64 0, .int .i64 i34, .int .i64 j35, .int .i64 0, .slice none 0 0]) hb4 (k := fun w55 hb56 k57 => ?_)
            replace hb38 := k57.heap hb38 (Ne.symm n17)
            replace K := K.trans' k57 (fun i hi e => absurd (e ▸ hi) (Nat.not_lt.2 z6))
            clear hb4
            refine WL.nil ?_
            refine WX.seqN ?_
            refine WC.ret ?_
            refine WX.ret (rs := [.cell 2 39]) [.agg #[.int .i64 2, .int .i64 0, .int .i64 0, .int .i64 0, .int .i64 0, .int .i64 0, .int .i64 0, .bool false, .int .i64 0, .int .i64 0, .int .i64 0, .int .i64 i34, .int .i64 j35, .int .i64 0, .slice none 0 0]] (.agg #[.int .i64 2, .int .i64 0, .int .i64 0, .int .i64 0, .int .i64 0, .int .i64 0, .int .i64 0, .bool false, .int .i64 0, .int .i64 0, .int .i64 0, .int .i64 i34, .int .i64 j35, .int .i64 0, .slice none 0 0]) ⟨⟨_, (by kernel_rfl), ldN (T := 39) (i := 0) (m := 15) (l := [.int .i64 2, .int .i64 0, .int .i64 0, .int .i64 0, .int .i64 0, .int .i64 0, .int .i64 0, .bool false, .int .i64 0, .int .i64 0, .int .i64 0, .int .i64 i34, .int .i64 j35, .int .i64 0, .slice none 0 0]) hb56⟩, trivial⟩ (k := ?_)
            have b_ : bodF v21 t22 = some ((⟨⟨2, (⟨0, ⟨0, 0, 0, 0, 0⟩, false, 0, 0, 0⟩ : GOp), i34, j35, 0, []⟩, none, 0⟩ : GCmd).p, t32) := (by simp [bodF, GOp.zero, kRelease, kAsk, kTick, kFail, kQuery, kSnapshot, kStart, kCrash, hq19, hq29, ph27])
            rw [cmdF_y hq19 b_ (List.eq_nil_of_length_eq_zero (by omega)) h52]
            exact ⟨K, _, _, rfl, OwAt.nil, (by simp [blk])⟩
          have ph52 := cok_f h52
          refine WL.callGP (f := 49) (args := #[.bool (cokB (⟨⟨2, (⟨0, ⟨0, 0, 0, 0, 0⟩, false, 0, 0, 0⟩ : GOp), i34, j35, 0, []⟩, none, 0⟩ : GCmd).p)]) (lnMust_n h52 w50) (by kernel_rfl) (by kernel_rfl) (by kernel_rfl) (fun e_ w58 h_ => ?_)
          obtain ⟨rfl, k59⟩ := h_
          refine ⟨_, rfl, ?_⟩
          replace hb42 := k59.heap hb42 id
          replace hb4 := k59.heap hb4 id
          replace hb38 := k59.heap hb38 id
          replace hs43 := hs43.adds k59
          replace K := K.trans (k59.any _)
          refine WX.seqP ?_
          refine WX.pan ?_
          have b_ : bodF v21 t22 = some ((⟨⟨2, (⟨0, ⟨0, 0, 0, 0, 0⟩, false, 0, 0, 0⟩ : GOp), i34, j35, 0, []⟩, none, 0⟩ : GCmd).p, t32) := (by simp [bodF, GOp.zero, kRelease, kAsk, kTick, kFail, kQuery, kSnapshot, kStart, kCrash, hq19, hq29, ph27])
          rw [cmdF_n hq19 b_ (fun k => by rw [h52] at k; cases k.2)]
          exact ⟨K, rfl⟩
        have ph49 := ne_of_beq_false h49
        refine WL.rw (t := 52) (v := .bool false) (congrArg Value.bool h49) (k := ?_)
        refine WL.skip (d := 53) (k := ?_)
        refine WL.skip (d := 54) (k := ?_)
        refine WL.op (d := 55) (.bool false) (k := ?_)
        refine WL.callGP (f := 49) (args := #[.bool false]) (lnMust_n rfl w37) (by kernel_rfl) (by kernel_rfl) (by kernel_rfl) (fun e_ w60 h_ => ?_)
        obtain ⟨rfl, k61⟩ := h_
        refine ⟨_, rfl, ?_⟩
        replace hb42 := k61.heap hb42 id
        replace hb4 := k61.heap hb4 id
        replace hb38 := k61.heap hb38 id
        replace hs43 := hs43.adds k61
        replace K := K.trans (k61.any _)
        refine WX.seqP ?_
        refine WX.pan ?_
        have b_ : bodF v21 t22 = some ((⟨⟨2, (⟨0, ⟨0, 0, 0, 0, 0⟩, false, 0, 0, 0⟩ : GOp), i34, j35, 0, []⟩, none, 0⟩ : GCmd).p, t32) := (by simp [bodF, GOp.zero, kRelease, kAsk, kTick, kFail, kQuery, kSnapshot, kStart, kCrash, hq19, hq29, ph27])
        rw [cmdF_n hq19 b_ (fun k => ph49 (by rw [k.1]; rfl))]
        exact ⟨K, rfl⟩
      have hq62 := isSome_no h28
      refine WL.callGP (f := 45) (args := #[.pointer (some ⟨b, 0, none⟩), .int .i64 2]) (RdR.n (lnWork_a hr23) (by rw [hq62]; rfl)) (by kernel_rfl) (by kernel_rfl) (by kernel_rfl) (fun e_ w64 h_ => ?_)
      obtain ⟨rfl, k63⟩ := h_
      refine ⟨_, rfl, ?_⟩
      replace hb4 := k63.heap hb4 (Ne.symm n8)
      replace hb12 := k63.heap hb12 (Ne.symm n16)
      replace K := K.trans' k63 (fun i hi e => e)
      clear hr23
      refine WX.blockP ?_
      refine WX.seqP ?_
      refine WX.pan ?_
      have b_ := (show bodF v21 t22 = none from (by simp [bodF, kRelease, kAsk, kTick, kFail, kQuery, kSnapshot, kStart, kCrash, hq19, hq62, ph27]))
      rw [cmdF_b hq19 b_]
      exact ⟨K, rfl⟩
    · have ph27 := of_decide_eq_false h27
      refine WC.seq ?_
      refine WC.region ?_
      refine WL.opE (d := 17) (.bool (ByteArray.toList ⟨(v21).toArray⟩ == ByteArray.toList ⟨([97, 115, 107]).toArray⟩)) (v := .bool (decide (v21 = [97, 115, 107]))) (str_eql _ _) (k := ?_)
      refine WL.op (d := 16) (.bool (decide (v21 = [97, 115, 107]))) (k := ?_)
      refine WL.nil ?_
      refine WX.seqN ?_
      refine WC.cond (b := decide (v21 = [97, 115, 107])) (ht := fun h65 => ?_) (hf := fun h65 => ?_)
      · have ph65 := of_decide_eq_true h65
        refine WC.region ?_
        refine WL.op (d := 18) (.pointer (some ⟨b, 0, none⟩)) (k := ?_)
        refine bsplit (Option.isSome (wrkF 3 t22)) (fun h66 => ?_) (fun h66 => ?_)
        · obtain ⟨⟨v69, t70⟩, hq67⟩ := isSome_ex h66
          obtain ⟨i72, j73, rfl⟩ := wrkF_ex hq67
          refine WL.callG (d := 19) (f := 45) (args := #[.pointer (some ⟨b, 0, none⟩), .int .i64 3]) (RdR.y (lnWork_a hr23) (by rw [hq67]; rfl)) (k := fun e_ w74 h_ => ?_)
          obtain ⟨rfl, hr71, k68⟩ := h_
          refine ⟨_, rfl, ?_⟩
          replace hb4 := k68.heap hb4 (Ne.symm n8)
          replace hb12 := k68.heap hb12 (Ne.symm n16)
          replace K := K.trans' k68 (fun i hi e => e)
          clear hr23
          refine WL.store (v := .agg #[.int .i64 3, .int .i64 0, .int .i64 0, .int .i64 0, .int .i64 0, .int .i64 0, .int .i64 0, .bool false, .int .i64 0, .int .i64 0, .int .i64 0, .int .i64 i72, .int .i64 j73, .int .i64 0, .slice none 0 0]) (i := 0) (cs' := #[.int .i64 3, .int .i64 0, .int .i64 0, .int .i64 0, .int .i64 0, .int .i64 0, .int .i64 0, .bool false, .int .i64 0, .int .i64 0, .int .i64 0, .int .i64 i72, .int .i64 j73, .int .i64 0, .slice none 0 0]) hb12 (k := fun w75 hb76 k77 => ?_)
          replace hr71 := hr71.keeps k77 (fun i e => e ▸ n15)
          replace hb4 := k77.heap hb4 n17
          replace K := K.trans' k77 (fun i hi e => absurd (e ▸ hi) (Nat.not_lt.2 z14))
          clear hb12
          refine WL.nil ?_
          refine WX.blockN ?_
          refine WX.seqN ?_
          refine WC.seq ?_
          obtain ⟨A78, c79, hb80, hs81, hl82, hc83, hm84, hz85, hx86⟩ := id hr71
          refine WC.region ?_
          refine WL.op (d := 46) (.pointer (some ⟨b, 0, none⟩)) (k := ?_)
          refine WL.op (d := 47) (.pointer (some ⟨b, 0, none⟩)) (k := ?_)
          refine WL.op (d := 48) (.pointer (some ⟨b, 0, none⟩)) (k := ?_)
          refine WL.load (v := .slice A78 t70.length c79) (ld1 (T := 43) (i := 0) hb80) (k := ?_)
          refine WL.op (d := 50) (.int .i64 (t70.length : Int)) (k := ?_)
          refine WL.op (d := 51) (.bool ((t70.length : Int) == 0)) (k := ?_)
          refine WL.op (d := 52) (.bool ((t70.length : Int) == 0)) (k := ?_)
          refine bsplit ((t70.length : Int) == 0) (fun h87 => ?_) (fun h87 => ?_)
          · have ph87 := eq_of_beq h87
            refine WL.rw (t := 52) (v := .bool true) (congrArg Value.bool h87) (k := ?_)
            refine WL.load (v := .agg #[.int .i64 3, .int .i64 0, .int .i64 0, .int .i64 0, .int .i64 0, .int .i64 0, .int .i64 0, .bool false, .int .i64 0, .int .i64 0, .int .i64 0, .int .i64 i72, .int .i64 j73, .int .i64 0, .slice none 0 0]) (ldN (T := 39) (i := 0) (m := 15) (l := [.int .i64 3, .int .i64 0, .int .i64 0, .int .i64 0, .int .i64 0, .int .i64 0, .int .i64 0, .bool false, .int .i64 0, .int .i64 0, .int .i64 0, .int .i64 i72, .int .i64 j73, .int .i64 0, .slice none 0 0]) hb76) (k := ?_)
            refine WL.callG (d := 54) (f := 33) (args := #[.agg #[.int .i64 3, .int .i64 0, .int .i64 0, .int .i64 0, .int .i64 0, .int .i64 0, .int .i64 0, .bool false, .int .i64 0, .int .i64 0, .int .i64 0, .int .i64 i72, .int .i64 j73, .int .i64 0, .slice none 0 0]]) (sCheck_c (c := (⟨⟨3, (⟨0, ⟨0, 0, 0, 0, 0⟩, false, 0, 0, 0⟩ : GOp), i72, j73, 0, []⟩, none, 0⟩ : GCmd)) SlAt.nil (by first | omega | (simp; done) | (simp; omega))) (k := fun e_ w88 h_ => ⟨.bool (cokB (⟨⟨3, (⟨0, ⟨0, 0, 0, 0, 0⟩, false, 0, 0, 0⟩ : GOp), i72, j73, 0, []⟩, none, 0⟩ : GCmd).p), h_.1, ?_⟩)
            have k89 := h_.2; clear h_
            replace hb80 := k89.heap hb80 id
            replace hb4 := k89.heap hb4 id
            replace hb76 := k89.heap hb76 id
            replace hs81 := hs81.adds k89
            replace K := K.trans (k89.any _)
            refine WL.op (d := 55) (.bool (cokB (⟨⟨3, (⟨0, ⟨0, 0, 0, 0, 0⟩, false, 0, 0, 0⟩ : GOp), i72, j73, 0, []⟩, none, 0⟩ : GCmd).p)) (k := ?_)
            refine bsplit (cokB (⟨⟨3, (⟨0, ⟨0, 0, 0, 0, 0⟩, false, 0, 0, 0⟩ : GOp), i72, j73, 0, []⟩, none, 0⟩ : GCmd).p) (fun h90 => ?_) (fun h90 => ?_)
            · have ph90 := cok_t h90
              refine WL.callG (d := 56) (f := 49) (args := #[.bool (cokB (⟨⟨3, (⟨0, ⟨0, 0, 0, 0, 0⟩, false, 0, 0, 0⟩ : GOp), i72, j73, 0, []⟩, none, 0⟩ : GCmd).p)]) (lnMust_y h90 w88) (k := fun e_ w91 h_ => ⟨.tuple #[], h_.1, ?_⟩)
              have k92 := h_.2; clear h_
              replace hb80 := k92.heap hb80 id
              replace hb4 := k92.heap hb4 id
              replace hb76 := k92.heap hb76 id
              replace hs81 := hs81.adds k92
              replace K := K.trans (k92.any _)
              refine WL.nil ?_
              refine WX.seqN ?_
              refine WC.seq ?_
              refine WC.region ?_
              refine WL.load (v := .agg #[.int .i64 3, .int .i64 0, .int .i64 0, .int .i64 0, .int .i64 0, .int .i64 0, .int .i64 0, .bool false, .int .i64 0, .int .i64 0, .int .i64 0, .int .i64 i72, .int .i64 j73, .int .i64 0, .slice none 0 0]) (ldN (T := 39) (i := 0) (m := 15) (l := [.int .i64 3, .int .i64 0, .int .i64 0, .int .i64 0, .int .i64 0, .int .i64 0, .int .i64 0, .bool false, .int .i64 0, .int .i64 0, .int .i64 0, .int .i64 i72, .int .i64 j73, .int .i64 0, .slice none 0 0]) hb76) (k := ?_)
              refine WL.store (v := .agg #[.int .i64 3, .int .i64 0, .int .i64 0, .int .i64 0, .int .i64 0, .int .i64 0, .int .i64 0, .bool false, .int .i64 0, .int .i64 0, .int .i64 0, .int .i64 i72, .int .i64 j73, .int .i64 0, .slice none 0 0]) (i := 0) (cs' := #[.int .i64 3, .int .i64 0, .int .i64 0, .int .i64 0, .int .i64 0, .int .i64 0, .int .i64 0, .bool false, .int .i64 0, .int .i64 0, .int .i64 0, .int .i64 i72, .int .i64 j73, .int .i64 0, .slice none 0 0]) hb4 (k := fun w93 hb94 k95 => ?_)
              replace hb76 := k95.heap hb76 (Ne.symm n17)
              replace K := K.trans' k95 (fun i hi e => absurd (e ▸ hi) (Nat.not_lt.2 z6))
              clear hb4
              refine WL.nil ?_
              refine WX.seqN ?_
              refine WC.ret ?_
              refine WX.ret (rs := [.cell 2 39]) [.agg #[.int .i64 3, .int .i64 0, .int .i64 0, .int .i64 0, .int .i64 0, .int .i64 0, .int .i64 0, .bool false, .int .i64 0, .int .i64 0, .int .i64 0, .int .i64 i72, .int .i64 j73, .int .i64 0, .slice none 0 0]] (.agg #[.int .i64 3, .int .i64 0, .int .i64 0, .int .i64 0, .int .i64 0, .int .i64 0, .int .i64 0, .bool false, .int .i64 0, .int .i64 0, .int .i64 0, .int .i64 i72, .int .i64 j73, .int .i64 0, .slice none 0 0]) ⟨⟨_, (by kernel_rfl), ldN (T := 39) (i := 0) (m := 15) (l := [.int .i64 3, .int .i64 0, .int .i64 0, .int .i64 0, .int .i64 0, .int .i64 0, .int .i64 0, .bool false, .int .i64 0, .int .i64 0, .int .i64 0, .int .i64 i72, .int .i64 j73, .int .i64 0, .slice none 0 0]) hb94⟩, trivial⟩ (k := ?_)
              have b_ : bodF v21 t22 = some ((⟨⟨3, (⟨0, ⟨0, 0, 0, 0, 0⟩, false, 0, 0, 0⟩ : GOp), i72, j73, 0, []⟩, none, 0⟩ : GCmd).p, t70) := (by simp [bodF, GOp.zero, kRelease, kAsk, kTick, kFail, kQuery, kSnapshot, kStart, kCrash, hq19, hq67, ph27, ph65])
              rw [cmdF_y hq19 b_ (List.eq_nil_of_length_eq_zero (by omega)) h90]
              exact ⟨K, _, _, rfl, OwAt.nil, (by simp [blk])⟩
            have ph90 := cok_f h90
            refine WL.callGP (f := 49) (args := #[.bool (cokB (⟨⟨3, (⟨0, ⟨0, 0, 0, 0, 0⟩, false, 0, 0, 0⟩ : GOp), i72, j73, 0, []⟩, none, 0⟩ : GCmd).p)]) (lnMust_n h90 w88) (by kernel_rfl) (by kernel_rfl) (by kernel_rfl) (fun e_ w96 h_ => ?_)
            obtain ⟨rfl, k97⟩ := h_
            refine ⟨_, rfl, ?_⟩
            replace hb80 := k97.heap hb80 id
            replace hb4 := k97.heap hb4 id
            replace hb76 := k97.heap hb76 id
            replace hs81 := hs81.adds k97
            replace K := K.trans (k97.any _)
            refine WX.seqP ?_
            refine WX.pan ?_
            have b_ : bodF v21 t22 = some ((⟨⟨3, (⟨0, ⟨0, 0, 0, 0, 0⟩, false, 0, 0, 0⟩ : GOp), i72, j73, 0, []⟩, none, 0⟩ : GCmd).p, t70) := (by simp [bodF, GOp.zero, kRelease, kAsk, kTick, kFail, kQuery, kSnapshot, kStart, kCrash, hq19, hq67, ph27, ph65])
            rw [cmdF_n hq19 b_ (fun k => by rw [h90] at k; cases k.2)]
            exact ⟨K, rfl⟩
          have ph87 := ne_of_beq_false h87
          refine WL.rw (t := 52) (v := .bool false) (congrArg Value.bool h87) (k := ?_)
          refine WL.skip (d := 53) (k := ?_)
          refine WL.skip (d := 54) (k := ?_)
          refine WL.op (d := 55) (.bool false) (k := ?_)
          refine WL.callGP (f := 49) (args := #[.bool false]) (lnMust_n rfl w75) (by kernel_rfl) (by kernel_rfl) (by kernel_rfl) (fun e_ w98 h_ => ?_)
          obtain ⟨rfl, k99⟩ := h_
          refine ⟨_, rfl, ?_⟩
          replace hb80 := k99.heap hb80 id
          replace hb4 := k99.heap hb4 id
          replace hb76 := k99.heap hb76 id
          replace hs81 := hs81.adds k99
          replace K := K.trans (k99.any _)
          refine WX.seqP ?_
          refine WX.pan ?_
          have b_ : bodF v21 t22 = some ((⟨⟨3, (⟨0, ⟨0, 0, 0, 0, 0⟩, false, 0, 0, 0⟩ : GOp), i72, j73, 0, []⟩, none, 0⟩ : GCmd).p, t70) := (by simp [bodF, GOp.zero, kRelease, kAsk, kTick, kFail, kQuery, kSnapshot, kStart, kCrash, hq19, hq67, ph27, ph65])
          rw [cmdF_n hq19 b_ (fun k => ph87 (by rw [k.1]; rfl))]
          exact ⟨K, rfl⟩
        have hq100 := isSome_no h66
        refine WL.callGP (f := 45) (args := #[.pointer (some ⟨b, 0, none⟩), .int .i64 3]) (RdR.n (lnWork_a hr23) (by rw [hq100]; rfl)) (by kernel_rfl) (by kernel_rfl) (by kernel_rfl) (fun e_ w102 h_ => ?_)
        obtain ⟨rfl, k101⟩ := h_
        refine ⟨_, rfl, ?_⟩
        replace hb4 := k101.heap hb4 (Ne.symm n8)
        replace hb12 := k101.heap hb12 (Ne.symm n16)
        replace K := K.trans' k101 (fun i hi e => e)
        clear hr23
        refine WX.blockP ?_
        refine WX.seqP ?_
        refine WX.pan ?_
        have b_ := (show bodF v21 t22 = none from (by simp [bodF, kRelease, kAsk, kTick, kFail, kQuery, kSnapshot, kStart, kCrash, hq19, hq100, ph27, ph65]))
        rw [cmdF_b hq19 b_]
        exact ⟨K, rfl⟩
      · have ph65 := of_decide_eq_false h65
        refine WC.seq ?_
        refine WC.region ?_
        refine WL.opE (d := 21) (.bool (ByteArray.toList ⟨(v21).toArray⟩ == ByteArray.toList ⟨([116, 105, 99, 107]).toArray⟩)) (v := .bool (decide (v21 = [116, 105, 99, 107]))) (str_eql _ _) (k := ?_)
        refine WL.op (d := 20) (.bool (decide (v21 = [116, 105, 99, 107]))) (k := ?_)
        refine WL.nil ?_
        refine WX.seqN ?_
        refine WC.cond (b := decide (v21 = [116, 105, 99, 107])) (ht := fun h103 => ?_) (hf := fun h103 => ?_)
        · have ph103 := of_decide_eq_true h103
          refine WC.region ?_
          refine WL.op (d := 22) (.pointer (some ⟨b, 0, none⟩)) (k := ?_)
          refine bsplit (Option.isSome (numF t22)) (fun h104 => ?_) (fun h104 => ?_)
          · obtain ⟨⟨v107, t108⟩, hq105⟩ := isSome_ex h104
            have nl110 := numF_le hq105
            have nl111 := numF_len hq105
            refine WL.callG (d := 23) (f := 46) (args := #[.pointer (some ⟨b, 0, none⟩)]) (RdR.y (lnRint_c hr23) (by rw [hq105]; rfl)) (k := fun e_ w112 h_ => ?_)
            obtain ⟨rfl, hr109, k106⟩ := h_
            refine ⟨_, rfl, ?_⟩
            replace hb4 := k106.heap hb4 (Ne.symm n8)
            replace hb12 := k106.heap hb12 (Ne.symm n16)
            replace K := K.trans' k106 (fun i hi e => e)
            clear hr23
            refine WL.op (d := 24) (.agg #[.int .i64 4, .int .i64 0, .int .i64 0, .int .i64 0, .int .i64 0, .int .i64 0, .int .i64 0, .bool false, .int .i64 0, .int .i64 0, .int .i64 0, .int .i64 0, .int .i64 0, .int .i64 (v107 : Int), .slice none 0 0]) (k := ?_)
            refine WL.store (v := .agg #[.int .i64 4, .int .i64 0, .int .i64 0, .int .i64 0, .int .i64 0, .int .i64 0, .int .i64 0, .bool false, .int .i64 0, .int .i64 0, .int .i64 0, .int .i64 0, .int .i64 0, .int .i64 (v107 : Int), .slice none 0 0]) (i := 0) (cs' := #[.int .i64 4, .int .i64 0, .int .i64 0, .int .i64 0, .int .i64 0, .int .i64 0, .int .i64 0, .bool false, .int .i64 0, .int .i64 0, .int .i64 0, .int .i64 0, .int .i64 0, .int .i64 (v107 : Int), .slice none 0 0]) hb12 (k := fun w113 hb114 k115 => ?_)
            replace hr109 := hr109.keeps k115 (fun i e => e ▸ n15)
            replace hb4 := k115.heap hb4 n17
            replace K := K.trans' k115 (fun i hi e => absurd (e ▸ hi) (Nat.not_lt.2 z14))
            clear hb12
            refine WL.nil ?_
            refine WX.blockN ?_
            refine WX.seqN ?_
            refine WC.seq ?_
            obtain ⟨A116, c117, hb118, hs119, hl120, hc121, hm122, hz123, hx124⟩ := id hr109
            refine WC.region ?_
            refine WL.op (d := 46) (.pointer (some ⟨b, 0, none⟩)) (k := ?_)
            refine WL.op (d := 47) (.pointer (some ⟨b, 0, none⟩)) (k := ?_)
            refine WL.op (d := 48) (.pointer (some ⟨b, 0, none⟩)) (k := ?_)
            refine WL.load (v := .slice A116 t108.length c117) (ld1 (T := 43) (i := 0) hb118) (k := ?_)
            refine WL.op (d := 50) (.int .i64 (t108.length : Int)) (k := ?_)
            refine WL.op (d := 51) (.bool ((t108.length : Int) == 0)) (k := ?_)
            refine WL.op (d := 52) (.bool ((t108.length : Int) == 0)) (k := ?_)
            refine bsplit ((t108.length : Int) == 0) (fun h125 => ?_) (fun h125 => ?_)
            · have ph125 := eq_of_beq h125
              refine WL.rw (t := 52) (v := .bool true) (congrArg Value.bool h125) (k := ?_)
              refine WL.load (v := .agg #[.int .i64 4, .int .i64 0, .int .i64 0, .int .i64 0, .int .i64 0, .int .i64 0, .int .i64 0, .bool false, .int .i64 0, .int .i64 0, .int .i64 0, .int .i64 0, .int .i64 0, .int .i64 (v107 : Int), .slice none 0 0]) (ldN (T := 39) (i := 0) (m := 15) (l := [.int .i64 4, .int .i64 0, .int .i64 0, .int .i64 0, .int .i64 0, .int .i64 0, .int .i64 0, .bool false, .int .i64 0, .int .i64 0, .int .i64 0, .int .i64 0, .int .i64 0, .int .i64 (v107 : Int), .slice none 0 0]) hb114) (k := ?_)
              refine WL.callG (d := 54) (f := 33) (args := #[.agg #[.int .i64 4, .int .i64 0, .int .i64 0, .int .i64 0, .int .i64 0, .int .i64 0, .int .i64 0, .bool false, .int .i64 0, .int .i64 0, .int .i64 0, .int .i64 0, .int .i64 0, .int .i64 (v107 : Int), .slice none 0 0]]) (sCheck_c (c := (⟨⟨4, (⟨0, ⟨0, 0, 0, 0, 0⟩, false, 0, 0, 0⟩ : GOp), 0, 0, (v107 : Int), []⟩, none, 0⟩ : GCmd)) SlAt.nil (by first | omega | (simp; done) | (simp; omega))) (k := fun e_ w126 h_ => ⟨.bool (cokB (⟨⟨4, (⟨0, ⟨0, 0, 0, 0, 0⟩, false, 0, 0, 0⟩ : GOp), 0, 0, (v107 : Int), []⟩, none, 0⟩ : GCmd).p), h_.1, ?_⟩)
              have k127 := h_.2; clear h_
              replace hb118 := k127.heap hb118 id
              replace hb4 := k127.heap hb4 id
              replace hb114 := k127.heap hb114 id
              replace hs119 := hs119.adds k127
              replace K := K.trans (k127.any _)
              refine WL.op (d := 55) (.bool (cokB (⟨⟨4, (⟨0, ⟨0, 0, 0, 0, 0⟩, false, 0, 0, 0⟩ : GOp), 0, 0, (v107 : Int), []⟩, none, 0⟩ : GCmd).p)) (k := ?_)
              refine bsplit (cokB (⟨⟨4, (⟨0, ⟨0, 0, 0, 0, 0⟩, false, 0, 0, 0⟩ : GOp), 0, 0, (v107 : Int), []⟩, none, 0⟩ : GCmd).p) (fun h128 => ?_) (fun h128 => ?_)
              · have ph128 := cok_t h128
                refine WL.callG (d := 56) (f := 49) (args := #[.bool (cokB (⟨⟨4, (⟨0, ⟨0, 0, 0, 0, 0⟩, false, 0, 0, 0⟩ : GOp), 0, 0, (v107 : Int), []⟩, none, 0⟩ : GCmd).p)]) (lnMust_y h128 w126) (k := fun e_ w129 h_ => ⟨.tuple #[], h_.1, ?_⟩)
                have k130 := h_.2; clear h_
                replace hb118 := k130.heap hb118 id
                replace hb4 := k130.heap hb4 id
                replace hb114 := k130.heap hb114 id
                replace hs119 := hs119.adds k130
                replace K := K.trans (k130.any _)
                refine WL.nil ?_
                refine WX.seqN ?_
                refine WC.seq ?_
                refine WC.region ?_
                refine WL.load (v := .agg #[.int .i64 4, .int .i64 0, .int .i64 0, .int .i64 0, .int .i64 0, .int .i64 0, .int .i64 0, .bool false, .int .i64 0, .int .i64 0, .int .i64 0, .int .i64 0, .int .i64 0, .int .i64 (v107 : Int), .slice none 0 0]) (ldN (T := 39) (i := 0) (m := 15) (l := [.int .i64 4, .int .i64 0, .int .i64 0, .int .i64 0, .int .i64 0, .int .i64 0, .int .i64 0, .bool false, .int .i64 0, .int .i64 0, .int .i64 0, .int .i64 0, .int .i64 0, .int .i64 (v107 : Int), .slice none 0 0]) hb114) (k := ?_)
                refine WL.store (v := .agg #[.int .i64 4, .int .i64 0, .int .i64 0, .int .i64 0, .int .i64 0, .int .i64 0, .int .i64 0, .bool false, .int .i64 0, .int .i64 0, .int .i64 0, .int .i64 0, .int .i64 0, .int .i64 (v107 : Int), .slice none 0 0]) (i := 0) (cs' := #[.int .i64 4, .int .i64 0, .int .i64 0, .int .i64 0, .int .i64 0, .int .i64 0, .int .i64 0, .bool false, .int .i64 0, .int .i64 0, .int .i64 0, .int .i64 0, .int .i64 0, .int .i64 (v107 : Int), .slice none 0 0]) hb4 (k := fun w131 hb132 k133 => ?_)
                replace hb114 := k133.heap hb114 (Ne.symm n17)
                replace K := K.trans' k133 (fun i hi e => absurd (e ▸ hi) (Nat.not_lt.2 z6))
                clear hb4
                refine WL.nil ?_
                refine WX.seqN ?_
                refine WC.ret ?_
                refine WX.ret (rs := [.cell 2 39]) [.agg #[.int .i64 4, .int .i64 0, .int .i64 0, .int .i64 0, .int .i64 0, .int .i64 0, .int .i64 0, .bool false, .int .i64 0, .int .i64 0, .int .i64 0, .int .i64 0, .int .i64 0, .int .i64 (v107 : Int), .slice none 0 0]] (.agg #[.int .i64 4, .int .i64 0, .int .i64 0, .int .i64 0, .int .i64 0, .int .i64 0, .int .i64 0, .bool false, .int .i64 0, .int .i64 0, .int .i64 0, .int .i64 0, .int .i64 0, .int .i64 (v107 : Int), .slice none 0 0]) ⟨⟨_, (by kernel_rfl), ldN (T := 39) (i := 0) (m := 15) (l := [.int .i64 4, .int .i64 0, .int .i64 0, .int .i64 0, .int .i64 0, .int .i64 0, .int .i64 0, .bool false, .int .i64 0, .int .i64 0, .int .i64 0, .int .i64 0, .int .i64 0, .int .i64 (v107 : Int), .slice none 0 0]) hb132⟩, trivial⟩ (k := ?_)
                have b_ : bodF v21 t22 = some ((⟨⟨4, (⟨0, ⟨0, 0, 0, 0, 0⟩, false, 0, 0, 0⟩ : GOp), 0, 0, (v107 : Int), []⟩, none, 0⟩ : GCmd).p, t108) := (by simp [bodF, GOp.zero, kRelease, kAsk, kTick, kFail, kQuery, kSnapshot, kStart, kCrash, hq19, hq105, ph27, ph65, ph103])
                rw [cmdF_y hq19 b_ (List.eq_nil_of_length_eq_zero (by omega)) h128]
                exact ⟨K, _, _, rfl, OwAt.nil, (by simp [blk])⟩
              have ph128 := cok_f h128
              refine WL.callGP (f := 49) (args := #[.bool (cokB (⟨⟨4, (⟨0, ⟨0, 0, 0, 0, 0⟩, false, 0, 0, 0⟩ : GOp), 0, 0, (v107 : Int), []⟩, none, 0⟩ : GCmd).p)]) (lnMust_n h128 w126) (by kernel_rfl) (by kernel_rfl) (by kernel_rfl) (fun e_ w134 h_ => ?_)
              obtain ⟨rfl, k135⟩ := h_
              refine ⟨_, rfl, ?_⟩
              replace hb118 := k135.heap hb118 id
              replace hb4 := k135.heap hb4 id
              replace hb114 := k135.heap hb114 id
              replace hs119 := hs119.adds k135
              replace K := K.trans (k135.any _)
              refine WX.seqP ?_
              refine WX.pan ?_
              have b_ : bodF v21 t22 = some ((⟨⟨4, (⟨0, ⟨0, 0, 0, 0, 0⟩, false, 0, 0, 0⟩ : GOp), 0, 0, (v107 : Int), []⟩, none, 0⟩ : GCmd).p, t108) := (by simp [bodF, GOp.zero, kRelease, kAsk, kTick, kFail, kQuery, kSnapshot, kStart, kCrash, hq19, hq105, ph27, ph65, ph103])
              rw [cmdF_n hq19 b_ (fun k => by rw [h128] at k; cases k.2)]
              exact ⟨K, rfl⟩
            have ph125 := ne_of_beq_false h125
            refine WL.rw (t := 52) (v := .bool false) (congrArg Value.bool h125) (k := ?_)
            refine WL.skip (d := 53) (k := ?_)
            refine WL.skip (d := 54) (k := ?_)
            refine WL.op (d := 55) (.bool false) (k := ?_)
            refine WL.callGP (f := 49) (args := #[.bool false]) (lnMust_n rfl w113) (by kernel_rfl) (by kernel_rfl) (by kernel_rfl) (fun e_ w136 h_ => ?_)
            obtain ⟨rfl, k137⟩ := h_
            refine ⟨_, rfl, ?_⟩
            replace hb118 := k137.heap hb118 id
            replace hb4 := k137.heap hb4 id
            replace hb114 := k137.heap hb114 id
            replace hs119 := hs119.adds k137
            replace K := K.trans (k137.any _)
            refine WX.seqP ?_
            refine WX.pan ?_
            have b_ : bodF v21 t22 = some ((⟨⟨4, (⟨0, ⟨0, 0, 0, 0, 0⟩, false, 0, 0, 0⟩ : GOp), 0, 0, (v107 : Int), []⟩, none, 0⟩ : GCmd).p, t108) := (by simp [bodF, GOp.zero, kRelease, kAsk, kTick, kFail, kQuery, kSnapshot, kStart, kCrash, hq19, hq105, ph27, ph65, ph103])
            rw [cmdF_n hq19 b_ (fun k => ph125 (by rw [k.1]; rfl))]
            exact ⟨K, rfl⟩
          have hq138 := isSome_no h104
          refine WL.callGP (f := 46) (args := #[.pointer (some ⟨b, 0, none⟩)]) (RdR.n (lnRint_c hr23) (by rw [hq138]; rfl)) (by kernel_rfl) (by kernel_rfl) (by kernel_rfl) (fun e_ w140 h_ => ?_)
          obtain ⟨rfl, k139⟩ := h_
          refine ⟨_, rfl, ?_⟩
          replace hb4 := k139.heap hb4 (Ne.symm n8)
          replace hb12 := k139.heap hb12 (Ne.symm n16)
          replace K := K.trans' k139 (fun i hi e => e)
          clear hr23
          refine WX.blockP ?_
          refine WX.seqP ?_
          refine WX.pan ?_
          have b_ := (show bodF v21 t22 = none from (by simp [bodF, kRelease, kAsk, kTick, kFail, kQuery, kSnapshot, kStart, kCrash, hq19, hq138, ph27, ph65, ph103]))
          rw [cmdF_b hq19 b_]
          exact ⟨K, rfl⟩
        · have ph103 := of_decide_eq_false h103
          refine WC.seq ?_
          refine WC.region ?_
          refine WL.opE (d := 26) (.bool (ByteArray.toList ⟨(v21).toArray⟩ == ByteArray.toList ⟨([102, 97, 105, 108]).toArray⟩)) (v := .bool (decide (v21 = [102, 97, 105, 108]))) (str_eql _ _) (k := ?_)
          refine WL.op (d := 25) (.bool (decide (v21 = [102, 97, 105, 108]))) (k := ?_)
          refine WL.nil ?_
          refine WX.seqN ?_
          refine WC.cond (b := decide (v21 = [102, 97, 105, 108])) (ht := fun h141 => ?_) (hf := fun h141 => ?_)
          · have ph141 := of_decide_eq_true h141
            refine WC.region ?_
            refine WL.op (d := 27) (.pointer (some ⟨b, 0, none⟩)) (k := ?_)
            refine bsplit (Option.isSome (numF t22)) (fun h142 => ?_) (fun h142 => ?_)
            · obtain ⟨⟨v145, t146⟩, hq143⟩ := isSome_ex h142
              have nl148 := numF_le hq143
              have nl149 := numF_len hq143
              refine WL.callG (d := 28) (f := 46) (args := #[.pointer (some ⟨b, 0, none⟩)]) (RdR.y (lnRint_c hr23) (by rw [hq143]; rfl)) (k := fun e_ w150 h_ => ?_)
              obtain ⟨rfl, hr147, k144⟩ := h_
              refine ⟨_, rfl, ?_⟩
              replace hb4 := k144.heap hb4 (Ne.symm n8)
              replace hb12 := k144.heap hb12 (Ne.symm n16)
              replace K := K.trans' k144 (fun i hi e => e)
              clear hr23
              refine WL.op (d := 29) (.agg #[.int .i64 7, .int .i64 0, .int .i64 0, .int .i64 0, .int .i64 0, .int .i64 0, .int .i64 0, .bool false, .int .i64 0, .int .i64 0, .int .i64 0, .int .i64 0, .int .i64 0, .int .i64 (v145 : Int), .slice none 0 0]) (k := ?_)
              refine WL.store (v := .agg #[.int .i64 7, .int .i64 0, .int .i64 0, .int .i64 0, .int .i64 0, .int .i64 0, .int .i64 0, .bool false, .int .i64 0, .int .i64 0, .int .i64 0, .int .i64 0, .int .i64 0, .int .i64 (v145 : Int), .slice none 0 0]) (i := 0) (cs' := #[.int .i64 7, .int .i64 0, .int .i64 0, .int .i64 0, .int .i64 0, .int .i64 0, .int .i64 0, .bool false, .int .i64 0, .int .i64 0, .int .i64 0, .int .i64 0, .int .i64 0, .int .i64 (v145 : Int), .slice none 0 0]) hb12 (k := fun w151 hb152 k153 => ?_)
              replace hr147 := hr147.keeps k153 (fun i e => e ▸ n15)
              replace hb4 := k153.heap hb4 n17
              replace K := K.trans' k153 (fun i hi e => absurd (e ▸ hi) (Nat.not_lt.2 z14))
              clear hb12
              refine WL.nil ?_
              refine WX.blockN ?_
              refine WX.seqN ?_
              refine WC.seq ?_
              obtain ⟨A154, c155, hb156, hs157, hl158, hc159, hm160, hz161, hx162⟩ := id hr147
              refine WC.region ?_
              refine WL.op (d := 46) (.pointer (some ⟨b, 0, none⟩)) (k := ?_)
              refine WL.op (d := 47) (.pointer (some ⟨b, 0, none⟩)) (k := ?_)
              refine WL.op (d := 48) (.pointer (some ⟨b, 0, none⟩)) (k := ?_)
              refine WL.load (v := .slice A154 t146.length c155) (ld1 (T := 43) (i := 0) hb156) (k := ?_)
              refine WL.op (d := 50) (.int .i64 (t146.length : Int)) (k := ?_)
              refine WL.op (d := 51) (.bool ((t146.length : Int) == 0)) (k := ?_)
              refine WL.op (d := 52) (.bool ((t146.length : Int) == 0)) (k := ?_)
              refine bsplit ((t146.length : Int) == 0) (fun h163 => ?_) (fun h163 => ?_)
              · have ph163 := eq_of_beq h163
                refine WL.rw (t := 52) (v := .bool true) (congrArg Value.bool h163) (k := ?_)
                refine WL.load (v := .agg #[.int .i64 7, .int .i64 0, .int .i64 0, .int .i64 0, .int .i64 0, .int .i64 0, .int .i64 0, .bool false, .int .i64 0, .int .i64 0, .int .i64 0, .int .i64 0, .int .i64 0, .int .i64 (v145 : Int), .slice none 0 0]) (ldN (T := 39) (i := 0) (m := 15) (l := [.int .i64 7, .int .i64 0, .int .i64 0, .int .i64 0, .int .i64 0, .int .i64 0, .int .i64 0, .bool false, .int .i64 0, .int .i64 0, .int .i64 0, .int .i64 0, .int .i64 0, .int .i64 (v145 : Int), .slice none 0 0]) hb152) (k := ?_)
                refine WL.callG (d := 54) (f := 33) (args := #[.agg #[.int .i64 7, .int .i64 0, .int .i64 0, .int .i64 0, .int .i64 0, .int .i64 0, .int .i64 0, .bool false, .int .i64 0, .int .i64 0, .int .i64 0, .int .i64 0, .int .i64 0, .int .i64 (v145 : Int), .slice none 0 0]]) (sCheck_c (c := (⟨⟨7, (⟨0, ⟨0, 0, 0, 0, 0⟩, false, 0, 0, 0⟩ : GOp), 0, 0, (v145 : Int), []⟩, none, 0⟩ : GCmd)) SlAt.nil (by first | omega | (simp; done) | (simp; omega))) (k := fun e_ w164 h_ => ⟨.bool (cokB (⟨⟨7, (⟨0, ⟨0, 0, 0, 0, 0⟩, false, 0, 0, 0⟩ : GOp), 0, 0, (v145 : Int), []⟩, none, 0⟩ : GCmd).p), h_.1, ?_⟩)
                have k165 := h_.2; clear h_
                replace hb156 := k165.heap hb156 id
                replace hb4 := k165.heap hb4 id
                replace hb152 := k165.heap hb152 id
                replace hs157 := hs157.adds k165
                replace K := K.trans (k165.any _)
                refine WL.op (d := 55) (.bool (cokB (⟨⟨7, (⟨0, ⟨0, 0, 0, 0, 0⟩, false, 0, 0, 0⟩ : GOp), 0, 0, (v145 : Int), []⟩, none, 0⟩ : GCmd).p)) (k := ?_)
                refine bsplit (cokB (⟨⟨7, (⟨0, ⟨0, 0, 0, 0, 0⟩, false, 0, 0, 0⟩ : GOp), 0, 0, (v145 : Int), []⟩, none, 0⟩ : GCmd).p) (fun h166 => ?_) (fun h166 => ?_)
                · have ph166 := cok_t h166
                  refine WL.callG (d := 56) (f := 49) (args := #[.bool (cokB (⟨⟨7, (⟨0, ⟨0, 0, 0, 0, 0⟩, false, 0, 0, 0⟩ : GOp), 0, 0, (v145 : Int), []⟩, none, 0⟩ : GCmd).p)]) (lnMust_y h166 w164) (k := fun e_ w167 h_ => ⟨.tuple #[], h_.1, ?_⟩)
                  have k168 := h_.2; clear h_
                  replace hb156 := k168.heap hb156 id
                  replace hb4 := k168.heap hb4 id
                  replace hb152 := k168.heap hb152 id
                  replace hs157 := hs157.adds k168
                  replace K := K.trans (k168.any _)
                  refine WL.nil ?_
                  refine WX.seqN ?_
                  refine WC.seq ?_
                  refine WC.region ?_
                  refine WL.load (v := .agg #[.int .i64 7, .int .i64 0, .int .i64 0, .int .i64 0, .int .i64 0, .int .i64 0, .int .i64 0, .bool false, .int .i64 0, .int .i64 0, .int .i64 0, .int .i64 0, .int .i64 0, .int .i64 (v145 : Int), .slice none 0 0]) (ldN (T := 39) (i := 0) (m := 15) (l := [.int .i64 7, .int .i64 0, .int .i64 0, .int .i64 0, .int .i64 0, .int .i64 0, .int .i64 0, .bool false, .int .i64 0, .int .i64 0, .int .i64 0, .int .i64 0, .int .i64 0, .int .i64 (v145 : Int), .slice none 0 0]) hb152) (k := ?_)
                  refine WL.store (v := .agg #[.int .i64 7, .int .i64 0, .int .i64 0, .int .i64 0, .int .i64 0, .int .i64 0, .int .i64 0, .bool false, .int .i64 0, .int .i64 0, .int .i64 0, .int .i64 0, .int .i64 0, .int .i64 (v145 : Int), .slice none 0 0]) (i := 0) (cs' := #[.int .i64 7, .int .i64 0, .int .i64 0, .int .i64 0, .int .i64 0, .int .i64 0, .int .i64 0, .bool false, .int .i64 0, .int .i64 0, .int .i64 0, .int .i64 0, .int .i64 0, .int .i64 (v145 : Int), .slice none 0 0]) hb4 (k := fun w169 hb170 k171 => ?_)
                  replace hb152 := k171.heap hb152 (Ne.symm n17)
                  replace K := K.trans' k171 (fun i hi e => absurd (e ▸ hi) (Nat.not_lt.2 z6))
                  clear hb4
                  refine WL.nil ?_
                  refine WX.seqN ?_
                  refine WC.ret ?_
                  refine WX.ret (rs := [.cell 2 39]) [.agg #[.int .i64 7, .int .i64 0, .int .i64 0, .int .i64 0, .int .i64 0, .int .i64 0, .int .i64 0, .bool false, .int .i64 0, .int .i64 0, .int .i64 0, .int .i64 0, .int .i64 0, .int .i64 (v145 : Int), .slice none 0 0]] (.agg #[.int .i64 7, .int .i64 0, .int .i64 0, .int .i64 0, .int .i64 0, .int .i64 0, .int .i64 0, .bool false, .int .i64 0, .int .i64 0, .int .i64 0, .int .i64 0, .int .i64 0, .int .i64 (v145 : Int), .slice none 0 0]) ⟨⟨_, (by kernel_rfl), ldN (T := 39) (i := 0) (m := 15) (l := [.int .i64 7, .int .i64 0, .int .i64 0, .int .i64 0, .int .i64 0, .int .i64 0, .int .i64 0, .bool false, .int .i64 0, .int .i64 0, .int .i64 0, .int .i64 0, .int .i64 0, .int .i64 (v145 : Int), .slice none 0 0]) hb170⟩, trivial⟩ (k := ?_)
                  have b_ : bodF v21 t22 = some ((⟨⟨7, (⟨0, ⟨0, 0, 0, 0, 0⟩, false, 0, 0, 0⟩ : GOp), 0, 0, (v145 : Int), []⟩, none, 0⟩ : GCmd).p, t146) := (by simp [bodF, GOp.zero, kRelease, kAsk, kTick, kFail, kQuery, kSnapshot, kStart, kCrash, hq19, hq143, ph27, ph65, ph103, ph141])
                  rw [cmdF_y hq19 b_ (List.eq_nil_of_length_eq_zero (by omega)) h166]
                  exact ⟨K, _, _, rfl, OwAt.nil, (by simp [blk])⟩
                have ph166 := cok_f h166
                refine WL.callGP (f := 49) (args := #[.bool (cokB (⟨⟨7, (⟨0, ⟨0, 0, 0, 0, 0⟩, false, 0, 0, 0⟩ : GOp), 0, 0, (v145 : Int), []⟩, none, 0⟩ : GCmd).p)]) (lnMust_n h166 w164) (by kernel_rfl) (by kernel_rfl) (by kernel_rfl) (fun e_ w172 h_ => ?_)
                obtain ⟨rfl, k173⟩ := h_
                refine ⟨_, rfl, ?_⟩
                replace hb156 := k173.heap hb156 id
                replace hb4 := k173.heap hb4 id
                replace hb152 := k173.heap hb152 id
                replace hs157 := hs157.adds k173
                replace K := K.trans (k173.any _)
                refine WX.seqP ?_
                refine WX.pan ?_
                have b_ : bodF v21 t22 = some ((⟨⟨7, (⟨0, ⟨0, 0, 0, 0, 0⟩, false, 0, 0, 0⟩ : GOp), 0, 0, (v145 : Int), []⟩, none, 0⟩ : GCmd).p, t146) := (by simp [bodF, GOp.zero, kRelease, kAsk, kTick, kFail, kQuery, kSnapshot, kStart, kCrash, hq19, hq143, ph27, ph65, ph103, ph141])
                rw [cmdF_n hq19 b_ (fun k => by rw [h166] at k; cases k.2)]
                exact ⟨K, rfl⟩
              have ph163 := ne_of_beq_false h163
              refine WL.rw (t := 52) (v := .bool false) (congrArg Value.bool h163) (k := ?_)
              refine WL.skip (d := 53) (k := ?_)
              refine WL.skip (d := 54) (k := ?_)
              refine WL.op (d := 55) (.bool false) (k := ?_)
              refine WL.callGP (f := 49) (args := #[.bool false]) (lnMust_n rfl w151) (by kernel_rfl) (by kernel_rfl) (by kernel_rfl) (fun e_ w174 h_ => ?_)
              obtain ⟨rfl, k175⟩ := h_
              refine ⟨_, rfl, ?_⟩
              replace hb156 := k175.heap hb156 id
              replace hb4 := k175.heap hb4 id
              replace hb152 := k175.heap hb152 id
              replace hs157 := hs157.adds k175
              replace K := K.trans (k175.any _)
              refine WX.seqP ?_
              refine WX.pan ?_
              have b_ : bodF v21 t22 = some ((⟨⟨7, (⟨0, ⟨0, 0, 0, 0, 0⟩, false, 0, 0, 0⟩ : GOp), 0, 0, (v145 : Int), []⟩, none, 0⟩ : GCmd).p, t146) := (by simp [bodF, GOp.zero, kRelease, kAsk, kTick, kFail, kQuery, kSnapshot, kStart, kCrash, hq19, hq143, ph27, ph65, ph103, ph141])
              rw [cmdF_n hq19 b_ (fun k => ph163 (by rw [k.1]; rfl))]
              exact ⟨K, rfl⟩
            have hq176 := isSome_no h142
            refine WL.callGP (f := 46) (args := #[.pointer (some ⟨b, 0, none⟩)]) (RdR.n (lnRint_c hr23) (by rw [hq176]; rfl)) (by kernel_rfl) (by kernel_rfl) (by kernel_rfl) (fun e_ w178 h_ => ?_)
            obtain ⟨rfl, k177⟩ := h_
            refine ⟨_, rfl, ?_⟩
            replace hb4 := k177.heap hb4 (Ne.symm n8)
            replace hb12 := k177.heap hb12 (Ne.symm n16)
            replace K := K.trans' k177 (fun i hi e => e)
            clear hr23
            refine WX.blockP ?_
            refine WX.seqP ?_
            refine WX.pan ?_
            have b_ := (show bodF v21 t22 = none from (by simp [bodF, kRelease, kAsk, kTick, kFail, kQuery, kSnapshot, kStart, kCrash, hq19, hq176, ph27, ph65, ph103, ph141]))
            rw [cmdF_b hq19 b_]
            exact ⟨K, rfl⟩
          · have ph141 := of_decide_eq_false h141
            refine WC.seq ?_
            refine WC.region ?_
            refine WL.opE (d := 31) (.bool (ByteArray.toList ⟨(v21).toArray⟩ == ByteArray.toList ⟨([113, 117, 101, 114, 121]).toArray⟩)) (v := .bool (decide (v21 = [113, 117, 101, 114, 121]))) (str_eql _ _) (k := ?_)
            refine WL.op (d := 30) (.bool (decide (v21 = [113, 117, 101, 114, 121]))) (k := ?_)
            refine WL.nil ?_
            refine WX.seqN ?_
            refine WC.cond (b := decide (v21 = [113, 117, 101, 114, 121])) (ht := fun h179 => ?_) (hf := fun h179 => ?_)
            · have ph179 := of_decide_eq_true h179
              refine WC.region ?_
              refine WL.op (d := 32) (.pointer (some ⟨b, 0, none⟩)) (k := ?_)
              refine bsplit (Option.isSome (numF t22)) (fun h180 => ?_) (fun h180 => ?_)
              · obtain ⟨⟨v183, t184⟩, hq181⟩ := isSome_ex h180
                have nl186 := numF_le hq181
                have nl187 := numF_len hq181
                refine WL.callG (d := 33) (f := 46) (args := #[.pointer (some ⟨b, 0, none⟩)]) (RdR.y (lnRint_c hr23) (by rw [hq181]; rfl)) (k := fun e_ w188 h_ => ?_)
                obtain ⟨rfl, hr185, k182⟩ := h_
                refine ⟨_, rfl, ?_⟩
                replace hb4 := k182.heap hb4 (Ne.symm n8)
                replace hb12 := k182.heap hb12 (Ne.symm n16)
                replace K := K.trans' k182 (fun i hi e => e)
                clear hr23
                refine WL.op (d := 34) (.agg #[.int .i64 5, .int .i64 0, .int .i64 0, .int .i64 0, .int .i64 0, .int .i64 0, .int .i64 0, .bool false, .int .i64 0, .int .i64 0, .int .i64 0, .int .i64 (v183 : Int), .int .i64 0, .int .i64 0, .slice none 0 0]) (k := ?_)
                refine WL.store (v := .agg #[.int .i64 5, .int .i64 0, .int .i64 0, .int .i64 0, .int .i64 0, .int .i64 0, .int .i64 0, .bool false, .int .i64 0, .int .i64 0, .int .i64 0, .int .i64 (v183 : Int), .int .i64 0, .int .i64 0, .slice none 0 0]) (i := 0) (cs' := #[.int .i64 5, .int .i64 0, .int .i64 0, .int .i64 0, .int .i64 0, .int .i64 0, .int .i64 0, .bool false, .int .i64 0, .int .i64 0, .int .i64 0, .int .i64 (v183 : Int), .int .i64 0, .int .i64 0, .slice none 0 0]) hb12 (k := fun w189 hb190 k191 => ?_)
                replace hr185 := hr185.keeps k191 (fun i e => e ▸ n15)
                replace hb4 := k191.heap hb4 n17
                replace K := K.trans' k191 (fun i hi e => absurd (e ▸ hi) (Nat.not_lt.2 z14))
                clear hb12
                refine WL.nil ?_
                refine WX.blockN ?_
                refine WX.seqN ?_
                refine WC.seq ?_
                obtain ⟨A192, c193, hb194, hs195, hl196, hc197, hm198, hz199, hx200⟩ := id hr185
                refine WC.region ?_
                refine WL.op (d := 46) (.pointer (some ⟨b, 0, none⟩)) (k := ?_)
                refine WL.op (d := 47) (.pointer (some ⟨b, 0, none⟩)) (k := ?_)
                refine WL.op (d := 48) (.pointer (some ⟨b, 0, none⟩)) (k := ?_)
                refine WL.load (v := .slice A192 t184.length c193) (ld1 (T := 43) (i := 0) hb194) (k := ?_)
                refine WL.op (d := 50) (.int .i64 (t184.length : Int)) (k := ?_)
                refine WL.op (d := 51) (.bool ((t184.length : Int) == 0)) (k := ?_)
                refine WL.op (d := 52) (.bool ((t184.length : Int) == 0)) (k := ?_)
                refine bsplit ((t184.length : Int) == 0) (fun h201 => ?_) (fun h201 => ?_)
                · have ph201 := eq_of_beq h201
                  refine WL.rw (t := 52) (v := .bool true) (congrArg Value.bool h201) (k := ?_)
                  refine WL.load (v := .agg #[.int .i64 5, .int .i64 0, .int .i64 0, .int .i64 0, .int .i64 0, .int .i64 0, .int .i64 0, .bool false, .int .i64 0, .int .i64 0, .int .i64 0, .int .i64 (v183 : Int), .int .i64 0, .int .i64 0, .slice none 0 0]) (ldN (T := 39) (i := 0) (m := 15) (l := [.int .i64 5, .int .i64 0, .int .i64 0, .int .i64 0, .int .i64 0, .int .i64 0, .int .i64 0, .bool false, .int .i64 0, .int .i64 0, .int .i64 0, .int .i64 (v183 : Int), .int .i64 0, .int .i64 0, .slice none 0 0]) hb190) (k := ?_)
                  refine WL.callG (d := 54) (f := 33) (args := #[.agg #[.int .i64 5, .int .i64 0, .int .i64 0, .int .i64 0, .int .i64 0, .int .i64 0, .int .i64 0, .bool false, .int .i64 0, .int .i64 0, .int .i64 0, .int .i64 (v183 : Int), .int .i64 0, .int .i64 0, .slice none 0 0]]) (sCheck_c (c := (⟨⟨5, (⟨0, ⟨0, 0, 0, 0, 0⟩, false, 0, 0, 0⟩ : GOp), (v183 : Int), 0, 0, []⟩, none, 0⟩ : GCmd)) SlAt.nil (by first | omega | (simp; done) | (simp; omega))) (k := fun e_ w202 h_ => ⟨.bool (cokB (⟨⟨5, (⟨0, ⟨0, 0, 0, 0, 0⟩, false, 0, 0, 0⟩ : GOp), (v183 : Int), 0, 0, []⟩, none, 0⟩ : GCmd).p), h_.1, ?_⟩)
                  have k203 := h_.2; clear h_
                  replace hb194 := k203.heap hb194 id
                  replace hb4 := k203.heap hb4 id
                  replace hb190 := k203.heap hb190 id
                  replace hs195 := hs195.adds k203
                  replace K := K.trans (k203.any _)
                  refine WL.op (d := 55) (.bool (cokB (⟨⟨5, (⟨0, ⟨0, 0, 0, 0, 0⟩, false, 0, 0, 0⟩ : GOp), (v183 : Int), 0, 0, []⟩, none, 0⟩ : GCmd).p)) (k := ?_)
                  refine bsplit (cokB (⟨⟨5, (⟨0, ⟨0, 0, 0, 0, 0⟩, false, 0, 0, 0⟩ : GOp), (v183 : Int), 0, 0, []⟩, none, 0⟩ : GCmd).p) (fun h204 => ?_) (fun h204 => ?_)
                  · have ph204 := cok_t h204
                    refine WL.callG (d := 56) (f := 49) (args := #[.bool (cokB (⟨⟨5, (⟨0, ⟨0, 0, 0, 0, 0⟩, false, 0, 0, 0⟩ : GOp), (v183 : Int), 0, 0, []⟩, none, 0⟩ : GCmd).p)]) (lnMust_y h204 w202) (k := fun e_ w205 h_ => ⟨.tuple #[], h_.1, ?_⟩)
                    have k206 := h_.2; clear h_
                    replace hb194 := k206.heap hb194 id
                    replace hb4 := k206.heap hb4 id
                    replace hb190 := k206.heap hb190 id
                    replace hs195 := hs195.adds k206
                    replace K := K.trans (k206.any _)
                    refine WL.nil ?_
                    refine WX.seqN ?_
                    refine WC.seq ?_
                    refine WC.region ?_
                    refine WL.load (v := .agg #[.int .i64 5, .int .i64 0, .int .i64 0, .int .i64 0, .int .i64 0, .int .i64 0, .int .i64 0, .bool false, .int .i64 0, .int .i64 0, .int .i64 0, .int .i64 (v183 : Int), .int .i64 0, .int .i64 0, .slice none 0 0]) (ldN (T := 39) (i := 0) (m := 15) (l := [.int .i64 5, .int .i64 0, .int .i64 0, .int .i64 0, .int .i64 0, .int .i64 0, .int .i64 0, .bool false, .int .i64 0, .int .i64 0, .int .i64 0, .int .i64 (v183 : Int), .int .i64 0, .int .i64 0, .slice none 0 0]) hb190) (k := ?_)
                    refine WL.store (v := .agg #[.int .i64 5, .int .i64 0, .int .i64 0, .int .i64 0, .int .i64 0, .int .i64 0, .int .i64 0, .bool false, .int .i64 0, .int .i64 0, .int .i64 0, .int .i64 (v183 : Int), .int .i64 0, .int .i64 0, .slice none 0 0]) (i := 0) (cs' := #[.int .i64 5, .int .i64 0, .int .i64 0, .int .i64 0, .int .i64 0, .int .i64 0, .int .i64 0, .bool false, .int .i64 0, .int .i64 0, .int .i64 0, .int .i64 (v183 : Int), .int .i64 0, .int .i64 0, .slice none 0 0]) hb4 (k := fun w207 hb208 k209 => ?_)
                    replace hb190 := k209.heap hb190 (Ne.symm n17)
                    replace K := K.trans' k209 (fun i hi e => absurd (e ▸ hi) (Nat.not_lt.2 z6))
                    clear hb4
                    refine WL.nil ?_
                    refine WX.seqN ?_
                    refine WC.ret ?_
                    refine WX.ret (rs := [.cell 2 39]) [.agg #[.int .i64 5, .int .i64 0, .int .i64 0, .int .i64 0, .int .i64 0, .int .i64 0, .int .i64 0, .bool false, .int .i64 0, .int .i64 0, .int .i64 0, .int .i64 (v183 : Int), .int .i64 0, .int .i64 0, .slice none 0 0]] (.agg #[.int .i64 5, .int .i64 0, .int .i64 0, .int .i64 0, .int .i64 0, .int .i64 0, .int .i64 0, .bool false, .int .i64 0, .int .i64 0, .int .i64 0, .int .i64 (v183 : Int), .int .i64 0, .int .i64 0, .slice none 0 0]) ⟨⟨_, (by kernel_rfl), ldN (T := 39) (i := 0) (m := 15) (l := [.int .i64 5, .int .i64 0, .int .i64 0, .int .i64 0, .int .i64 0, .int .i64 0, .int .i64 0, .bool false, .int .i64 0, .int .i64 0, .int .i64 0, .int .i64 (v183 : Int), .int .i64 0, .int .i64 0, .slice none 0 0]) hb208⟩, trivial⟩ (k := ?_)
                    have b_ : bodF v21 t22 = some ((⟨⟨5, (⟨0, ⟨0, 0, 0, 0, 0⟩, false, 0, 0, 0⟩ : GOp), (v183 : Int), 0, 0, []⟩, none, 0⟩ : GCmd).p, t184) := (by simp [bodF, GOp.zero, kRelease, kAsk, kTick, kFail, kQuery, kSnapshot, kStart, kCrash, hq19, hq181, ph27, ph65, ph103, ph141, ph179])
                    rw [cmdF_y hq19 b_ (List.eq_nil_of_length_eq_zero (by omega)) h204]
                    exact ⟨K, _, _, rfl, OwAt.nil, (by simp [blk])⟩
                  have ph204 := cok_f h204
                  refine WL.callGP (f := 49) (args := #[.bool (cokB (⟨⟨5, (⟨0, ⟨0, 0, 0, 0, 0⟩, false, 0, 0, 0⟩ : GOp), (v183 : Int), 0, 0, []⟩, none, 0⟩ : GCmd).p)]) (lnMust_n h204 w202) (by kernel_rfl) (by kernel_rfl) (by kernel_rfl) (fun e_ w210 h_ => ?_)
                  obtain ⟨rfl, k211⟩ := h_
                  refine ⟨_, rfl, ?_⟩
                  replace hb194 := k211.heap hb194 id
                  replace hb4 := k211.heap hb4 id
                  replace hb190 := k211.heap hb190 id
                  replace hs195 := hs195.adds k211
                  replace K := K.trans (k211.any _)
                  refine WX.seqP ?_
                  refine WX.pan ?_
                  have b_ : bodF v21 t22 = some ((⟨⟨5, (⟨0, ⟨0, 0, 0, 0, 0⟩, false, 0, 0, 0⟩ : GOp), (v183 : Int), 0, 0, []⟩, none, 0⟩ : GCmd).p, t184) := (by simp [bodF, GOp.zero, kRelease, kAsk, kTick, kFail, kQuery, kSnapshot, kStart, kCrash, hq19, hq181, ph27, ph65, ph103, ph141, ph179])
                  rw [cmdF_n hq19 b_ (fun k => by rw [h204] at k; cases k.2)]
                  exact ⟨K, rfl⟩
                have ph201 := ne_of_beq_false h201
                refine WL.rw (t := 52) (v := .bool false) (congrArg Value.bool h201) (k := ?_)
                refine WL.skip (d := 53) (k := ?_)
                refine WL.skip (d := 54) (k := ?_)
                refine WL.op (d := 55) (.bool false) (k := ?_)
                refine WL.callGP (f := 49) (args := #[.bool false]) (lnMust_n rfl w189) (by kernel_rfl) (by kernel_rfl) (by kernel_rfl) (fun e_ w212 h_ => ?_)
                obtain ⟨rfl, k213⟩ := h_
                refine ⟨_, rfl, ?_⟩
                replace hb194 := k213.heap hb194 id
                replace hb4 := k213.heap hb4 id
                replace hb190 := k213.heap hb190 id
                replace hs195 := hs195.adds k213
                replace K := K.trans (k213.any _)
                refine WX.seqP ?_
                refine WX.pan ?_
                have b_ : bodF v21 t22 = some ((⟨⟨5, (⟨0, ⟨0, 0, 0, 0, 0⟩, false, 0, 0, 0⟩ : GOp), (v183 : Int), 0, 0, []⟩, none, 0⟩ : GCmd).p, t184) := (by simp [bodF, GOp.zero, kRelease, kAsk, kTick, kFail, kQuery, kSnapshot, kStart, kCrash, hq19, hq181, ph27, ph65, ph103, ph141, ph179])
                rw [cmdF_n hq19 b_ (fun k => ph201 (by rw [k.1]; rfl))]
                exact ⟨K, rfl⟩
              have hq214 := isSome_no h180
              refine WL.callGP (f := 46) (args := #[.pointer (some ⟨b, 0, none⟩)]) (RdR.n (lnRint_c hr23) (by rw [hq214]; rfl)) (by kernel_rfl) (by kernel_rfl) (by kernel_rfl) (fun e_ w216 h_ => ?_)
              obtain ⟨rfl, k215⟩ := h_
              refine ⟨_, rfl, ?_⟩
              replace hb4 := k215.heap hb4 (Ne.symm n8)
              replace hb12 := k215.heap hb12 (Ne.symm n16)
              replace K := K.trans' k215 (fun i hi e => e)
              clear hr23
              refine WX.blockP ?_
              refine WX.seqP ?_
              refine WX.pan ?_
              have b_ := (show bodF v21 t22 = none from (by simp [bodF, kRelease, kAsk, kTick, kFail, kQuery, kSnapshot, kStart, kCrash, hq19, hq214, ph27, ph65, ph103, ph141, ph179]))
              rw [cmdF_b hq19 b_]
              exact ⟨K, rfl⟩
            · have ph179 := of_decide_eq_false h179
              refine WC.seq ?_
              refine WC.region ?_
              refine WL.opE (d := 36) (.bool (ByteArray.toList ⟨(v21).toArray⟩ == ByteArray.toList ⟨([115, 110, 97, 112, 115, 104, 111, 116]).toArray⟩)) (v := .bool (decide (v21 = [115, 110, 97, 112, 115, 104, 111, 116]))) (str_eql _ _) (k := ?_)
              refine WL.op (d := 35) (.bool (decide (v21 = [115, 110, 97, 112, 115, 104, 111, 116]))) (k := ?_)
              refine WL.nil ?_
              refine WX.seqN ?_
              refine WC.cond (b := decide (v21 = [115, 110, 97, 112, 115, 104, 111, 116])) (ht := fun h217 => ?_) (hf := fun h217 => ?_)
              · have ph217 := of_decide_eq_true h217
                refine WC.region ?_
                refine WL.op (d := 37) (.agg #[.int .i64 6, .int .i64 0, .int .i64 0, .int .i64 0, .int .i64 0, .int .i64 0, .int .i64 0, .bool false, .int .i64 0, .int .i64 0, .int .i64 0, .int .i64 0, .int .i64 0, .int .i64 0, .slice none 0 0]) (k := ?_)
                refine WL.store (v := .agg #[.int .i64 6, .int .i64 0, .int .i64 0, .int .i64 0, .int .i64 0, .int .i64 0, .int .i64 0, .bool false, .int .i64 0, .int .i64 0, .int .i64 0, .int .i64 0, .int .i64 0, .int .i64 0, .slice none 0 0]) (i := 0) (cs' := #[.int .i64 6, .int .i64 0, .int .i64 0, .int .i64 0, .int .i64 0, .int .i64 0, .int .i64 0, .bool false, .int .i64 0, .int .i64 0, .int .i64 0, .int .i64 0, .int .i64 0, .int .i64 0, .slice none 0 0]) hb12 (k := fun w218 hb219 k220 => ?_)
                replace hr23 := hr23.keeps k220 (fun i e => e ▸ n15)
                replace hb4 := k220.heap hb4 n17
                replace K := K.trans' k220 (fun i hi e => absurd (e ▸ hi) (Nat.not_lt.2 z14))
                clear hb12
                refine WL.nil ?_
                refine WX.blockN ?_
                refine WX.seqN ?_
                refine WC.seq ?_
                obtain ⟨A221, c222, hb223, hs224, hl225, hc226, hm227, hz228, hx229⟩ := id hr23
                refine WC.region ?_
                refine WL.op (d := 46) (.pointer (some ⟨b, 0, none⟩)) (k := ?_)
                refine WL.op (d := 47) (.pointer (some ⟨b, 0, none⟩)) (k := ?_)
                refine WL.op (d := 48) (.pointer (some ⟨b, 0, none⟩)) (k := ?_)
                refine WL.load (v := .slice A221 t22.length c222) (ld1 (T := 43) (i := 0) hb223) (k := ?_)
                refine WL.op (d := 50) (.int .i64 (t22.length : Int)) (k := ?_)
                refine WL.op (d := 51) (.bool ((t22.length : Int) == 0)) (k := ?_)
                refine WL.op (d := 52) (.bool ((t22.length : Int) == 0)) (k := ?_)
                refine bsplit ((t22.length : Int) == 0) (fun h230 => ?_) (fun h230 => ?_)
                · have ph230 := eq_of_beq h230
                  refine WL.rw (t := 52) (v := .bool true) (congrArg Value.bool h230) (k := ?_)
                  refine WL.load (v := .agg #[.int .i64 6, .int .i64 0, .int .i64 0, .int .i64 0, .int .i64 0, .int .i64 0, .int .i64 0, .bool false, .int .i64 0, .int .i64 0, .int .i64 0, .int .i64 0, .int .i64 0, .int .i64 0, .slice none 0 0]) (ldN (T := 39) (i := 0) (m := 15) (l := [.int .i64 6, .int .i64 0, .int .i64 0, .int .i64 0, .int .i64 0, .int .i64 0, .int .i64 0, .bool false, .int .i64 0, .int .i64 0, .int .i64 0, .int .i64 0, .int .i64 0, .int .i64 0, .slice none 0 0]) hb219) (k := ?_)
                  refine WL.callG (d := 54) (f := 33) (args := #[.agg #[.int .i64 6, .int .i64 0, .int .i64 0, .int .i64 0, .int .i64 0, .int .i64 0, .int .i64 0, .bool false, .int .i64 0, .int .i64 0, .int .i64 0, .int .i64 0, .int .i64 0, .int .i64 0, .slice none 0 0]]) (sCheck_c (c := (⟨⟨6, (⟨0, ⟨0, 0, 0, 0, 0⟩, false, 0, 0, 0⟩ : GOp), 0, 0, 0, []⟩, none, 0⟩ : GCmd)) SlAt.nil (by first | omega | (simp; done) | (simp; omega))) (k := fun e_ w231 h_ => ⟨.bool (cokB (⟨⟨6, (⟨0, ⟨0, 0, 0, 0, 0⟩, false, 0, 0, 0⟩ : GOp), 0, 0, 0, []⟩, none, 0⟩ : GCmd).p), h_.1, ?_⟩)
                  have k232 := h_.2; clear h_
                  replace hb223 := k232.heap hb223 id
                  replace hb4 := k232.heap hb4 id
                  replace hb219 := k232.heap hb219 id
                  replace hs224 := hs224.adds k232
                  replace K := K.trans (k232.any _)
                  refine WL.op (d := 55) (.bool (cokB (⟨⟨6, (⟨0, ⟨0, 0, 0, 0, 0⟩, false, 0, 0, 0⟩ : GOp), 0, 0, 0, []⟩, none, 0⟩ : GCmd).p)) (k := ?_)
                  refine bsplit (cokB (⟨⟨6, (⟨0, ⟨0, 0, 0, 0, 0⟩, false, 0, 0, 0⟩ : GOp), 0, 0, 0, []⟩, none, 0⟩ : GCmd).p) (fun h233 => ?_) (fun h233 => ?_)
                  · have ph233 := cok_t h233
                    refine WL.callG (d := 56) (f := 49) (args := #[.bool (cokB (⟨⟨6, (⟨0, ⟨0, 0, 0, 0, 0⟩, false, 0, 0, 0⟩ : GOp), 0, 0, 0, []⟩, none, 0⟩ : GCmd).p)]) (lnMust_y h233 w231) (k := fun e_ w234 h_ => ⟨.tuple #[], h_.1, ?_⟩)
                    have k235 := h_.2; clear h_
                    replace hb223 := k235.heap hb223 id
                    replace hb4 := k235.heap hb4 id
                    replace hb219 := k235.heap hb219 id
                    replace hs224 := hs224.adds k235
                    replace K := K.trans (k235.any _)
                    refine WL.nil ?_
                    refine WX.seqN ?_
                    refine WC.seq ?_
                    refine WC.region ?_
                    refine WL.load (v := .agg #[.int .i64 6, .int .i64 0, .int .i64 0, .int .i64 0, .int .i64 0, .int .i64 0, .int .i64 0, .bool false, .int .i64 0, .int .i64 0, .int .i64 0, .int .i64 0, .int .i64 0, .int .i64 0, .slice none 0 0]) (ldN (T := 39) (i := 0) (m := 15) (l := [.int .i64 6, .int .i64 0, .int .i64 0, .int .i64 0, .int .i64 0, .int .i64 0, .int .i64 0, .bool false, .int .i64 0, .int .i64 0, .int .i64 0, .int .i64 0, .int .i64 0, .int .i64 0, .slice none 0 0]) hb219) (k := ?_)
                    refine WL.store (v := .agg #[.int .i64 6, .int .i64 0, .int .i64 0, .int .i64 0, .int .i64 0, .int .i64 0, .int .i64 0, .bool false, .int .i64 0, .int .i64 0, .int .i64 0, .int .i64 0, .int .i64 0, .int .i64 0, .slice none 0 0]) (i := 0) (cs' := #[.int .i64 6, .int .i64 0, .int .i64 0, .int .i64 0, .int .i64 0, .int .i64 0, .int .i64 0, .bool false, .int .i64 0, .int .i64 0, .int .i64 0, .int .i64 0, .int .i64 0, .int .i64 0, .slice none 0 0]) hb4 (k := fun w236 hb237 k238 => ?_)
                    replace hb219 := k238.heap hb219 (Ne.symm n17)
                    replace K := K.trans' k238 (fun i hi e => absurd (e ▸ hi) (Nat.not_lt.2 z6))
                    clear hb4
                    refine WL.nil ?_
                    refine WX.seqN ?_
                    refine WC.ret ?_
                    refine WX.ret (rs := [.cell 2 39]) [.agg #[.int .i64 6, .int .i64 0, .int .i64 0, .int .i64 0, .int .i64 0, .int .i64 0, .int .i64 0, .bool false, .int .i64 0, .int .i64 0, .int .i64 0, .int .i64 0, .int .i64 0, .int .i64 0, .slice none 0 0]] (.agg #[.int .i64 6, .int .i64 0, .int .i64 0, .int .i64 0, .int .i64 0, .int .i64 0, .int .i64 0, .bool false, .int .i64 0, .int .i64 0, .int .i64 0, .int .i64 0, .int .i64 0, .int .i64 0, .slice none 0 0]) ⟨⟨_, (by kernel_rfl), ldN (T := 39) (i := 0) (m := 15) (l := [.int .i64 6, .int .i64 0, .int .i64 0, .int .i64 0, .int .i64 0, .int .i64 0, .int .i64 0, .bool false, .int .i64 0, .int .i64 0, .int .i64 0, .int .i64 0, .int .i64 0, .int .i64 0, .slice none 0 0]) hb237⟩, trivial⟩ (k := ?_)
                    have b_ : bodF v21 t22 = some ((⟨⟨6, (⟨0, ⟨0, 0, 0, 0, 0⟩, false, 0, 0, 0⟩ : GOp), 0, 0, 0, []⟩, none, 0⟩ : GCmd).p, t22) := (by simp [bodF, GOp.zero, kRelease, kAsk, kTick, kFail, kQuery, kSnapshot, kStart, kCrash, hq19, ph27, ph65, ph103, ph141, ph179, ph217])
                    rw [cmdF_y hq19 b_ (List.eq_nil_of_length_eq_zero (by omega)) h233]
                    exact ⟨K, _, _, rfl, OwAt.nil, (by simp [blk])⟩
                  have ph233 := cok_f h233
                  refine WL.callGP (f := 49) (args := #[.bool (cokB (⟨⟨6, (⟨0, ⟨0, 0, 0, 0, 0⟩, false, 0, 0, 0⟩ : GOp), 0, 0, 0, []⟩, none, 0⟩ : GCmd).p)]) (lnMust_n h233 w231) (by kernel_rfl) (by kernel_rfl) (by kernel_rfl) (fun e_ w239 h_ => ?_)
                  obtain ⟨rfl, k240⟩ := h_
                  refine ⟨_, rfl, ?_⟩
                  replace hb223 := k240.heap hb223 id
                  replace hb4 := k240.heap hb4 id
                  replace hb219 := k240.heap hb219 id
                  replace hs224 := hs224.adds k240
                  replace K := K.trans (k240.any _)
                  refine WX.seqP ?_
                  refine WX.pan ?_
                  have b_ : bodF v21 t22 = some ((⟨⟨6, (⟨0, ⟨0, 0, 0, 0, 0⟩, false, 0, 0, 0⟩ : GOp), 0, 0, 0, []⟩, none, 0⟩ : GCmd).p, t22) := (by simp [bodF, GOp.zero, kRelease, kAsk, kTick, kFail, kQuery, kSnapshot, kStart, kCrash, hq19, ph27, ph65, ph103, ph141, ph179, ph217])
                  rw [cmdF_n hq19 b_ (fun k => by rw [h233] at k; cases k.2)]
                  exact ⟨K, rfl⟩
                have ph230 := ne_of_beq_false h230
                refine WL.rw (t := 52) (v := .bool false) (congrArg Value.bool h230) (k := ?_)
                refine WL.skip (d := 53) (k := ?_)
                refine WL.skip (d := 54) (k := ?_)
                refine WL.op (d := 55) (.bool false) (k := ?_)
                refine WL.callGP (f := 49) (args := #[.bool false]) (lnMust_n rfl w218) (by kernel_rfl) (by kernel_rfl) (by kernel_rfl) (fun e_ w241 h_ => ?_)
                obtain ⟨rfl, k242⟩ := h_
                refine ⟨_, rfl, ?_⟩
                replace hb223 := k242.heap hb223 id
                replace hb4 := k242.heap hb4 id
                replace hb219 := k242.heap hb219 id
                replace hs224 := hs224.adds k242
                replace K := K.trans (k242.any _)
                refine WX.seqP ?_
                refine WX.pan ?_
                have b_ : bodF v21 t22 = some ((⟨⟨6, (⟨0, ⟨0, 0, 0, 0, 0⟩, false, 0, 0, 0⟩ : GOp), 0, 0, 0, []⟩, none, 0⟩ : GCmd).p, t22) := (by simp [bodF, GOp.zero, kRelease, kAsk, kTick, kFail, kQuery, kSnapshot, kStart, kCrash, hq19, ph27, ph65, ph103, ph141, ph179, ph217])
                rw [cmdF_n hq19 b_ (fun k => ph230 (by rw [k.1]; rfl))]
                exact ⟨K, rfl⟩
              · have ph217 := of_decide_eq_false h217
                refine WC.seq ?_
                refine WC.region ?_
                refine WL.opE (d := 39) (.bool (ByteArray.toList ⟨(v21).toArray⟩ == ByteArray.toList ⟨([115, 116, 97, 114, 116]).toArray⟩)) (v := .bool (decide (v21 = [115, 116, 97, 114, 116]))) (str_eql _ _) (k := ?_)
                refine WL.op (d := 38) (.bool (decide (v21 = [115, 116, 97, 114, 116]))) (k := ?_)
                refine WL.nil ?_
                refine WX.seqN ?_
                refine WC.cond (b := decide (v21 = [115, 116, 97, 114, 116])) (ht := fun h243 => ?_) (hf := fun h243 => ?_)
                · have ph243 := of_decide_eq_true h243
                  refine WC.region ?_
                  refine WL.op (d := 40) (.agg #[.int .i64 9, .int .i64 0, .int .i64 0, .int .i64 0, .int .i64 0, .int .i64 0, .int .i64 0, .bool false, .int .i64 0, .int .i64 0, .int .i64 0, .int .i64 0, .int .i64 0, .int .i64 0, .slice none 0 0]) (k := ?_)
                  refine WL.store (v := .agg #[.int .i64 9, .int .i64 0, .int .i64 0, .int .i64 0, .int .i64 0, .int .i64 0, .int .i64 0, .bool false, .int .i64 0, .int .i64 0, .int .i64 0, .int .i64 0, .int .i64 0, .int .i64 0, .slice none 0 0]) (i := 0) (cs' := #[.int .i64 9, .int .i64 0, .int .i64 0, .int .i64 0, .int .i64 0, .int .i64 0, .int .i64 0, .bool false, .int .i64 0, .int .i64 0, .int .i64 0, .int .i64 0, .int .i64 0, .int .i64 0, .slice none 0 0]) hb12 (k := fun w244 hb245 k246 => ?_)
                  replace hr23 := hr23.keeps k246 (fun i e => e ▸ n15)
                  replace hb4 := k246.heap hb4 n17
                  replace K := K.trans' k246 (fun i hi e => absurd (e ▸ hi) (Nat.not_lt.2 z14))
                  clear hb12
                  refine WL.nil ?_
                  refine WX.blockN ?_
                  refine WX.seqN ?_
                  refine WC.seq ?_
                  obtain ⟨A247, c248, hb249, hs250, hl251, hc252, hm253, hz254, hx255⟩ := id hr23
                  refine WC.region ?_
                  refine WL.op (d := 46) (.pointer (some ⟨b, 0, none⟩)) (k := ?_)
                  refine WL.op (d := 47) (.pointer (some ⟨b, 0, none⟩)) (k := ?_)
                  refine WL.op (d := 48) (.pointer (some ⟨b, 0, none⟩)) (k := ?_)
                  refine WL.load (v := .slice A247 t22.length c248) (ld1 (T := 43) (i := 0) hb249) (k := ?_)
                  refine WL.op (d := 50) (.int .i64 (t22.length : Int)) (k := ?_)
                  refine WL.op (d := 51) (.bool ((t22.length : Int) == 0)) (k := ?_)
                  refine WL.op (d := 52) (.bool ((t22.length : Int) == 0)) (k := ?_)
                  refine bsplit ((t22.length : Int) == 0) (fun h256 => ?_) (fun h256 => ?_)
                  · have ph256 := eq_of_beq h256
                    refine WL.rw (t := 52) (v := .bool true) (congrArg Value.bool h256) (k := ?_)
                    refine WL.load (v := .agg #[.int .i64 9, .int .i64 0, .int .i64 0, .int .i64 0, .int .i64 0, .int .i64 0, .int .i64 0, .bool false, .int .i64 0, .int .i64 0, .int .i64 0, .int .i64 0, .int .i64 0, .int .i64 0, .slice none 0 0]) (ldN (T := 39) (i := 0) (m := 15) (l := [.int .i64 9, .int .i64 0, .int .i64 0, .int .i64 0, .int .i64 0, .int .i64 0, .int .i64 0, .bool false, .int .i64 0, .int .i64 0, .int .i64 0, .int .i64 0, .int .i64 0, .int .i64 0, .slice none 0 0]) hb245) (k := ?_)
                    refine WL.callG (d := 54) (f := 33) (args := #[.agg #[.int .i64 9, .int .i64 0, .int .i64 0, .int .i64 0, .int .i64 0, .int .i64 0, .int .i64 0, .bool false, .int .i64 0, .int .i64 0, .int .i64 0, .int .i64 0, .int .i64 0, .int .i64 0, .slice none 0 0]]) (sCheck_c (c := (⟨⟨9, (⟨0, ⟨0, 0, 0, 0, 0⟩, false, 0, 0, 0⟩ : GOp), 0, 0, 0, []⟩, none, 0⟩ : GCmd)) SlAt.nil (by first | omega | (simp; done) | (simp; omega))) (k := fun e_ w257 h_ => ⟨.bool (cokB (⟨⟨9, (⟨0, ⟨0, 0, 0, 0, 0⟩, false, 0, 0, 0⟩ : GOp), 0, 0, 0, []⟩, none, 0⟩ : GCmd).p), h_.1, ?_⟩)
                    have k258 := h_.2; clear h_
                    replace hb249 := k258.heap hb249 id
                    replace hb4 := k258.heap hb4 id
                    replace hb245 := k258.heap hb245 id
                    replace hs250 := hs250.adds k258
                    replace K := K.trans (k258.any _)
                    refine WL.op (d := 55) (.bool (cokB (⟨⟨9, (⟨0, ⟨0, 0, 0, 0, 0⟩, false, 0, 0, 0⟩ : GOp), 0, 0, 0, []⟩, none, 0⟩ : GCmd).p)) (k := ?_)
                    refine bsplit (cokB (⟨⟨9, (⟨0, ⟨0, 0, 0, 0, 0⟩, false, 0, 0, 0⟩ : GOp), 0, 0, 0, []⟩, none, 0⟩ : GCmd).p) (fun h259 => ?_) (fun h259 => ?_)
                    · have ph259 := cok_t h259
                      refine WL.callG (d := 56) (f := 49) (args := #[.bool (cokB (⟨⟨9, (⟨0, ⟨0, 0, 0, 0, 0⟩, false, 0, 0, 0⟩ : GOp), 0, 0, 0, []⟩, none, 0⟩ : GCmd).p)]) (lnMust_y h259 w257) (k := fun e_ w260 h_ => ⟨.tuple #[], h_.1, ?_⟩)
                      have k261 := h_.2; clear h_
                      replace hb249 := k261.heap hb249 id
                      replace hb4 := k261.heap hb4 id
                      replace hb245 := k261.heap hb245 id
                      replace hs250 := hs250.adds k261
                      replace K := K.trans (k261.any _)
                      refine WL.nil ?_
                      refine WX.seqN ?_
                      refine WC.seq ?_
                      refine WC.region ?_
                      refine WL.load (v := .agg #[.int .i64 9, .int .i64 0, .int .i64 0, .int .i64 0, .int .i64 0, .int .i64 0, .int .i64 0, .bool false, .int .i64 0, .int .i64 0, .int .i64 0, .int .i64 0, .int .i64 0, .int .i64 0, .slice none 0 0]) (ldN (T := 39) (i := 0) (m := 15) (l := [.int .i64 9, .int .i64 0, .int .i64 0, .int .i64 0, .int .i64 0, .int .i64 0, .int .i64 0, .bool false, .int .i64 0, .int .i64 0, .int .i64 0, .int .i64 0, .int .i64 0, .int .i64 0, .slice none 0 0]) hb245) (k := ?_)
                      refine WL.store (v := .agg #[.int .i64 9, .int .i64 0, .int .i64 0, .int .i64 0, .int .i64 0, .int .i64 0, .int .i64 0, .bool false, .int .i64 0, .int .i64 0, .int .i64 0, .int .i64 0, .int .i64 0, .int .i64 0, .slice none 0 0]) (i := 0) (cs' := #[.int .i64 9, .int .i64 0, .int .i64 0, .int .i64 0, .int .i64 0, .int .i64 0, .int .i64 0, .bool false, .int .i64 0, .int .i64 0, .int .i64 0, .int .i64 0, .int .i64 0, .int .i64 0, .slice none 0 0]) hb4 (k := fun w262 hb263 k264 => ?_)
                      replace hb245 := k264.heap hb245 (Ne.symm n17)
                      replace K := K.trans' k264 (fun i hi e => absurd (e ▸ hi) (Nat.not_lt.2 z6))
                      clear hb4
                      refine WL.nil ?_
                      refine WX.seqN ?_
                      refine WC.ret ?_
                      refine WX.ret (rs := [.cell 2 39]) [.agg #[.int .i64 9, .int .i64 0, .int .i64 0, .int .i64 0, .int .i64 0, .int .i64 0, .int .i64 0, .bool false, .int .i64 0, .int .i64 0, .int .i64 0, .int .i64 0, .int .i64 0, .int .i64 0, .slice none 0 0]] (.agg #[.int .i64 9, .int .i64 0, .int .i64 0, .int .i64 0, .int .i64 0, .int .i64 0, .int .i64 0, .bool false, .int .i64 0, .int .i64 0, .int .i64 0, .int .i64 0, .int .i64 0, .int .i64 0, .slice none 0 0]) ⟨⟨_, (by kernel_rfl), ldN (T := 39) (i := 0) (m := 15) (l := [.int .i64 9, .int .i64 0, .int .i64 0, .int .i64 0, .int .i64 0, .int .i64 0, .int .i64 0, .bool false, .int .i64 0, .int .i64 0, .int .i64 0, .int .i64 0, .int .i64 0, .int .i64 0, .slice none 0 0]) hb263⟩, trivial⟩ (k := ?_)
                      have b_ : bodF v21 t22 = some ((⟨⟨9, (⟨0, ⟨0, 0, 0, 0, 0⟩, false, 0, 0, 0⟩ : GOp), 0, 0, 0, []⟩, none, 0⟩ : GCmd).p, t22) := (by simp [bodF, GOp.zero, kRelease, kAsk, kTick, kFail, kQuery, kSnapshot, kStart, kCrash, hq19, ph27, ph65, ph103, ph141, ph179, ph217, ph243])
                      rw [cmdF_y hq19 b_ (List.eq_nil_of_length_eq_zero (by omega)) h259]
                      exact ⟨K, _, _, rfl, OwAt.nil, (by simp [blk])⟩
                    have ph259 := cok_f h259
                    refine WL.callGP (f := 49) (args := #[.bool (cokB (⟨⟨9, (⟨0, ⟨0, 0, 0, 0, 0⟩, false, 0, 0, 0⟩ : GOp), 0, 0, 0, []⟩, none, 0⟩ : GCmd).p)]) (lnMust_n h259 w257) (by kernel_rfl) (by kernel_rfl) (by kernel_rfl) (fun e_ w265 h_ => ?_)
                    obtain ⟨rfl, k266⟩ := h_
                    refine ⟨_, rfl, ?_⟩
                    replace hb249 := k266.heap hb249 id
                    replace hb4 := k266.heap hb4 id
                    replace hb245 := k266.heap hb245 id
                    replace hs250 := hs250.adds k266
                    replace K := K.trans (k266.any _)
                    refine WX.seqP ?_
                    refine WX.pan ?_
                    have b_ : bodF v21 t22 = some ((⟨⟨9, (⟨0, ⟨0, 0, 0, 0, 0⟩, false, 0, 0, 0⟩ : GOp), 0, 0, 0, []⟩, none, 0⟩ : GCmd).p, t22) := (by simp [bodF, GOp.zero, kRelease, kAsk, kTick, kFail, kQuery, kSnapshot, kStart, kCrash, hq19, ph27, ph65, ph103, ph141, ph179, ph217, ph243])
                    rw [cmdF_n hq19 b_ (fun k => by rw [h259] at k; cases k.2)]
                    exact ⟨K, rfl⟩
                  have ph256 := ne_of_beq_false h256
                  refine WL.rw (t := 52) (v := .bool false) (congrArg Value.bool h256) (k := ?_)
                  refine WL.skip (d := 53) (k := ?_)
                  refine WL.skip (d := 54) (k := ?_)
                  refine WL.op (d := 55) (.bool false) (k := ?_)
                  refine WL.callGP (f := 49) (args := #[.bool false]) (lnMust_n rfl w244) (by kernel_rfl) (by kernel_rfl) (by kernel_rfl) (fun e_ w267 h_ => ?_)
                  obtain ⟨rfl, k268⟩ := h_
                  refine ⟨_, rfl, ?_⟩
                  replace hb249 := k268.heap hb249 id
                  replace hb4 := k268.heap hb4 id
                  replace hb245 := k268.heap hb245 id
                  replace hs250 := hs250.adds k268
                  replace K := K.trans (k268.any _)
                  refine WX.seqP ?_
                  refine WX.pan ?_
                  have b_ : bodF v21 t22 = some ((⟨⟨9, (⟨0, ⟨0, 0, 0, 0, 0⟩, false, 0, 0, 0⟩ : GOp), 0, 0, 0, []⟩, none, 0⟩ : GCmd).p, t22) := (by simp [bodF, GOp.zero, kRelease, kAsk, kTick, kFail, kQuery, kSnapshot, kStart, kCrash, hq19, ph27, ph65, ph103, ph141, ph179, ph217, ph243])
                  rw [cmdF_n hq19 b_ (fun k => ph256 (by rw [k.1]; rfl))]
                  exact ⟨K, rfl⟩
                · have ph243 := of_decide_eq_false h243
                  refine WC.seq ?_
                  refine WC.region ?_
                  refine WL.opE (d := 42) (.bool (ByteArray.toList ⟨(v21).toArray⟩ == ByteArray.toList ⟨([99, 114, 97, 115, 104]).toArray⟩)) (v := .bool (decide (v21 = [99, 114, 97, 115, 104]))) (str_eql _ _) (k := ?_)
                  refine WL.op (d := 41) (.bool (decide (v21 = [99, 114, 97, 115, 104]))) (k := ?_)
                  refine WL.nil ?_
                  refine WX.seqN ?_
                  refine WC.cond (b := decide (v21 = [99, 114, 97, 115, 104])) (ht := fun h269 => ?_) (hf := fun h269 => ?_)
                  · have ph269 := of_decide_eq_true h269
                    refine WC.region ?_
                    refine WL.op (d := 43) (.pointer (some ⟨b, 0, none⟩)) (k := ?_)
                    refine bsplit (Option.isSome (fatF t22)) (fun h270 => ?_) (fun h270 => ?_)
                    · obtain ⟨v273, hq271⟩ := isSome_ex h270
                      have fl274 := fatF_len hq271
                      refine WL.callG (d := 44) (f := 47) (args := #[.pointer (some ⟨b, 0, none⟩)]) (FatR.y (lnRfates_c hr23) hq271) (k := fun e_ w275 h_ => ?_)
                      obtain ⟨A276, c277, rfl, ho278, ol279, hr280, k272⟩ := h_
                      refine ⟨_, rfl, ?_⟩
                      have ol281 := fun i h => Nat.le_trans K.size (ol279 i h)
                      replace hb4 := k272.heap hb4 (Ne.symm n8)
                      replace hb12 := k272.heap hb12 (Ne.symm n16)
                      replace K := K.trans' k272 (fun i hi e => e)
                      clear hr23 ol279
                      refine WL.op (d := 45) (.agg #[.int .i64 8, .int .i64 0, .int .i64 0, .int .i64 0, .int .i64 0, .int .i64 0, .int .i64 0, .bool false, .int .i64 0, .int .i64 0, .int .i64 0, .int .i64 0, .int .i64 0, .int .i64 0, .slice A276 ((v273).length) c277]) (k := ?_)
                      refine WL.store (v := .agg #[.int .i64 8, .int .i64 0, .int .i64 0, .int .i64 0, .int .i64 0, .int .i64 0, .int .i64 0, .bool false, .int .i64 0, .int .i64 0, .int .i64 0, .int .i64 0, .int .i64 0, .int .i64 0, .slice A276 ((v273).length) c277]) (i := 0) (cs' := #[.int .i64 8, .int .i64 0, .int .i64 0, .int .i64 0, .int .i64 0, .int .i64 0, .int .i64 0, .bool false, .int .i64 0, .int .i64 0, .int .i64 0, .int .i64 0, .int .i64 0, .int .i64 0, .slice A276 ((v273).length) c277]) hb12 (k := fun w282 hb283 k284 => ?_)
                      replace hr280 := hr280.keeps k284 (fun i e => e ▸ n15)
                      replace hb4 := k284.heap hb4 n17
                      replace ho278 := ho278.keeps k284 (fun i hi e => (ho278.offT hb12 (by decide)) (e ▸ hi))
                      replace K := K.trans' k284 (fun i hi e => absurd (e ▸ hi) (Nat.not_lt.2 z14))
                      clear hb12
                      refine WL.nil ?_
                      refine WX.blockN ?_
                      refine WX.seqN ?_
                      refine WC.seq ?_
                      obtain ⟨A285, c286, hb287, hs288, hl289, hc290, hm291, hz292, hx293⟩ := id hr280
                      refine WC.region ?_
                      refine WL.op (d := 46) (.pointer (some ⟨b, 0, none⟩)) (k := ?_)
                      refine WL.op (d := 47) (.pointer (some ⟨b, 0, none⟩)) (k := ?_)
                      refine WL.op (d := 48) (.pointer (some ⟨b, 0, none⟩)) (k := ?_)
                      refine WL.load (v := .slice A285 (([] : Words).length) c286) (ld1 (T := 43) (i := 0) hb287) (k := ?_)
                      refine WL.op (d := 50) (.int .i64 (([] : Words).length : Int)) (k := ?_)
                      refine WL.op (d := 51) (.bool ((([] : Words).length : Int) == 0)) (k := ?_)
                      refine WL.op (d := 52) (.bool ((([] : Words).length : Int) == 0)) (k := ?_)
                      refine bsplit ((([] : Words).length : Int) == 0) (fun h294 => ?_) (fun h294 => ?_)
                      · have ph294 := eq_of_beq h294
                        refine WL.rw (t := 52) (v := .bool true) (congrArg Value.bool h294) (k := ?_)
                        refine WL.load (v := .agg #[.int .i64 8, .int .i64 0, .int .i64 0, .int .i64 0, .int .i64 0, .int .i64 0, .int .i64 0, .bool false, .int .i64 0, .int .i64 0, .int .i64 0, .int .i64 0, .int .i64 0, .int .i64 0, .slice A276 ((v273).length) c277]) (ldN (T := 39) (i := 0) (m := 15) (l := [.int .i64 8, .int .i64 0, .int .i64 0, .int .i64 0, .int .i64 0, .int .i64 0, .int .i64 0, .bool false, .int .i64 0, .int .i64 0, .int .i64 0, .int .i64 0, .int .i64 0, .int .i64 0, .slice A276 ((v273).length) c277]) hb283) (k := ?_)
                        refine WL.callG (d := 54) (f := 33) (args := #[.agg #[.int .i64 8, .int .i64 0, .int .i64 0, .int .i64 0, .int .i64 0, .int .i64 0, .int .i64 0, .bool false, .int .i64 0, .int .i64 0, .int .i64 0, .int .i64 0, .int .i64 0, .int .i64 0, .slice A276 ((v273).length) c277]]) (sCheck_c (c := (⟨⟨8, (⟨0, ⟨0, 0, 0, 0, 0⟩, false, 0, 0, 0⟩ : GOp), 0, 0, 0, v273⟩, A276, c277⟩ : GCmd)) (ho278.sl ekFate) (by first | omega | (simp; done) | (simp; omega))) (k := fun e_ w295 h_ => ⟨.bool (cokB (⟨⟨8, (⟨0, ⟨0, 0, 0, 0, 0⟩, false, 0, 0, 0⟩ : GOp), 0, 0, 0, v273⟩, A276, c277⟩ : GCmd).p), h_.1, ?_⟩)
                        have k296 := h_.2; clear h_
                        replace hb287 := k296.heap hb287 id
                        replace hb4 := k296.heap hb4 id
                        replace hb283 := k296.heap hb283 id
                        replace ho278 := ho278.adds k296
                        replace hs288 := hs288.adds k296
                        replace K := K.trans (k296.any _)
                        refine WL.op (d := 55) (.bool (cokB (⟨⟨8, (⟨0, ⟨0, 0, 0, 0, 0⟩, false, 0, 0, 0⟩ : GOp), 0, 0, 0, v273⟩, A276, c277⟩ : GCmd).p)) (k := ?_)
                        refine bsplit (cokB (⟨⟨8, (⟨0, ⟨0, 0, 0, 0, 0⟩, false, 0, 0, 0⟩ : GOp), 0, 0, 0, v273⟩, A276, c277⟩ : GCmd).p) (fun h297 => ?_) (fun h297 => ?_)
                        · have ph297 := cok_t h297
                          refine WL.callG (d := 56) (f := 49) (args := #[.bool (cokB (⟨⟨8, (⟨0, ⟨0, 0, 0, 0, 0⟩, false, 0, 0, 0⟩ : GOp), 0, 0, 0, v273⟩, A276, c277⟩ : GCmd).p)]) (lnMust_y h297 w295) (k := fun e_ w298 h_ => ⟨.tuple #[], h_.1, ?_⟩)
                          have k299 := h_.2; clear h_
                          replace hb287 := k299.heap hb287 id
                          replace hb4 := k299.heap hb4 id
                          replace hb283 := k299.heap hb283 id
                          replace ho278 := ho278.adds k299
                          replace hs288 := hs288.adds k299
                          replace K := K.trans (k299.any _)
                          refine WL.nil ?_
                          refine WX.seqN ?_
                          refine WC.seq ?_
                          refine WC.region ?_
                          refine WL.load (v := .agg #[.int .i64 8, .int .i64 0, .int .i64 0, .int .i64 0, .int .i64 0, .int .i64 0, .int .i64 0, .bool false, .int .i64 0, .int .i64 0, .int .i64 0, .int .i64 0, .int .i64 0, .int .i64 0, .slice A276 ((v273).length) c277]) (ldN (T := 39) (i := 0) (m := 15) (l := [.int .i64 8, .int .i64 0, .int .i64 0, .int .i64 0, .int .i64 0, .int .i64 0, .int .i64 0, .bool false, .int .i64 0, .int .i64 0, .int .i64 0, .int .i64 0, .int .i64 0, .int .i64 0, .slice A276 ((v273).length) c277]) hb283) (k := ?_)
                          refine WL.store (v := .agg #[.int .i64 8, .int .i64 0, .int .i64 0, .int .i64 0, .int .i64 0, .int .i64 0, .int .i64 0, .bool false, .int .i64 0, .int .i64 0, .int .i64 0, .int .i64 0, .int .i64 0, .int .i64 0, .slice A276 ((v273).length) c277]) (i := 0) (cs' := #[.int .i64 8, .int .i64 0, .int .i64 0, .int .i64 0, .int .i64 0, .int .i64 0, .int .i64 0, .bool false, .int .i64 0, .int .i64 0, .int .i64 0, .int .i64 0, .int .i64 0, .int .i64 0, .slice A276 ((v273).length) c277]) hb4 (k := fun w300 hb301 k302 => ?_)
                          replace hb283 := k302.heap hb283 (Ne.symm n17)
                          replace ho278 := ho278.keeps k302 (fun i hi e => (ho278.offT hb4 (by decide)) (e ▸ hi))
                          replace K := K.trans' k302 (fun i hi e => absurd (e ▸ hi) (Nat.not_lt.2 z6))
                          clear hb4
                          refine WL.nil ?_
                          refine WX.seqN ?_
                          refine WC.ret ?_
                          refine WX.ret (rs := [.cell 2 39]) [.agg #[.int .i64 8, .int .i64 0, .int .i64 0, .int .i64 0, .int .i64 0, .int .i64 0, .int .i64 0, .bool false, .int .i64 0, .int .i64 0, .int .i64 0, .int .i64 0, .int .i64 0, .int .i64 0, .slice A276 ((v273).length) c277]] (.agg #[.int .i64 8, .int .i64 0, .int .i64 0, .int .i64 0, .int .i64 0, .int .i64 0, .int .i64 0, .bool false, .int .i64 0, .int .i64 0, .int .i64 0, .int .i64 0, .int .i64 0, .int .i64 0, .slice A276 ((v273).length) c277]) ⟨⟨_, (by kernel_rfl), ldN (T := 39) (i := 0) (m := 15) (l := [.int .i64 8, .int .i64 0, .int .i64 0, .int .i64 0, .int .i64 0, .int .i64 0, .int .i64 0, .bool false, .int .i64 0, .int .i64 0, .int .i64 0, .int .i64 0, .int .i64 0, .int .i64 0, .slice A276 ((v273).length) c277]) hb301⟩, trivial⟩ (k := ?_)
                          have b_ : bodF v21 t22 = some ((⟨⟨8, (⟨0, ⟨0, 0, 0, 0, 0⟩, false, 0, 0, 0⟩ : GOp), 0, 0, 0, v273⟩, A276, c277⟩ : GCmd).p, ([] : Words)) := (by simp [bodF, GOp.zero, kRelease, kAsk, kTick, kFail, kQuery, kSnapshot, kStart, kCrash, hq19, hq271, ph27, ph65, ph103, ph141, ph179, ph217, ph243, ph269])
                          rw [cmdF_y hq19 b_ (List.eq_nil_of_length_eq_zero (by omega)) h297]
                          exact ⟨K, _, _, rfl, ho278, ol281⟩
                        have ph297 := cok_f h297
                        refine WL.callGP (f := 49) (args := #[.bool (cokB (⟨⟨8, (⟨0, ⟨0, 0, 0, 0, 0⟩, false, 0, 0, 0⟩ : GOp), 0, 0, 0, v273⟩, A276, c277⟩ : GCmd).p)]) (lnMust_n h297 w295) (by kernel_rfl) (by kernel_rfl) (by kernel_rfl) (fun e_ w303 h_ => ?_)
                        obtain ⟨rfl, k304⟩ := h_
                        refine ⟨_, rfl, ?_⟩
                        replace hb287 := k304.heap hb287 id
                        replace hb4 := k304.heap hb4 id
                        replace hb283 := k304.heap hb283 id
                        replace ho278 := ho278.adds k304
                        replace hs288 := hs288.adds k304
                        replace K := K.trans (k304.any _)
                        refine WX.seqP ?_
                        refine WX.pan ?_
                        have b_ : bodF v21 t22 = some ((⟨⟨8, (⟨0, ⟨0, 0, 0, 0, 0⟩, false, 0, 0, 0⟩ : GOp), 0, 0, 0, v273⟩, A276, c277⟩ : GCmd).p, ([] : Words)) := (by simp [bodF, GOp.zero, kRelease, kAsk, kTick, kFail, kQuery, kSnapshot, kStart, kCrash, hq19, hq271, ph27, ph65, ph103, ph141, ph179, ph217, ph243, ph269])
                        rw [cmdF_n hq19 b_ (fun k => by rw [h297] at k; cases k.2)]
                        exact ⟨K, rfl⟩
                      have ph294 := ne_of_beq_false h294
                      refine WL.rw (t := 52) (v := .bool false) (congrArg Value.bool h294) (k := ?_)
                      refine WL.skip (d := 53) (k := ?_)
                      refine WL.skip (d := 54) (k := ?_)
                      refine WL.op (d := 55) (.bool false) (k := ?_)
                      refine WL.callGP (f := 49) (args := #[.bool false]) (lnMust_n rfl w282) (by kernel_rfl) (by kernel_rfl) (by kernel_rfl) (fun e_ w305 h_ => ?_)
                      obtain ⟨rfl, k306⟩ := h_
                      refine ⟨_, rfl, ?_⟩
                      replace hb287 := k306.heap hb287 id
                      replace hb4 := k306.heap hb4 id
                      replace hb283 := k306.heap hb283 id
                      replace ho278 := ho278.adds k306
                      replace hs288 := hs288.adds k306
                      replace K := K.trans (k306.any _)
                      refine WX.seqP ?_
                      refine WX.pan ?_
                      have b_ : bodF v21 t22 = some ((⟨⟨8, (⟨0, ⟨0, 0, 0, 0, 0⟩, false, 0, 0, 0⟩ : GOp), 0, 0, 0, v273⟩, A276, c277⟩ : GCmd).p, ([] : Words)) := (by simp [bodF, GOp.zero, kRelease, kAsk, kTick, kFail, kQuery, kSnapshot, kStart, kCrash, hq19, hq271, ph27, ph65, ph103, ph141, ph179, ph217, ph243, ph269])
                      rw [cmdF_n hq19 b_ (fun k => ph294 (by rw [k.1]; rfl))]
                      exact ⟨K, rfl⟩
                    have hq307 := isSome_no h270
                    refine WL.callGP (f := 47) (args := #[.pointer (some ⟨b, 0, none⟩)]) (FatR.n (lnRfates_c hr23) hq307) (by kernel_rfl) (by kernel_rfl) (by kernel_rfl) (fun e_ w309 h_ => ?_)
                    obtain ⟨rfl, k308⟩ := h_
                    refine ⟨_, rfl, ?_⟩
                    replace hb4 := k308.heap hb4 (Ne.symm n8)
                    replace hb12 := k308.heap hb12 (Ne.symm n16)
                    replace K := K.trans' k308 (fun i hi e => e)
                    clear hr23
                    refine WX.blockP ?_
                    refine WX.seqP ?_
                    refine WX.pan ?_
                    have b_ := (show bodF v21 t22 = none from (by simp [bodF, kRelease, kAsk, kTick, kFail, kQuery, kSnapshot, kStart, kCrash, hq19, hq307, ph27, ph65, ph103, ph141, ph179, ph217, ph243, ph269]))
                    rw [cmdF_b hq19 b_]
                    exact ⟨K, rfl⟩
                  · have ph269 := of_decide_eq_false h269
                    refine WC.region ?_
                    refine WL.op (d := 8) (.pointer (some ⟨b, 0, none⟩)) (k := ?_)
                    refine WL.op (d := 9) (.string ⟨(v21).toArray⟩) (k := ?_)
                    refine bsplit (Option.isSome (chgF v21 t22)) (fun h310 => ?_) (fun h310 => ?_)
                    · obtain ⟨⟨v313, t314⟩, hq311⟩ := isSome_ex h310
                      refine WL.callG (d := 10) (f := 48) (args := #[.pointer (some ⟨b, 0, none⟩), .string ⟨(v21).toArray⟩]) (RdR.y (lnChanges_a hr23 (hG.keeps K (fun i hi e => by omega)) hb6) (by rw [hq311]; rfl)) (k := fun e_ w316 h_ => ?_)
                      obtain ⟨rfl, hr315, k312⟩ := h_
                      refine ⟨_, rfl, ?_⟩
                      replace hb4 := k312.heap hb4 (Ne.symm n8)
                      replace hb12 := k312.heap hb12 (Ne.symm n16)
                      replace K := K.trans' k312 (fun i hi e => e)
                      clear hr23
                      refine WL.op (d := 11) (.agg #[.int .i64 1, .int .i64 v313.kind, .int .i64 v313.task.id, .int .i64 v313.task.c, .int .i64 v313.task.d, .int .i64 v313.task.t, .int .i64 v313.task.m, .bool v313.sv, .int .i64 v313.id, .int .i64 v313.c, .int .i64 v313.m, .int .i64 0, .int .i64 0, .int .i64 0, .slice none 0 0]) (k := ?_)
                      refine WL.store (v := .agg #[.int .i64 1, .int .i64 v313.kind, .int .i64 v313.task.id, .int .i64 v313.task.c, .int .i64 v313.task.d, .int .i64 v313.task.t, .int .i64 v313.task.m, .bool v313.sv, .int .i64 v313.id, .int .i64 v313.c, .int .i64 v313.m, .int .i64 0, .int .i64 0, .int .i64 0, .slice none 0 0]) (i := 0) (cs' := #[.int .i64 1, .int .i64 v313.kind, .int .i64 v313.task.id, .int .i64 v313.task.c, .int .i64 v313.task.d, .int .i64 v313.task.t, .int .i64 v313.task.m, .bool v313.sv, .int .i64 v313.id, .int .i64 v313.c, .int .i64 v313.m, .int .i64 0, .int .i64 0, .int .i64 0, .slice none 0 0]) hb12 (k := fun w317 hb318 k319 => ?_)
                      replace hr315 := hr315.keeps k319 (fun i e => e ▸ n15)
                      replace hb4 := k319.heap hb4 n17
                      replace K := K.trans' k319 (fun i hi e => absurd (e ▸ hi) (Nat.not_lt.2 z14))
                      clear hb12
                      refine WL.nil ?_
                      refine WX.blockN ?_
                      refine WX.seqN ?_
                      refine WC.seq ?_
                      obtain ⟨A320, c321, hb322, hs323, hl324, hc325, hm326, hz327, hx328⟩ := id hr315
                      refine WC.region ?_
                      refine WL.op (d := 46) (.pointer (some ⟨b, 0, none⟩)) (k := ?_)
                      refine WL.op (d := 47) (.pointer (some ⟨b, 0, none⟩)) (k := ?_)
                      refine WL.op (d := 48) (.pointer (some ⟨b, 0, none⟩)) (k := ?_)
                      refine WL.load (v := .slice A320 t314.length c321) (ld1 (T := 43) (i := 0) hb322) (k := ?_)
                      refine WL.op (d := 50) (.int .i64 (t314.length : Int)) (k := ?_)
                      refine WL.op (d := 51) (.bool ((t314.length : Int) == 0)) (k := ?_)
                      refine WL.op (d := 52) (.bool ((t314.length : Int) == 0)) (k := ?_)
                      refine bsplit ((t314.length : Int) == 0) (fun h329 => ?_) (fun h329 => ?_)
                      · have ph329 := eq_of_beq h329
                        refine WL.rw (t := 52) (v := .bool true) (congrArg Value.bool h329) (k := ?_)
                        refine WL.load (v := .agg #[.int .i64 1, .int .i64 v313.kind, .int .i64 v313.task.id, .int .i64 v313.task.c, .int .i64 v313.task.d, .int .i64 v313.task.t, .int .i64 v313.task.m, .bool v313.sv, .int .i64 v313.id, .int .i64 v313.c, .int .i64 v313.m, .int .i64 0, .int .i64 0, .int .i64 0, .slice none 0 0]) (ldN (T := 39) (i := 0) (m := 15) (l := [.int .i64 1, .int .i64 v313.kind, .int .i64 v313.task.id, .int .i64 v313.task.c, .int .i64 v313.task.d, .int .i64 v313.task.t, .int .i64 v313.task.m, .bool v313.sv, .int .i64 v313.id, .int .i64 v313.c, .int .i64 v313.m, .int .i64 0, .int .i64 0, .int .i64 0, .slice none 0 0]) hb318) (k := ?_)
                        refine WL.callG (d := 54) (f := 33) (args := #[.agg #[.int .i64 1, .int .i64 v313.kind, .int .i64 v313.task.id, .int .i64 v313.task.c, .int .i64 v313.task.d, .int .i64 v313.task.t, .int .i64 v313.task.m, .bool v313.sv, .int .i64 v313.id, .int .i64 v313.c, .int .i64 v313.m, .int .i64 0, .int .i64 0, .int .i64 0, .slice none 0 0]]) (sCheck_c (c := (⟨⟨1, v313, 0, 0, 0, []⟩, none, 0⟩ : GCmd)) SlAt.nil (by first | omega | (simp; done) | (simp; omega))) (k := fun e_ w330 h_ => ⟨.bool (cokB (⟨⟨1, v313, 0, 0, 0, []⟩, none, 0⟩ : GCmd).p), h_.1, ?_⟩)
                        have k331 := h_.2; clear h_
                        replace hb322 := k331.heap hb322 id
                        replace hb4 := k331.heap hb4 id
                        replace hb318 := k331.heap hb318 id
                        replace hs323 := hs323.adds k331
                        replace K := K.trans (k331.any _)
                        refine WL.op (d := 55) (.bool (cokB (⟨⟨1, v313, 0, 0, 0, []⟩, none, 0⟩ : GCmd).p)) (k := ?_)
                        refine bsplit (cokB (⟨⟨1, v313, 0, 0, 0, []⟩, none, 0⟩ : GCmd).p) (fun h332 => ?_) (fun h332 => ?_)
                        · have ph332 := cok_t h332
                          refine WL.callG (d := 56) (f := 49) (args := #[.bool (cokB (⟨⟨1, v313, 0, 0, 0, []⟩, none, 0⟩ : GCmd).p)]) (lnMust_y h332 w330) (k := fun e_ w333 h_ => ⟨.tuple #[], h_.1, ?_⟩)
                          have k334 := h_.2; clear h_
                          replace hb322 := k334.heap hb322 id
                          replace hb4 := k334.heap hb4 id
                          replace hb318 := k334.heap hb318 id
                          replace hs323 := hs323.adds k334
                          replace K := K.trans (k334.any _)
                          refine WL.nil ?_
                          refine WX.seqN ?_
                          refine WC.seq ?_
                          refine WC.region ?_
                          refine WL.load (v := .agg #[.int .i64 1, .int .i64 v313.kind, .int .i64 v313.task.id, .int .i64 v313.task.c, .int .i64 v313.task.d, .int .i64 v313.task.t, .int .i64 v313.task.m, .bool v313.sv, .int .i64 v313.id, .int .i64 v313.c, .int .i64 v313.m, .int .i64 0, .int .i64 0, .int .i64 0, .slice none 0 0]) (ldN (T := 39) (i := 0) (m := 15) (l := [.int .i64 1, .int .i64 v313.kind, .int .i64 v313.task.id, .int .i64 v313.task.c, .int .i64 v313.task.d, .int .i64 v313.task.t, .int .i64 v313.task.m, .bool v313.sv, .int .i64 v313.id, .int .i64 v313.c, .int .i64 v313.m, .int .i64 0, .int .i64 0, .int .i64 0, .slice none 0 0]) hb318) (k := ?_)
                          refine WL.store (v := .agg #[.int .i64 1, .int .i64 v313.kind, .int .i64 v313.task.id, .int .i64 v313.task.c, .int .i64 v313.task.d, .int .i64 v313.task.t, .int .i64 v313.task.m, .bool v313.sv, .int .i64 v313.id, .int .i64 v313.c, .int .i64 v313.m, .int .i64 0, .int .i64 0, .int .i64 0, .slice none 0 0]) (i := 0) (cs' := #[.int .i64 1, .int .i64 v313.kind, .int .i64 v313.task.id, .int .i64 v313.task.c, .int .i64 v313.task.d, .int .i64 v313.task.t, .int .i64 v313.task.m, .bool v313.sv, .int .i64 v313.id, .int .i64 v313.c, .int .i64 v313.m, .int .i64 0, .int .i64 0, .int .i64 0, .slice none 0 0]) hb4 (k := fun w335 hb336 k337 => ?_)
                          replace hb318 := k337.heap hb318 (Ne.symm n17)
                          replace K := K.trans' k337 (fun i hi e => absurd (e ▸ hi) (Nat.not_lt.2 z6))
                          clear hb4
                          refine WL.nil ?_
                          refine WX.seqN ?_
                          refine WC.ret ?_
                          refine WX.ret (rs := [.cell 2 39]) [.agg #[.int .i64 1, .int .i64 v313.kind, .int .i64 v313.task.id, .int .i64 v313.task.c, .int .i64 v313.task.d, .int .i64 v313.task.t, .int .i64 v313.task.m, .bool v313.sv, .int .i64 v313.id, .int .i64 v313.c, .int .i64 v313.m, .int .i64 0, .int .i64 0, .int .i64 0, .slice none 0 0]] (.agg #[.int .i64 1, .int .i64 v313.kind, .int .i64 v313.task.id, .int .i64 v313.task.c, .int .i64 v313.task.d, .int .i64 v313.task.t, .int .i64 v313.task.m, .bool v313.sv, .int .i64 v313.id, .int .i64 v313.c, .int .i64 v313.m, .int .i64 0, .int .i64 0, .int .i64 0, .slice none 0 0]) ⟨⟨_, (by kernel_rfl), ldN (T := 39) (i := 0) (m := 15) (l := [.int .i64 1, .int .i64 v313.kind, .int .i64 v313.task.id, .int .i64 v313.task.c, .int .i64 v313.task.d, .int .i64 v313.task.t, .int .i64 v313.task.m, .bool v313.sv, .int .i64 v313.id, .int .i64 v313.c, .int .i64 v313.m, .int .i64 0, .int .i64 0, .int .i64 0, .slice none 0 0]) hb336⟩, trivial⟩ (k := ?_)
                          have b_ : bodF v21 t22 = some ((⟨⟨1, v313, 0, 0, 0, []⟩, none, 0⟩ : GCmd).p, t314) := (by simp [bodF, GOp.zero, kRelease, kAsk, kTick, kFail, kQuery, kSnapshot, kStart, kCrash, hq19, hq311, ph27, ph65, ph103, ph141, ph179, ph217, ph243, ph269])
                          rw [cmdF_y hq19 b_ (List.eq_nil_of_length_eq_zero (by omega)) h332]
                          exact ⟨K, _, _, rfl, OwAt.nil, (by simp [blk])⟩
                        have ph332 := cok_f h332
                        refine WL.callGP (f := 49) (args := #[.bool (cokB (⟨⟨1, v313, 0, 0, 0, []⟩, none, 0⟩ : GCmd).p)]) (lnMust_n h332 w330) (by kernel_rfl) (by kernel_rfl) (by kernel_rfl) (fun e_ w338 h_ => ?_)
                        obtain ⟨rfl, k339⟩ := h_
                        refine ⟨_, rfl, ?_⟩
                        replace hb322 := k339.heap hb322 id
                        replace hb4 := k339.heap hb4 id
                        replace hb318 := k339.heap hb318 id
                        replace hs323 := hs323.adds k339
                        replace K := K.trans (k339.any _)
                        refine WX.seqP ?_
                        refine WX.pan ?_
                        have b_ : bodF v21 t22 = some ((⟨⟨1, v313, 0, 0, 0, []⟩, none, 0⟩ : GCmd).p, t314) := (by simp [bodF, GOp.zero, kRelease, kAsk, kTick, kFail, kQuery, kSnapshot, kStart, kCrash, hq19, hq311, ph27, ph65, ph103, ph141, ph179, ph217, ph243, ph269])
                        rw [cmdF_n hq19 b_ (fun k => by rw [h332] at k; cases k.2)]
                        exact ⟨K, rfl⟩
                      have ph329 := ne_of_beq_false h329
                      refine WL.rw (t := 52) (v := .bool false) (congrArg Value.bool h329) (k := ?_)
                      refine WL.skip (d := 53) (k := ?_)
                      refine WL.skip (d := 54) (k := ?_)
                      refine WL.op (d := 55) (.bool false) (k := ?_)
                      refine WL.callGP (f := 49) (args := #[.bool false]) (lnMust_n rfl w317) (by kernel_rfl) (by kernel_rfl) (by kernel_rfl) (fun e_ w340 h_ => ?_)
                      obtain ⟨rfl, k341⟩ := h_
                      refine ⟨_, rfl, ?_⟩
                      replace hb322 := k341.heap hb322 id
                      replace hb4 := k341.heap hb4 id
                      replace hb318 := k341.heap hb318 id
                      replace hs323 := hs323.adds k341
                      replace K := K.trans (k341.any _)
                      refine WX.seqP ?_
                      refine WX.pan ?_
                      have b_ : bodF v21 t22 = some ((⟨⟨1, v313, 0, 0, 0, []⟩, none, 0⟩ : GCmd).p, t314) := (by simp [bodF, GOp.zero, kRelease, kAsk, kTick, kFail, kQuery, kSnapshot, kStart, kCrash, hq19, hq311, ph27, ph65, ph103, ph141, ph179, ph217, ph243, ph269])
                      rw [cmdF_n hq19 b_ (fun k => ph329 (by rw [k.1]; rfl))]
                      exact ⟨K, rfl⟩
                    have hq342 := isSome_no h310
                    refine WL.callGP (f := 48) (args := #[.pointer (some ⟨b, 0, none⟩), .string ⟨(v21).toArray⟩]) (RdR.n (lnChanges_a hr23 (hG.keeps K (fun i hi e => by omega)) hb6) (by rw [hq342]; rfl)) (by kernel_rfl) (by kernel_rfl) (by kernel_rfl) (fun e_ w344 h_ => ?_)
                    obtain ⟨rfl, k343⟩ := h_
                    refine ⟨_, rfl, ?_⟩
                    replace hb4 := k343.heap hb4 (Ne.symm n8)
                    replace hb12 := k343.heap hb12 (Ne.symm n16)
                    replace K := K.trans' k343 (fun i hi e => e)
                    clear hr23
                    refine WX.blockP ?_
                    refine WX.seqP ?_
                    refine WX.pan ?_
                    have b_ := (show bodF v21 t22 = none from (by simp [bodF, kRelease, kAsk, kTick, kFail, kQuery, kSnapshot, kStart, kCrash, hq19, hq342, ph27, ph65, ph103, ph141, ph179, ph217, ph243, ph269]))
                    rw [cmdF_b hq19 b_]
                    exact ⟨K, rfl⟩
  have hq345 := isSome_no h18
  refine WL.callGP (f := 44) (args := #[.pointer (some ⟨b, 0, none⟩)]) (RdR.n (lnNext_c hr) (by rw [hq345]; rfl)) (by kernel_rfl) (by kernel_rfl) (by kernel_rfl) (fun e_ w347 h_ => ?_)
  obtain ⟨rfl, k346⟩ := h_
  refine ⟨_, rfl, ?_⟩
  replace hb4 := k346.heap hb4 (Ne.symm n8)
  replace hb12 := k346.heap hb12 (Ne.symm n16)
  replace K := K.trans' k346 (fun i hi e => e)
  clear hr
  refine WX.seqP ?_
  refine WX.seqP ?_
  refine WX.pan ?_
  rw [cmdF_0 hq345]
  exact ⟨K, rfl⟩
end Go.Proofs.YtoeinhlmkpgjhaaGreatDoor
namespace Go.Proofs.YtoeinhlmkpgjhaaGreatDoor
open Go.RowKit
set_option linter.unusedVariables false
set_option linter.unusedSimpArgs false
theorem lnParse1_idle {b4 b2 b3 : Nat} (w : World) : CallsDf Tryz.prog 19 #[.pointer (some ⟨b4, 0, none⟩), .pointer (some ⟨b2, 0, none⟩), .pointer (some ⟨b3, 0, none⟩)] w fun e w' => e = .returned (.tuple #[]) ∧ w' = w := by
  refine CallsDIn.mono (R := fun e u' w' => e = .returned (.tuple #[]) ∧ u' = .returning ∧ w' = w) ?_ (fun e u' w' h => ⟨h.2.1, h.1, h.2.2⟩)
  refine callsDIn_of_wpSIn Tryz.func19 rfl trivial fun c₀ cs hu => ?_
  apply wpSIn_seq
  apply wpSIn_region
  simp [wpOpsSIn, go_sem, recoverD, hu, Tryz.ntmps19, Exit.thenS]
  refine wpSIn_cond (t := false) (by simp [Act.eval, Array.replicate]) ?_
  simp only [Bool.false_eq_true, if_false]
  refine wpSIn_of_wpIn rfl (wpIn_skip ?_)
  cases c₀
  simp_all [bodyPostS, results, Tryz.results19]
theorem lnParse1_pan {b4 b2 b3 : Nat} {n : Int} {v2 v3 : Value} {w : World} (c2 : w.cell? ⟨b2, 0, none⟩ = some v2) (c3 : (w.setCell ⟨b2, 0, none⟩ (.slice none 0 0)).cell? ⟨b3, 0, none⟩ = some v3) (h4 : w.cell? ⟨b4, 0, none⟩ = some (.int .i64 n)) (z2 : w.frozen? ⟨b2, 0, none⟩ = false) (z3 : (w.setCell ⟨b2, 0, none⟩ (.slice none 0 0)).frozen? ⟨b3, 0, none⟩ = false) :
    CallsDIn Fence.wide 0 Tryz.prog 19 #[.pointer (some ⟨b4, 0, none⟩), .pointer (some ⟨b2, 0, none⟩), .pointer (some ⟨b3, 0, none⟩)] (.panicking CHw) w fun e u' w' => settle u' = .returning ∧ (e = .returned (.tuple #[]) ∧ w' = (w.setCell ⟨b2, 0, none⟩ (.slice none 0 0)).setCell ⟨b3, 0, none⟩ (.int .i64 n)) := by
  refine callsDIn_of_wpSIn Tryz.func19 rfl trivial fun c₀ cs hu => ?_
  apply wpSIn_seq
  apply wpSIn_region
  simp [wpOpsSIn, go_sem, recoverD, hu, Tryz.ntmps19, Exit.thenS]
  refine wpSIn_cond (t := true) (by simp [Act.eval, Array.replicate]) ?_
  simp only [if_true]
  apply wpSIn_region
  simp [wpOpsSIn, go_sem, h4, c2, c3, z2, z3, bodyPostS, results, Tryz.results19, settle]
theorem setCell_heap {b : Nat} {v x : Value} {T : TypeId} {w : World} (h : w.heap[b]? = some (.cells #[v] T (0, 0))) : (w.setCell ⟨b, 0, none⟩ x).heap[b]? = some (.cells #[x] T (0, 0)) ∧ Keeps (fun i => i = b) w (w.setCell ⟨b, 0, none⟩ x) := by
  have hlt := lt_of_heap h
  refine ⟨?_, Keeps.setCell (Keeps.refl _ w) _ _ (fun _ => rfl)⟩
  have hb : w.heap[b] = .cells #[v] T (0, 0) := by rw [Array.getElem?_eq_getElem hlt] at h; exact Option.some.inj h
  simp [World.setCell, hlt, Array.getElem_modify, hb]
theorem lnParse1_p {b4 b2 b3 : Nat} {n : Int} {v2 v3 : Value} {T4 T2 T3 : TypeId} {w : World} (h4 : w.heap[b4]? = some (.cells #[.int .i64 n] T4 (0, 0))) (h2 : w.heap[b2]? = some (.cells #[v2] T2 (0, 0))) (h3 : w.heap[b3]? = some (.cells #[v3] T3 (0, 0))) (n23 : b2 ≠ b3) :
    CallsDIn Fence.wide 0 Tryz.prog 19 #[.pointer (some ⟨b4, 0, none⟩), .pointer (some ⟨b2, 0, none⟩), .pointer (some ⟨b3, 0, none⟩)] (.panicking CHw) w fun e u' w' => settle u' = .returning ∧ (e = .returned (.tuple #[]) ∧ w'.heap[b2]? = some (.cells #[.slice none 0 0] T2 (0, 0)) ∧ w'.heap[b3]? = some (.cells #[.int .i64 n] T3 (0, 0)) ∧ Keeps (fun i => i = b2 ∨ i = b3) w w') := by
  obtain ⟨g2, k2⟩ := setCell_heap (x := .slice none 0 0) h2
  have h3' := k2.heap h3 (Ne.symm n23)
  obtain ⟨g3, k3⟩ := setCell_heap (x := .int .i64 n) h3'
  refine CallsDIn.mono (lnParse1_pan (n := n) (v2 := v2) (v3 := v3) ?_ ?_ ?_ ?_ ?_) ?_
  · simp [World.cell?, h2]
  · simp [World.cell?, h3']
  · simp [World.cell?, h4]
  · simp [World.frozen?, h2]
  · simp [World.frozen?, h3']
  · rintro e u' w' ⟨hs, he, rfl⟩
    exact ⟨hs, he, k3.heap g2 n23, g3, (k2.mono (fun i _ h => .inl h)).trans (k3.mono (fun i _ h => .inr h))⟩
end Go.Proofs.YtoeinhlmkpgjhaaGreatDoor
namespace Go.Proofs.YtoeinhlmkpgjhaaGreatDoor
open Go.RowKit
set_option linter.unusedVariables false
set_option linter.unusedSimpArgs false
section
variable {l : List UInt8} {s s0 s1 s2 s3 s' : Option (List UInt8)} {a b k n : Nat} {f : GFate} {t : List UInt8} {done : List GFate} {i : Int}
def Got (l : List UInt8) (c : PCmd) (st : Option (List UInt8)) (g : Prop) : Prop := (g → ∃ t, st = some t ∧ c.ok ∧ l = c.enc ++ t) ∧ (∀ d t, PCmd.ok d → l = d.enc ++ t → g)
end
section
variable {l : List UInt8} {s1 s2 s3 st : Option (List UInt8)} {k : Nat} {c : PCmd} {g g' : Prop}
theorem Got.iff (h : Got l c st g) (e : g ↔ g') : Got l c st g' := ⟨fun x => h.1 (e.2 x), fun d t hd he => e.1 (h.2 d t hd he)⟩
theorem Got.t (h : Got l c st g) (x : g) : Got l c st (true = true) := h.iff ⟨fun _ => rfl, fun _ => x⟩
theorem Got.yes (h : Got l c st g) (x : g) : Got l c st (true = true) := h.t x
theorem Got.f (h : Got l c st g) (x : ¬ g) : Got l c st (false = true) := h.iff ⟨fun y => absurd y x, fun y => by cases y⟩
theorem Got.f' {c' : PCmd} {st' : Option (List UInt8)} (h : Got l c st g) (x : ¬ g) : Got l c' st' (false = true) := ⟨fun y => (by cases y), fun d t hd he => absurd (h.2 d t hd he) x⟩
theorem Got.z {c' : PCmd} {st' : Option (List UInt8)} (h : Got l c st g) (x : ¬ g) (hk : c'.kind = 0) : Got l c' st' (c'.kind ≠ 0) := ⟨fun y => absurd hk y, fun d t hd he => absurd (h.2 d t hd he) x⟩
theorem Got.fs (h : Got l c st g) (x : g) : c.fs.length ≤ 64 := by obtain ⟨t, _, ho, _⟩ := h.1 x; exact ho.2.1.2.2.2.2.2.2.2.2
end
section
variable {n : Nat} {xs : List GCmd} {w w' : World} {b : Nat} {st : Option (List UInt8)}
theorem FtsO.keepsT {cs : Array Value} {T : TypeId} {fz : Nat × Nat} (h : FtsO n xs w) (k : Keeps (fun i => i = b) w w') (hb : w.heap[b]? = some (.cells cs T fz)) (hT : T ≠ 72) : FtsO n xs w' := h.keeps k fun i cur hi e => by
  subst e; rw [hi] at hb; simp only [Option.some.injEq, Obj.cells.injEq] at hb; exact hT hb.2.1.symm
theorem FtsO.keepsOw {α : Type} {cl : α → List Value} {m : Nat} {E : TypeId} {A : Option Addr} {cap : Nat} {ys : List α} (h : FtsO n xs w) (k : Keeps (fun i => blk A = some i) w w') (ho : OwAt cl m E A cap ys w) (hE : E ≠ 72) : FtsO n xs w' := h.keeps k fun i cur hi e => ho.offT hi (fun x => hE x.symm) e
end
def Pre (l : List UInt8) (ps : List PCmd) (r : List UInt8) : Prop := (∀ c ∈ ps, c.ok) ∧ l = cencs ps ++ r
theorem Pre.nil (l : List UInt8) : Pre l [] l := ⟨by simp, by simp [cencs]⟩
theorem Pre.snoc {l r t : List UInt8} {ps : List PCmd} {c : PCmd} (h : Pre l ps r) (hc : c.ok) (e : r = c.enc ++ t) : Pre l (ps ++ [c]) t := by
  refine ⟨fun d hd => ?_, ?_⟩
  · rcases List.mem_append.1 hd with hd | hd
    · exact h.1 d hd
    · rw [List.mem_singleton.1 hd]; exact hc
  · rw [h.2, e]; simp [cencs]
theorem Pre.done {l r : List UInt8} {ps : List PCmd} (h : Pre l ps r) (hn : ∀ c t, PCmd.ok c → r = c.enc ++ t → False) : Parsed l ps r := ⟨h.1, h.2, hn⟩
theorem cmds_len : ∀ {ps : List PCmd}, ps.length ≤ (cencs ps).length
  | [] => by simp
  | c :: ps => by
    have h1 := cenc_pos c
    have h2 := cmds_len (ps := ps)
    simp only [cencs, List.flatMap_cons, List.length_append, List.length_cons] at *; omega
theorem Parsed.len {l r : List UInt8} {xs : List GCmd} (h : Parsed l (xs.map GCmd.p) r) : xs.length ≤ l.length ∧ r.length ≤ l.length := by
  have h1 := cmds_len (ps := xs.map GCmd.p)
  have h2 := congrArg List.length h.2.1
  rw [List.length_append] at h2; rw [List.length_map] at h1; omega
theorem Pre.len {l r : List UInt8} {done : List GCmd} (h : Pre l (done.map GCmd.p) r) : done.length ≤ l.length := by
  have h1 := cmds_len (ps := done.map GCmd.p)
  have h2 := congrArg List.length h.2
  rw [List.length_append] at h2; rw [List.length_map] at h1; omega
end Go.Proofs.YtoeinhlmkpgjhaaGreatDoor
namespace Go.Proofs.YtoeinhlmkpgjhaaGreatDoor
open Go.RowKit
set_option linter.unusedVariables false
set_option linter.unusedSimpArgs false
theorem lnParse1_i {b4 b2 b3 : Nat} (w : World) : CallsDf Tryz.prog 19 #[.pointer (some ⟨b4, 0, none⟩), .pointer (some ⟨b2, 0, none⟩), .pointer (some ⟨b3, 0, none⟩)] w fun e w' => e = .returned (.tuple #[]) ∧ Adds w w' :=
  CallsDIn.mono (lnParse1_idle w) (fun e u' w' h => ⟨h.1, h.2.1, h.2.2 ▸ Keeps.refl _ _⟩)
theorem wordsL_ne {l x : List UInt8} (h : x ∈ wordsL l) : 0 < x.length := by
  unfold wordsL at h
  have h2 := (List.mem_filter.1 h).2
  exact List.length_pos_iff.2 (of_decide_eq_true h2)
theorem wordsL_le {l x : List UInt8} (h : x ∈ wordsL l) : x.length ≤ l.length := by
  unfold wordsL at h
  exact splitL_le 32 l x (List.mem_filter.1 h).1
theorem wordsL_len (l : List UInt8) : (wordsL l).length ≤ l.length + 1 := by
  unfold wordsL
  refine Nat.le_trans (List.length_filter_le _ _) ?_
  rw [splitL_len]
  have := List.count_le_length (a := (32 : UInt8)) (l := l); omega
theorem OwAt.cap_leL {α : Type} {cl : α → List Value} {m : Nat} {E : TypeId} {A : Option Addr} {cap : Nat} {xs : List α} {w : World} (h : OwAt cl m E A cap xs w) : xs.length ≤ cap ∧ cap ≤ 9223372036854775807 := by
  rcases h.block with ⟨_, rfl, rfl⟩ | ⟨g, cur, _, _, h2, h3, _, _⟩
  · exact ⟨Nat.le_refl _, Nat.zero_le _⟩
  · exact ⟨h2, h3⟩
theorem RdW.of_ow {b : Nat} {A : Option Addr} {cap : Nat} {xs : Words} {w w0 : World} (hb : w.heap[b]? = some (.cells #[.slice A xs.length cap] 49 (0, 0))) (ho : OwAt strC 1 9 A cap xs w) (hl : ∀ p, A = some p → p.block < b) (hn : xs.length ≤ 1000000) (hx : ∀ x ∈ xs, x.length ≤ 1000000) : RdW b xs w :=
  ⟨A, cap, hb, ho.sl ekStr, fun _ => hl, (OwAt.cap_leL ho).1, (OwAt.cap_leL ho).2, hn, hx⟩
theorem OwAt.ltA {α : Type} {cl : α → List Value} {m : Nat} {E : TypeId} {A : Option Addr} {cap : Nat} {xs : List α} {w : World} (h : OwAt cl m E A cap xs w) : ∀ p, A = some p → p.block < w.heap.size := fun p hp => h.lt _ (by rw [hp]; rfl)
theorem FtsO.keepsRw {n b : Nat} {xs : List GCmd} {ws : Words} {w w' : World} (h : FtsO n xs w) (k : Keeps (fun i => i = b) w w') (hb : RdW b ws w) : FtsO n xs w' := by
  obtain ⟨A, cap, hb, _⟩ := hb
  exact h.keepsT k hb (by decide)
noncomputable def lineC (x : List UInt8) : Option (Option PCmd) := match wordsL x with
  | [] => some none
  | y :: t => if (y.getD 0 0).toNat = 59 then some none else (cmdF (y :: t)).map some
theorem lineC_0 {x : List UInt8} (h : ¬ 0 < (wordsL x).length) : lineC x = some none := by
  have : wordsL x = [] := List.eq_nil_of_length_eq_zero (by omega)
  unfold lineC; rw [this]
theorem words_cons {x r : List UInt8} (hr : (wordsL x)[0]? = some r) : ∃ t, wordsL x = r :: t := by
  cases h : wordsL x with
  | nil => rw [h] at hr; cases hr
  | cons y t => rw [h] at hr; cases hr; exact ⟨t, rfl⟩
theorem lineC_c {x r : List UInt8} (hr : (wordsL x)[0]? = some r) (h : (r.getD 0 0).toNat = 59) : lineC x = some none := by
  obtain ⟨t, e⟩ := words_cons hr
  unfold lineC; rw [e]; simp only; rw [if_pos h]
theorem lineC_y {x r : List UInt8} {p : PCmd} (hr : (wordsL x)[0]? = some r) (h : ¬ (r.getD 0 0).toNat = 59) (hq : cmdF (wordsL x) = some p) : lineC x = some (some p) := by
  obtain ⟨t, e⟩ := words_cons hr
  unfold lineC; rw [e] at hq ⊢; simp only; rw [if_neg h, hq]; rfl
theorem lineC_n {x r : List UInt8} (hr : (wordsL x)[0]? = some r) (h : ¬ (r.getD 0 0).toNat = 59) (hq : cmdF (wordsL x) = none) : lineC x = none := by
  obtain ⟨t, e⟩ := words_cons hr
  unfold lineC; rw [e] at hq ⊢; simp only; rw [if_neg h, hq]; rfl
noncomputable def parGo : Int → List PCmd → List (List UInt8) → List PCmd × Int
  | n, acc, [] => (acc, 0)
  | n, acc, x :: L => match lineC x with
    | none => ([], n + 1)
    | some none => parGo (n + 1) acc L
    | some (some p) => parGo (n + 1) (acc ++ [p]) L
noncomputable def parV (l : List UInt8) : List PCmd × Int := parGo 0 [] (splitL 10 l)
def ParI (l : List UInt8) (i : Int) (cs : List GCmd) : Prop := parV l = parGo i (cs.map GCmd.p) ((splitL 10 l).drop i.toNat)
theorem ParI.zero (l : List UInt8) : ParI l 0 [] := rfl
theorem drop_cons {α : Type} {L : List α} {i : Nat} {x : α} (h : L[i]? = some x) : L.drop i = x :: L.drop (i + 1) := by
  obtain ⟨h1, h2⟩ := List.getElem?_eq_some_iff.1 h
  rw [List.drop_eq_getElem_cons h1, h2]
theorem ParI.sayN {l x : List UInt8} {i : Int} {cs : List GCmd} (h : ParI l i cs) (h0 : 0 ≤ i) (hx : (splitL 10 l)[i.toNat]? = some x) (hc : lineC x = some none) : ParI l (i + 1) cs := by
  unfold ParI at h ⊢
  rw [h, drop_cons hx, parGo, hc, show (i + 1).toNat = i.toNat + 1 by omega]
theorem ParI.sayC {l x : List UInt8} {i : Int} {cs : List GCmd} {c : GCmd} (h : ParI l i cs) (h0 : 0 ≤ i) (hx : (splitL 10 l)[i.toNat]? = some x) (hc : lineC x = some (some c.p)) : ParI l (i + 1) (cs ++ [c]) := by
  unfold ParI at h ⊢
  rw [h, drop_cons hx, parGo, hc, show (i + 1).toNat = i.toNat + 1 by omega, List.map_append]; rfl
theorem ParI.bad {l x : List UInt8} {i : Int} {cs : List GCmd} (h : ParI l i cs) (hx : (splitL 10 l)[i.toNat]? = some x) (hc : lineC x = none) : parV l = ([], i + 1) := by
  unfold ParI at h
  rw [h, drop_cons hx, parGo, hc]
theorem ParI.end {l : List UInt8} {i : Int} {cs : List GCmd} (h : ParI l i cs) (hi : ((splitL 10 l).length : Int) ≤ i) : parV l = (cs.map GCmd.p, 0) := by
  unfold ParI at h
  rw [h, List.drop_of_length_le (by omega), parGo]
theorem cmdF_ok {xs : Words} {p : PCmd} (h : cmdF xs = some p) : p.ok := by
  unfold cmdF at h
  cases h1 : nextF xs with
  | none => rw [h1] at h; cases h
  | some q =>
    rw [h1, Option.bind_some] at h
    cases h2 : bodF q.1 q.2 with
    | none => rw [h2] at h; cases h
    | some r =>
      rw [h2, Option.bind_some] at h
      split at h
      · next hk => cases h; exact cok_t hk.2
      · cases h
theorem ok_fs {p : PCmd} (h : p.ok) : p.fs.length ≤ 64 := by
  have := h.2.1; unfold PCmd.rngs at this; omega
def ParR (l : List UInt8) (w : World) (e : Ending) (w' : World) : Prop := ∃ (xs : List GCmd) (A : Option Addr) (c : Nat) (n : Int), e = .returned (.tuple #[.slice A xs.length c, .int .i64 n]) ∧ OwAt cmdC 15 39 A c xs w' ∧ FtsO 64 xs w' ∧ parV l = (xs.map GCmd.p, n) ∧ Adds w w' ∧ (∀ i, blk A = some i → w.heap.size ≤ i)
end Go.Proofs.YtoeinhlmkpgjhaaGreatDoor
namespace Go.Proofs.YtoeinhlmkpgjhaaGreatDoor
open Go.RowKit
set_option linter.unusedVariables false
set_option linter.unusedSimpArgs false
theorem lFields_k {l : List UInt8} {w : World} (hl : l.length ≤ 4294967296) : Calls Tryz.prog 21 #[.string ⟨l.toArray⟩, .func (.func 22) #[] #[]] w fun e w' => ∃ A cap, e = .returned (.slice A (wordsL l).length cap) ∧ OwAt strC 1 9 A cap (wordsL l) w' ∧ Adds w w' ∧ (∀ i, blk A = some i → w.heap.size ≤ i) :=
  (lFields_c hl).mono fun e w' ⟨A, cap, h1, h2, h3, h4⟩ => ⟨A, cap, h1, h2, h4, h3⟩
set_option maxRecDepth 100000 in
set_option maxHeartbeats 4000000 in
theorem lnParse_c {l : List UInt8} (hl : l.length ≤ 900000) {w : World} (hG : GB w) : Calls Tryz.prog 7 #[.string ⟨l.toArray⟩] w (ParR l w) := by
  have K : Keeps (fun _ => False) w w := Keeps.refl _ w
  have cl_ := List.count_le_length (a := (10 : UInt8)) (l := l)
  have sn_ := splitL_len 10 l
  refine Calls.startM Tryz.func7 rfl (by kernel_rfl) ?_
  refine WC.seq ?_
  refine WC.region ?_
  refine WL.new (d := 2) (T := 24) #[.slice none 0 0] (k := fun b1 w2 g3 hb4 k5 => ?_)
  have z6 := Nat.le_trans K.size g3
  replace K := K.trans (k5.any _)
  refine WL.new (d := 3) (T := 3) #[.int .i64 0] (k := fun b7 w8 g9 hb10 k11 => ?_)
  have z12 := Nat.le_trans K.size g9
  have n13 : b1 ≠ b7 := Nat.ne_of_lt (Nat.lt_of_lt_of_le (lt_of_heap hb4) g9)
  replace hb4 := k11.heap hb4 id
  replace K := K.trans (k11.any _)
  refine WL.nil ?_
  refine WX.seqN ?_
  refine WC.seq ?_
  refine WC.region ?_
  refine WL.new (d := 4) (T := 3) #[.int .i64 0] (k := fun b14 w15 g16 hb17 k18 => ?_)
  have z19 := Nat.le_trans K.size g16
  have n20 : b1 ≠ b14 := Nat.ne_of_lt (Nat.lt_of_lt_of_le (lt_of_heap hb4) g16)
  have n21 : b7 ≠ b14 := Nat.ne_of_lt (Nat.lt_of_lt_of_le (lt_of_heap hb10) g16)
  replace hb4 := k18.heap hb4 id
  replace hb10 := k18.heap hb10 id
  replace K := K.trans (k18.any _)
  refine WL.store (v := .int .i64 0) (i := 0) (cs' := #[.int .i64 0]) hb17 (k := fun w22 hb23 k24 => ?_)
  replace hb4 := k24.heap hb4 n20
  replace hb10 := k24.heap hb10 n21
  replace K := K.trans' k24 (fun i hi e => absurd (e ▸ hi) (Nat.not_lt.2 z19))
  clear hb17
  refine WL.nil ?_
  refine WX.seqN ?_
  refine WC.seq ?_
  refine WC.region ?_
  refine WL.op (d := 9) (.func (.func 19) #[] #[.pointer (some ⟨b14, 0, none⟩), .pointer (some ⟨b1, 0, none⟩), .pointer (some ⟨b7, 0, none⟩)]) (k := ?_)
  refine WL.defer (fn := .func 19) (cap := #[.pointer (some ⟨b14, 0, none⟩), .pointer (some ⟨b1, 0, none⟩), .pointer (some ⟨b7, 0, none⟩)]) (args := #[]) (k := ?_)
  refine WL.nil ?_
  refine WX.seqN ?_
  refine WC.seq ?_
  refine WC.seq ?_
  refine WC.region ?_
  refine WL.op (d := 10) (.string ⟨(l).toArray⟩) (k := ?_)
  refine WL.callG (d := 11) (f := 20) (args := #[.string ⟨(l).toArray⟩, .string ⟨#[10]⟩]) (lSplit_k (c := 10) (l := l) (hG.keeps K (fun _ _ x => x)) (by omega)) (k := fun e_ w25 h_ => ?_)
  obtain ⟨A26, c27, rfl, ho28, k29, ol30⟩ := h_
  refine ⟨_, rfl, ?_⟩
  have ol31 := fun i h => Nat.le_trans K.size (ol30 i h)
  replace hb4 := k29.heap hb4 id
  replace hb10 := k29.heap hb10 id
  replace hb23 := k29.heap hb23 id
  replace K := K.trans (k29.any _)
  clear ol30
  refine WL.op (d := 12) (.int .i64 ((splitL 10 l).length : Int)) (k := ?_)
  refine WL.op (d := 13) (.int .i64 0) (k := ?_)
  refine WL.nil ?_
  refine WX.seqN ?_
  refine WC.block ?_
  refine WC.loop (ι := Int × (List GCmd) × (Option Addr) × Nat) (fun (⟨i, cs, Ao, co⟩ : Int × (List GCmd) × (Option Addr) × Nat) => [(0, .string ⟨(l).toArray⟩), (2, .pointer (some ⟨b1, 0, none⟩)), (3, .pointer (some ⟨b7, 0, none⟩)), (4, .pointer (some ⟨b14, 0, none⟩)), (9, .func (.func 19) #[] #[.pointer (some ⟨b14, 0, none⟩), .pointer (some ⟨b1, 0, none⟩), .pointer (some ⟨b7, 0, none⟩)]), (10, .string ⟨(l).toArray⟩), (11, .slice A26 ((splitL 10 l).length) c27), (12, .int .i64 ((splitL 10 l).length : Int)), (13, .int .i64 i)]) (fun (⟨i, cs, Ao, co⟩ : Int × (List GCmd) × (Option Addr) × Nat) (w_ : World) => (Keeps (fun _ => False) w w_) ∧ (w_.heap[b1]? = some (.cells #[.slice Ao cs.length co] 24 (0, 0))) ∧ (w_.heap[b7]? = some (.cells #[.int .i64 0] 3 (0, 0))) ∧ (w_.heap[b14]? = some (.cells #[.int .i64 i] 3 (0, 0))) ∧ (OwAt strC 1 9 A26 c27 (splitL 10 l) w_) ∧ (∀ i, blk A26 = some i → w.heap.size ≤ i) ∧ (OwAt cmdC 15 39 Ao co cs w_) ∧ (∀ i, blk Ao = some i → w.heap.size ≤ i) ∧ (0 ≤ i) ∧ (i ≤ (splitL 10 l).length) ∧ (ParI l i cs) ∧ ((cs.length : Int) ≤ i) ∧ (FtsO 64 cs w_)) (fun (⟨i, cs, Ao, co⟩ : Int × (List GCmd) × (Option Addr) × Nat) => ((splitL 10 l).length - i).toNat) (0, [], none, 0) ⟨(by kernel_rfl), (by kernel_rfl), (by kernel_rfl), (by kernel_rfl), (by kernel_rfl), (by kernel_rfl), (by kernel_rfl), (by kernel_rfl), (by kernel_rfl), trivial⟩ ⟨K, hb4, hb10, hb23, ho28, ol31, OwAt.nil, (by simp [blk]), Int.le_refl 0, (by omega), (ParI.zero l), (by simp), FtsO.nil⟩ ?_
  rintro ⟨i, cs, Ao, co⟩ w32 ⟨K, hb33, hb34, hb35, hb36, ol37, hb38, ol39, i0, i1, hi, hcl, hF⟩
  refine WC.seq ?_
  refine WC.region ?_
  refine WL.op (d := 14) (.bool (decide (i < ((splitL 10 l).length : Int)))) (k := ?_)
  refine WL.nil ?_
  refine WX.seqN ?_
  refine WC.seq ?_
  refine WC.cond (b := decide (i < ((splitL 10 l).length : Int))) (ht := fun h40 => ?_) (hf := fun h40 => ?_)
  · have ph40 := of_decide_eq_true h40
    refine WC.skip ?_
    refine WX.seqN ?_
    refine WC.seq ?_
    refine WC.block ?_
    refine WC.seq ?_
    refine WC.region ?_
    obtain ⟨b41, o42, r43, hr44, hA45, he46⟩ := SlAt.at (hb36.sl ekStr) (i := i) (by omega) (by omega)
    refine WL.rw (t := 11) (v := .slice (some ⟨b41, o42, none⟩) ((splitL 10 l).length) c27) (congrArg (fun a => Value.slice a ((splitL 10 l).length) c27) hA45) (k := ?_)
    have sl47 := splitL_le 10 l _ (List.mem_of_getElem? hr44)
    refine WL.idx (T := 43) (E := 9) (m := 1) (b := b41) (o := o42) (len := (splitL 10 l).length) (cap := c27) (i := i) (kk := .i64) (d := 15) (by omega) (by omega) (k := ?_)
    refine WL.rw (t := 11) (v := .slice A26 ((splitL 10 l).length) c27) (congrArg (fun a => Value.slice a ((splitL 10 l).length) c27) (Eq.symm hA45)) (k := ?_)
    refine WL.load (v := .string ⟨(r43).toArray⟩) (he46.ld0 (T := 9)) (k := ?_)
    refine WL.op (d := 6) (.string ⟨(r43).toArray⟩) (k := ?_)
    refine WL.nil ?_
    refine WX.seqN ?_
    refine WC.seq ?_
    refine WC.region ?_
    refine WL.load (v := .int .i64 i) (ld1 (T := 3) (i := 0) hb35) (k := ?_)
    refine WL.opE (d := 18) (.int .i64 (IntKind.i64.wrap (i + 1))) (v := .int .i64 (i + 1)) (congrArg (Value.int .i64) (IntWalk.i64_in _ (by omega))) (k := ?_)
    refine WL.store (v := .int .i64 (i + 1)) (i := 0) (cs' := #[.int .i64 (i + 1)]) hb35 (k := fun w48 hb49 k50 => ?_)
    replace hb33 := k50.heap hb33 n20
    replace hb34 := k50.heap hb34 n21
    replace hb36 := hb36.keeps k50 (fun i hi e => (hb36.offT hb35 (by decide)) (e ▸ hi))
    replace hb38 := hb38.keeps k50 (fun i hi e => (hb38.offT hb35 (by decide)) (e ▸ hi))
    replace hF := hF.keepsT k50 hb35 (by decide)
    replace K := K.trans' k50 (fun i hi e => absurd (e ▸ hi) (Nat.not_lt.2 z19))
    clear hb35
    refine WL.nil ?_
    refine WX.seqN ?_
    refine WC.seq ?_
    refine WC.region ?_
    refine WL.op (d := 19) (.string ⟨(r43).toArray⟩) (k := ?_)
    refine WL.callG (d := 20) (f := 21) (args := #[.string ⟨(r43).toArray⟩, .func (.func 22) #[] #[]]) (lFields_k (l := r43) (by show List.length r43 ≤ _; first | omega | (simp; done) | (simp; omega))) (k := fun e_ w52 h_ => ?_)
    obtain ⟨A53, c54, rfl, ho55, k56, ol57⟩ := h_
    refine ⟨_, rfl, ?_⟩
    have ol58 := fun i h => Nat.le_trans K.size (ol57 i h)
    replace hb33 := k56.heap hb33 id
    replace hb34 := k56.heap hb34 id
    replace hb49 := k56.heap hb49 id
    replace hb36 := hb36.adds k56
    replace hb38 := hb38.adds k56
    replace hF := hF.adds k56
    replace K := K.trans (k56.any _)
    clear ol57
    have wl51 := wordsL_len r43
    refine WL.op (d := 7) (.slice A53 ((wordsL r43).length) c54) (k := ?_)
    refine WL.nil ?_
    refine WX.seqN ?_
    refine WC.seq ?_
    refine WC.region ?_
    refine WL.op (d := 21) (.slice A53 ((wordsL r43).length) c54) (k := ?_)
    refine WL.op (d := 22) (.int .i64 ((wordsL r43).length : Int)) (k := ?_)
    refine WL.op (d := 23) (.bool (decide (((wordsL r43).length : Int) > 0))) (k := ?_)
    refine WL.op (d := 24) (.bool (decide (((wordsL r43).length : Int) > 0))) (k := ?_)
    refine bsplit (decide (((wordsL r43).length : Int) > 0)) (fun h59 => ?_) (fun h59 => ?_)
    · have ph59 := of_decide_eq_true h59
      refine WL.rw (t := 24) (v := .bool true) (congrArg Value.bool h59) (k := ?_)
      refine WL.op (d := 25) (.slice A53 ((wordsL r43).length) c54) (k := ?_)
      obtain ⟨b60, o61, r62, hr63, hA64, he65⟩ := SlAt.at (ho55.sl ekStr) (i := 0) (by omega) (by omega)
      refine WL.rw (t := 25) (v := .slice (some ⟨b60, o61, none⟩) ((wordsL r43).length) c54) (congrArg (fun a => Value.slice a ((wordsL r43).length) c54) hA64) (k := ?_)
      have wn66 := wordsL_ne (List.mem_of_getElem? hr63)
      refine WL.idx (T := 43) (E := 9) (m := 1) (b := b60) (o := o61) (len := (wordsL r43).length) (cap := c54) (i := 0) (kk := .i64) (d := 26) (by omega) (by omega) (k := ?_)
      refine WL.rw (t := 25) (v := .slice A53 ((wordsL r43).length) c54) (congrArg (fun a => Value.slice a ((wordsL r43).length) c54) (Eq.symm hA64)) (k := ?_)
      refine WL.load (v := .string ⟨(r62).toArray⟩) (he65.ld0 (T := 9)) (k := ?_)
      refine WL.strAt (T := 9) (l := r62) (i := 0) (kk := .i64) (d := 28) (by omega) (by first | omega | (simp; omega)) (by kernel_rfl) (by kernel_rfl) (by kernel_rfl) (by kernel_rfl) (by kernel_rfl) ?_
      have ub67 := u8_lt (List.getD r62 (0 : Int).toNat 0)
      refine WL.op (d := 29) (.bool (((List.getD r62 (0 : Int).toNat 0).toNat : Int) != 59)) (k := ?_)
      refine WL.op (d := 30) (.bool (((List.getD r62 (0 : Int).toNat 0).toNat : Int) != 59)) (k := ?_)
      refine WL.nil ?_
      refine WX.seqN ?_
      refine WC.cond (b := ((List.getD r62 (0 : Int).toNat 0).toNat : Int) != 59) (ht := fun h68 => ?_) (hf := fun h68 => ?_)
      · have ph68 := bne_iff_ne.1 h68
        refine WC.seq ?_
        have wlt_ := ho55.ltA
        refine WC.region ?_
        refine WL.op (d := 31) (.slice A53 ((wordsL r43).length) c54) (k := ?_)
        refine WL.op (d := 32) (.agg #[.slice A53 ((wordsL r43).length) c54]) (k := ?_)
        refine WL.new (d := 33) (T := 49) #[.slice A53 ((wordsL r43).length) c54] (k := fun b69 w70 g71 hb72 k73 => ?_)
        have z74 := Nat.le_trans K.size g71
        have n75 : b1 ≠ b69 := Nat.ne_of_lt (Nat.lt_of_lt_of_le (lt_of_heap hb33) g71)
        have n76 : b7 ≠ b69 := Nat.ne_of_lt (Nat.lt_of_lt_of_le (lt_of_heap hb34) g71)
        have n77 : b14 ≠ b69 := Nat.ne_of_lt (Nat.lt_of_lt_of_le (lt_of_heap hb49) g71)
        have n78 := OwAt.off_new hb36 g71
        have n79 := OwAt.off_new hb38 g71
        have n80 := OwAt.off_new ho55 g71
        replace hb33 := k73.heap hb33 id
        replace hb34 := k73.heap hb34 id
        replace hb49 := k73.heap hb49 id
        replace hb36 := hb36.adds k73
        replace hb38 := hb38.adds k73
        replace ho55 := ho55.adds k73
        replace he65 := he65.adds k73
        replace hF := hF.adds k73
        replace K := K.trans (k73.any _)
        have hr81 : RdW b69 (wordsL r43) w70 := RdW.of_ow (w0 := w) hb72 ho55 (fun p hp => Nat.lt_of_lt_of_le (wlt_ p hp) g71) (by omega) (fun x hx => Nat.le_trans (wordsL_le hx) (by omega))
        clear hb72
        refine WL.op (d := 8) (.pointer (some ⟨b69, 0, none⟩)) (k := ?_)
        refine WL.nil ?_
        refine WX.seqN ?_
        refine WC.orders (k := fun w82 k83 => ?_)
        replace hb33 := k83.heap hb33 id
        replace hb34 := k83.heap hb34 id
        replace hb49 := k83.heap hb49 id
        replace hb36 := hb36.adds k83
        replace hb38 := hb38.adds k83
        replace he65 := he65.adds k83
        replace hr81 := hr81.adds k83
        replace hF := hF.adds k83
        replace K := K.trans (k83.any _)
        refine WB.step2 0 1 (hi := rfl) (hj := rfl) (k1 := ?_) (k2 := ?_)
        · refine WL.load (v := .slice Ao cs.length co) (ld1 (T := 24) (i := 0) hb33) (k := ?_)
          refine WL.nil ?_
          refine WX.nxtO ?_
          refine WB.step1 1 (hi := rfl) (k := ?_)
          refine WL.op (d := 35) (.pointer (some ⟨b69, 0, none⟩)) (k := ?_)
          refine WL.nil ?_
          refine WX.nxtO ?_
          refine WB.step1 2 (hi := rfl) (k := ?_)
          refine bsplit (Option.isSome (cmdF (wordsL r43))) (fun h84 => ?_) (fun h84 => ?_)
          · obtain ⟨p87, hq85⟩ := isSome_ex h84
            have fl88 := ok_fs (cmdF_ok hq85)
            refine WL.callG (d := 36) (f := 23) (args := #[.pointer (some ⟨b69, 0, none⟩)]) (CmdR.y (lnCommand_c hr81 (hG.keeps K (fun _ _ x => x)) (by have := hG.2.2; omega)) hq85) (k := fun e_ w89 h_ => ?_)
            obtain ⟨A90, c91, rfl, ho92, ol93, k86⟩ := h_
            refine ⟨_, rfl, ?_⟩
            have ol94 := fun i h => Nat.le_trans K.size (ol93 i h)
            replace hb33 := k86.heap hb33 n75
            replace hb34 := k86.heap hb34 n76
            replace hb49 := k86.heap hb49 n77
            replace hb36 := hb36.keeps k86 (fun i hi e => (n78) (e ▸ hi))
            replace hb38 := hb38.keeps k86 (fun i hi e => (n79) (e ▸ hi))
            replace hF := hF.keepsRw k86 hr81
            replace K := K.trans' k86 (fun i hi e => absurd (e ▸ hi) (Nat.not_lt.2 z74))
            clear hr81 ol93
            refine WL.nil ?_
            refine WX.nxtO ?_
            refine WB.step1 3 (hi := rfl) (k := ?_)
            refine WL.newF (d := 37) (T := 39) (Value.cells (GCmd.val (⟨p87, A90, c91⟩ : GCmd))) (fun b => .slice (some ⟨b, 0, none⟩) 1 1) (k := fun b95 w96 g97 hb98 k99 => ?_)
            have z100 := Nat.le_trans K.size g97
            have n101 : b1 ≠ b95 := Nat.ne_of_lt (Nat.lt_of_lt_of_le (lt_of_heap hb33) g97)
            have n102 : b7 ≠ b95 := Nat.ne_of_lt (Nat.lt_of_lt_of_le (lt_of_heap hb34) g97)
            have n103 : b14 ≠ b95 := Nat.ne_of_lt (Nat.lt_of_lt_of_le (lt_of_heap hb49) g97)
            have n104 := OwAt.off_new hb36 g97
            have n105 := OwAt.off_new hb38 g97
            have n106 := OwAt.off_new ho92 g97
            replace hb33 := k99.heap hb33 id
            replace hb34 := k99.heap hb34 id
            replace hb49 := k99.heap hb49 id
            replace hb36 := hb36.adds k99
            replace hb38 := hb38.adds k99
            replace ho92 := ho92.adds k99
            replace hF := hF.adds k99
            replace K := K.trans (k99.any _)
            refine WL.nil ?_
            refine WX.nxtO ?_
            refine WB.step1 4 (hi := rfl) (k := ?_)
            refine WL.append (d := 38) (T := 24) (cl := cmdC) (xs := cs) (ys := [(⟨p87, A90, c91⟩ : GCmd)]) (c := 1) ekCmd hb38 (SlAt.of_lit (ys := [(⟨p87, A90, c91⟩ : GCmd)]) ekCmd hb98 (by kernel_rfl)) (by first | omega | (simp; omega)) (k := fun A107 c108 w109 ho110 k111 n112 => ?_)
            have ol113 := olink_step ol39 K n112
            replace hb33 := k111.heap hb33 (hb38.offT hb33 (by decide))
            replace hb34 := k111.heap hb34 (hb38.offT hb34 (by decide))
            replace hb49 := k111.heap hb49 (hb38.offT hb49 (by decide))
            replace hb36 := hb36.keeps k111 (OwAt.offOw hb36 hb38 (by decide))
            replace ho92 := ho92.keeps k111 (OwAt.offOw ho92 hb38 (by decide))
            replace hF := hF.keepsOw k111 hb38 (by decide)
            replace K := K.trans' k111 (fun i hi e => absurd hi (Nat.not_lt.2 (ol39 i e)))
            clear hb38
            refine WL.nil ?_
            refine WX.nxtO ?_
            refine WB.step1 5 (hi := rfl) (k := ?_)
            refine WL.store (v := .slice A107 ((cs ++ [(⟨p87, A90, c91⟩ : GCmd)]).length) c108) (i := 0) (cs' := #[.slice A107 ((cs ++ [(⟨p87, A90, c91⟩ : GCmd)]).length) c108]) hb33 (k := fun w114 hb115 k116 => ?_)
            replace hb34 := k116.heap hb34 (Ne.symm n13)
            replace hb49 := k116.heap hb49 (Ne.symm n20)
            replace hb36 := hb36.keeps k116 (fun i hi e => (hb36.offT hb33 (by decide)) (e ▸ hi))
            replace ho110 := ho110.keeps k116 (fun i hi e => (ho110.offT hb33 (by decide)) (e ▸ hi))
            replace ho92 := ho92.keeps k116 (fun i hi e => (ho92.offT hb33 (by decide)) (e ▸ hi))
            replace hF := hF.keepsT k116 hb33 (by decide)
            replace K := K.trans' k116 (fun i hi e => absurd (e ▸ hi) (Nat.not_lt.2 z6))
            clear hb33
            refine WL.nil ?_
            refine WX.nxtO ?_
            refine WB.done (k := ?_)
            refine WX.blockN ?_
            refine WX.seqN ?_
            refine WC.region ?_
            refine WL.opE (d := 39) (.int .i64 (IntKind.i64.wrap (i + 1))) (v := .int .i64 (i + 1)) (congrArg (Value.int .i64) (IntWalk.i64_in _ (by omega))) (k := ?_)
            refine WL.op (d := 13) (.int .i64 (i + 1)) (k := ?_)
            refine WL.nil ?_
            refine WX.round (i + 1, cs ++ [(⟨p87, A90, c91⟩ : GCmd)], A107, c108) (by show ((splitL 10 l).length - (i + 1)).toNat < ((splitL 10 l).length - i).toNat; omega) ⟨(by kernel_rfl), (by kernel_rfl), (by kernel_rfl), (by kernel_rfl), (by kernel_rfl), (by kernel_rfl), (by kernel_rfl), (by kernel_rfl), (by kernel_rfl), trivial⟩ ⟨K, hb115, hb34, hb49, hb36, ol37, ho110, ol113, (by omega), (by omega), (ParI.sayC (c := (⟨p87, A90, c91⟩ : GCmd)) hi i0 hr44 (lineC_y hr63 (by show ¬ (List.getD r62 (Int.toNat 0) 0).toNat = 59; omega) hq85)), (by simp; omega), (FtsO.snoc (r := (⟨p87, A90, c91⟩ : GCmd)) hF ho92 (ok_fs (cmdF_ok hq85)))⟩
          have hq117 := isSome_no h84
          refine WL.callGP (f := 23) (args := #[.pointer (some ⟨b69, 0, none⟩)]) (CmdR.n (lnCommand_c hr81 (hG.keeps K (fun _ _ x => x)) (by have := hG.2.2; omega)) hq117) (by kernel_rfl) (by kernel_rfl) (by kernel_rfl) (fun e_ w119 h_ => ?_)
          obtain ⟨rfl, k118⟩ := h_
          refine ⟨_, rfl, ?_⟩
          replace hb33 := k118.heap hb33 n75
          replace hb34 := k118.heap hb34 n76
          replace hb49 := k118.heap hb49 n77
          replace hb36 := hb36.keeps k118 (fun i hi e => (n78) (e ▸ hi))
          replace hb38 := hb38.keeps k118 (fun i hi e => (n79) (e ▸ hi))
          replace hF := hF.keepsRw k118 hr81
          replace K := K.trans' k118 (fun i hi e => absurd (e ▸ hi) (Nat.not_lt.2 z74))
          clear hr81
          refine WX.nxtP ?_
          refine WX.blockP ?_
          refine WX.seqP ?_
          refine WX.seqP ?_
          refine WX.blockP ?_
          refine WX.seqP ?_
          refine WX.panD (rs := [.cell 2 24, .cell 3 3]) (g := 19) (cap := #[.pointer (some ⟨b14, 0, none⟩), .pointer (some ⟨b1, 0, none⟩), .pointer (some ⟨b7, 0, none⟩)]) (args := #[]) (fun _ _ => by kernel_rfl) (lnParse1_p hb49 hb33 hb34 n13) (fun e_ w120 h_ => ?_) rfl
          obtain ⟨rfl, hb121, hb122, k123⟩ := h_
          replace K := K.trans' k123 (fun i hi e => e.elim (fun e => absurd (e ▸ hi) (Nat.not_lt.2 z6)) (fun e => absurd (e ▸ hi) (Nat.not_lt.2 z12)))
          refine ⟨_, [.slice none 0 0, .int .i64 (i + 1)], .tuple #[.slice none 0 0, .int .i64 (i + 1)], rfl, ⟨⟨_, (by kernel_rfl), ld1 (T := 24) (i := 0) hb121⟩, ⟨_, (by kernel_rfl), ld1 (T := 3) (i := 0) hb122⟩, trivial⟩, rfl, ?_⟩
          exact ⟨[], none, 0, i + 1, rfl, OwAt.nil, FtsO.nil, hi.bad hr44 (lineC_n hr63 (by show ¬ (List.getD r62 (Int.toNat 0) 0).toNat = 59; omega) hq117), K, by simp [blk]⟩
        · refine WL.op (d := 35) (.pointer (some ⟨b69, 0, none⟩)) (k := ?_)
          refine WL.nil ?_
          refine WX.nxtO ?_
          refine WB.step2 0 2 (hi := rfl) (hj := rfl) (k1 := ?_) (k2 := ?_)
          · refine WL.load (v := .slice Ao cs.length co) (ld1 (T := 24) (i := 0) hb33) (k := ?_)
            refine WL.nil ?_
            refine WX.nxtO ?_
            refine WB.step1 2 (hi := rfl) (k := ?_)
            refine bsplit (Option.isSome (cmdF (wordsL r43))) (fun h124 => ?_) (fun h124 => ?_)
            · obtain ⟨p127, hq125⟩ := isSome_ex h124
              have fl128 := ok_fs (cmdF_ok hq125)
              refine WL.callG (d := 36) (f := 23) (args := #[.pointer (some ⟨b69, 0, none⟩)]) (CmdR.y (lnCommand_c hr81 (hG.keeps K (fun _ _ x => x)) (by have := hG.2.2; omega)) hq125) (k := fun e_ w129 h_ => ?_)
              obtain ⟨A130, c131, rfl, ho132, ol133, k126⟩ := h_
              refine ⟨_, rfl, ?_⟩
              have ol134 := fun i h => Nat.le_trans K.size (ol133 i h)
              replace hb33 := k126.heap hb33 n75
              replace hb34 := k126.heap hb34 n76
              replace hb49 := k126.heap hb49 n77
              replace hb36 := hb36.keeps k126 (fun i hi e => (n78) (e ▸ hi))
              replace hb38 := hb38.keeps k126 (fun i hi e => (n79) (e ▸ hi))
              replace hF := hF.keepsRw k126 hr81
              replace K := K.trans' k126 (fun i hi e => absurd (e ▸ hi) (Nat.not_lt.2 z74))
              clear hr81 ol133
              refine WL.nil ?_
              refine WX.nxtO ?_
              refine WB.step1 3 (hi := rfl) (k := ?_)
              refine WL.newF (d := 37) (T := 39) (Value.cells (GCmd.val (⟨p127, A130, c131⟩ : GCmd))) (fun b => .slice (some ⟨b, 0, none⟩) 1 1) (k := fun b135 w136 g137 hb138 k139 => ?_)
              have z140 := Nat.le_trans K.size g137
              have n141 : b1 ≠ b135 := Nat.ne_of_lt (Nat.lt_of_lt_of_le (lt_of_heap hb33) g137)
              have n142 : b7 ≠ b135 := Nat.ne_of_lt (Nat.lt_of_lt_of_le (lt_of_heap hb34) g137)
              have n143 : b14 ≠ b135 := Nat.ne_of_lt (Nat.lt_of_lt_of_le (lt_of_heap hb49) g137)
              have n144 := OwAt.off_new hb36 g137
              have n145 := OwAt.off_new hb38 g137
              have n146 := OwAt.off_new ho132 g137
              replace hb33 := k139.heap hb33 id
              replace hb34 := k139.heap hb34 id
              replace hb49 := k139.heap hb49 id
              replace hb36 := hb36.adds k139
              replace hb38 := hb38.adds k139
              replace ho132 := ho132.adds k139
              replace hF := hF.adds k139
              replace K := K.trans (k139.any _)
              refine WL.nil ?_
              refine WX.nxtO ?_
              refine WB.step1 4 (hi := rfl) (k := ?_)
              refine WL.append (d := 38) (T := 24) (cl := cmdC) (xs := cs) (ys := [(⟨p127, A130, c131⟩ : GCmd)]) (c := 1) ekCmd hb38 (SlAt.of_lit (ys := [(⟨p127, A130, c131⟩ : GCmd)]) ekCmd hb138 (by kernel_rfl)) (by first | omega | (simp; omega)) (k := fun A147 c148 w149 ho150 k151 n152 => ?_)
              have ol153 := olink_step ol39 K n152
              replace hb33 := k151.heap hb33 (hb38.offT hb33 (by decide))
              replace hb34 := k151.heap hb34 (hb38.offT hb34 (by decide))
              replace hb49 := k151.heap hb49 (hb38.offT hb49 (by decide))
              replace hb36 := hb36.keeps k151 (OwAt.offOw hb36 hb38 (by decide))
              replace ho132 := ho132.keeps k151 (OwAt.offOw ho132 hb38 (by decide))
              replace hF := hF.keepsOw k151 hb38 (by decide)
              replace K := K.trans' k151 (fun i hi e => absurd hi (Nat.not_lt.2 (ol39 i e)))
              clear hb38
              refine WL.nil ?_
              refine WX.nxtO ?_
              refine WB.step1 5 (hi := rfl) (k := ?_)
              refine WL.store (v := .slice A147 ((cs ++ [(⟨p127, A130, c131⟩ : GCmd)]).length) c148) (i := 0) (cs' := #[.slice A147 ((cs ++ [(⟨p127, A130, c131⟩ : GCmd)]).length) c148]) hb33 (k := fun w154 hb155 k156 => ?_)
              replace hb34 := k156.heap hb34 (Ne.symm n13)
              replace hb49 := k156.heap hb49 (Ne.symm n20)
              replace hb36 := hb36.keeps k156 (fun i hi e => (hb36.offT hb33 (by decide)) (e ▸ hi))
              replace ho150 := ho150.keeps k156 (fun i hi e => (ho150.offT hb33 (by decide)) (e ▸ hi))
              replace ho132 := ho132.keeps k156 (fun i hi e => (ho132.offT hb33 (by decide)) (e ▸ hi))
              replace hF := hF.keepsT k156 hb33 (by decide)
              replace K := K.trans' k156 (fun i hi e => absurd (e ▸ hi) (Nat.not_lt.2 z6))
              clear hb33
              refine WL.nil ?_
              refine WX.nxtO ?_
              refine WB.done (k := ?_)
              refine WX.blockN ?_
              refine WX.seqN ?_
              refine WC.region ?_
              refine WL.opE (d := 39) (.int .i64 (IntKind.i64.wrap (i + 1))) (v := .int .i64 (i + 1)) (congrArg (Value.int .i64) (IntWalk.i64_in _ (by omega))) (k := ?_)
              refine WL.op (d := 13) (.int .i64 (i + 1)) (k := ?_)
              refine WL.nil ?_
              refine WX.round (i + 1, cs ++ [(⟨p127, A130, c131⟩ : GCmd)], A147, c148) (by show ((splitL 10 l).length - (i + 1)).toNat < ((splitL 10 l).length - i).toNat; omega) ⟨(by kernel_rfl), (by kernel_rfl), (by kernel_rfl), (by kernel_rfl), (by kernel_rfl), (by kernel_rfl), (by kernel_rfl), (by kernel_rfl), (by kernel_rfl), trivial⟩ ⟨K, hb155, hb34, hb49, hb36, ol37, ho150, ol153, (by omega), (by omega), (ParI.sayC (c := (⟨p127, A130, c131⟩ : GCmd)) hi i0 hr44 (lineC_y hr63 (by show ¬ (List.getD r62 (Int.toNat 0) 0).toNat = 59; omega) hq125)), (by simp; omega), (FtsO.snoc (r := (⟨p127, A130, c131⟩ : GCmd)) hF ho132 (ok_fs (cmdF_ok hq125)))⟩
            have hq157 := isSome_no h124
            refine WL.callGP (f := 23) (args := #[.pointer (some ⟨b69, 0, none⟩)]) (CmdR.n (lnCommand_c hr81 (hG.keeps K (fun _ _ x => x)) (by have := hG.2.2; omega)) hq157) (by kernel_rfl) (by kernel_rfl) (by kernel_rfl) (fun e_ w159 h_ => ?_)
            obtain ⟨rfl, k158⟩ := h_
            refine ⟨_, rfl, ?_⟩
            replace hb33 := k158.heap hb33 n75
            replace hb34 := k158.heap hb34 n76
            replace hb49 := k158.heap hb49 n77
            replace hb36 := hb36.keeps k158 (fun i hi e => (n78) (e ▸ hi))
            replace hb38 := hb38.keeps k158 (fun i hi e => (n79) (e ▸ hi))
            replace hF := hF.keepsRw k158 hr81
            replace K := K.trans' k158 (fun i hi e => absurd (e ▸ hi) (Nat.not_lt.2 z74))
            clear hr81
            refine WX.nxtP ?_
            refine WX.blockP ?_
            refine WX.seqP ?_
            refine WX.seqP ?_
            refine WX.blockP ?_
            refine WX.seqP ?_
            refine WX.panD (rs := [.cell 2 24, .cell 3 3]) (g := 19) (cap := #[.pointer (some ⟨b14, 0, none⟩), .pointer (some ⟨b1, 0, none⟩), .pointer (some ⟨b7, 0, none⟩)]) (args := #[]) (fun _ _ => by kernel_rfl) (lnParse1_p hb49 hb33 hb34 n13) (fun e_ w160 h_ => ?_) rfl
            obtain ⟨rfl, hb161, hb162, k163⟩ := h_
            replace K := K.trans' k163 (fun i hi e => e.elim (fun e => absurd (e ▸ hi) (Nat.not_lt.2 z6)) (fun e => absurd (e ▸ hi) (Nat.not_lt.2 z12)))
            refine ⟨_, [.slice none 0 0, .int .i64 (i + 1)], .tuple #[.slice none 0 0, .int .i64 (i + 1)], rfl, ⟨⟨_, (by kernel_rfl), ld1 (T := 24) (i := 0) hb161⟩, ⟨_, (by kernel_rfl), ld1 (T := 3) (i := 0) hb162⟩, trivial⟩, rfl, ?_⟩
            exact ⟨[], none, 0, i + 1, rfl, OwAt.nil, FtsO.nil, hi.bad hr44 (lineC_n hr63 (by show ¬ (List.getD r62 (Int.toNat 0) 0).toNat = 59; omega) hq157), K, by simp [blk]⟩
          · refine bsplit (Option.isSome (cmdF (wordsL r43))) (fun h164 => ?_) (fun h164 => ?_)
            · obtain ⟨p167, hq165⟩ := isSome_ex h164
              have fl168 := ok_fs (cmdF_ok hq165)
              refine WL.callG (d := 36) (f := 23) (args := #[.pointer (some ⟨b69, 0, none⟩)]) (CmdR.y (lnCommand_c hr81 (hG.keeps K (fun _ _ x => x)) (by have := hG.2.2; omega)) hq165) (k := fun e_ w169 h_ => ?_)
              obtain ⟨A170, c171, rfl, ho172, ol173, k166⟩ := h_
              refine ⟨_, rfl, ?_⟩
              have ol174 := fun i h => Nat.le_trans K.size (ol173 i h)
              replace hb33 := k166.heap hb33 n75
              replace hb34 := k166.heap hb34 n76
              replace hb49 := k166.heap hb49 n77
              replace hb36 := hb36.keeps k166 (fun i hi e => (n78) (e ▸ hi))
              replace hb38 := hb38.keeps k166 (fun i hi e => (n79) (e ▸ hi))
              replace hF := hF.keepsRw k166 hr81
              replace K := K.trans' k166 (fun i hi e => absurd (e ▸ hi) (Nat.not_lt.2 z74))
              clear hr81 ol173
              refine WL.nil ?_
              refine WX.nxtO ?_
              refine WB.step2 0 3 (hi := rfl) (hj := rfl) (k1 := ?_) (k2 := ?_)
              · refine WL.load (v := .slice Ao cs.length co) (ld1 (T := 24) (i := 0) hb33) (k := ?_)
                refine WL.nil ?_
                refine WX.nxtO ?_
                refine WB.step1 3 (hi := rfl) (k := ?_)
                refine WL.newF (d := 37) (T := 39) (Value.cells (GCmd.val (⟨p167, A170, c171⟩ : GCmd))) (fun b => .slice (some ⟨b, 0, none⟩) 1 1) (k := fun b175 w176 g177 hb178 k179 => ?_)
                have z180 := Nat.le_trans K.size g177
                have n181 : b1 ≠ b175 := Nat.ne_of_lt (Nat.lt_of_lt_of_le (lt_of_heap hb33) g177)
                have n182 : b7 ≠ b175 := Nat.ne_of_lt (Nat.lt_of_lt_of_le (lt_of_heap hb34) g177)
                have n183 : b14 ≠ b175 := Nat.ne_of_lt (Nat.lt_of_lt_of_le (lt_of_heap hb49) g177)
                have n184 := OwAt.off_new hb36 g177
                have n185 := OwAt.off_new hb38 g177
                have n186 := OwAt.off_new ho172 g177
                replace hb33 := k179.heap hb33 id
                replace hb34 := k179.heap hb34 id
                replace hb49 := k179.heap hb49 id
                replace hb36 := hb36.adds k179
                replace hb38 := hb38.adds k179
                replace ho172 := ho172.adds k179
                replace hF := hF.adds k179
                replace K := K.trans (k179.any _)
                refine WL.nil ?_
                refine WX.nxtO ?_
                refine WB.step1 4 (hi := rfl) (k := ?_)
                refine WL.append (d := 38) (T := 24) (cl := cmdC) (xs := cs) (ys := [(⟨p167, A170, c171⟩ : GCmd)]) (c := 1) ekCmd hb38 (SlAt.of_lit (ys := [(⟨p167, A170, c171⟩ : GCmd)]) ekCmd hb178 (by kernel_rfl)) (by first | omega | (simp; omega)) (k := fun A187 c188 w189 ho190 k191 n192 => ?_)
                have ol193 := olink_step ol39 K n192
                replace hb33 := k191.heap hb33 (hb38.offT hb33 (by decide))
                replace hb34 := k191.heap hb34 (hb38.offT hb34 (by decide))
                replace hb49 := k191.heap hb49 (hb38.offT hb49 (by decide))
                replace hb36 := hb36.keeps k191 (OwAt.offOw hb36 hb38 (by decide))
                replace ho172 := ho172.keeps k191 (OwAt.offOw ho172 hb38 (by decide))
                replace hF := hF.keepsOw k191 hb38 (by decide)
                replace K := K.trans' k191 (fun i hi e => absurd hi (Nat.not_lt.2 (ol39 i e)))
                clear hb38
                refine WL.nil ?_
                refine WX.nxtO ?_
                refine WB.step1 5 (hi := rfl) (k := ?_)
                refine WL.store (v := .slice A187 ((cs ++ [(⟨p167, A170, c171⟩ : GCmd)]).length) c188) (i := 0) (cs' := #[.slice A187 ((cs ++ [(⟨p167, A170, c171⟩ : GCmd)]).length) c188]) hb33 (k := fun w194 hb195 k196 => ?_)
                replace hb34 := k196.heap hb34 (Ne.symm n13)
                replace hb49 := k196.heap hb49 (Ne.symm n20)
                replace hb36 := hb36.keeps k196 (fun i hi e => (hb36.offT hb33 (by decide)) (e ▸ hi))
                replace ho190 := ho190.keeps k196 (fun i hi e => (ho190.offT hb33 (by decide)) (e ▸ hi))
                replace ho172 := ho172.keeps k196 (fun i hi e => (ho172.offT hb33 (by decide)) (e ▸ hi))
                replace hF := hF.keepsT k196 hb33 (by decide)
                replace K := K.trans' k196 (fun i hi e => absurd (e ▸ hi) (Nat.not_lt.2 z6))
                clear hb33
                refine WL.nil ?_
                refine WX.nxtO ?_
                refine WB.done (k := ?_)
                refine WX.blockN ?_
                refine WX.seqN ?_
                refine WC.region ?_
                refine WL.opE (d := 39) (.int .i64 (IntKind.i64.wrap (i + 1))) (v := .int .i64 (i + 1)) (congrArg (Value.int .i64) (IntWalk.i64_in _ (by omega))) (k := ?_)
                refine WL.op (d := 13) (.int .i64 (i + 1)) (k := ?_)
                refine WL.nil ?_
                refine WX.round (i + 1, cs ++ [(⟨p167, A170, c171⟩ : GCmd)], A187, c188) (by show ((splitL 10 l).length - (i + 1)).toNat < ((splitL 10 l).length - i).toNat; omega) ⟨(by kernel_rfl), (by kernel_rfl), (by kernel_rfl), (by kernel_rfl), (by kernel_rfl), (by kernel_rfl), (by kernel_rfl), (by kernel_rfl), (by kernel_rfl), trivial⟩ ⟨K, hb195, hb34, hb49, hb36, ol37, ho190, ol193, (by omega), (by omega), (ParI.sayC (c := (⟨p167, A170, c171⟩ : GCmd)) hi i0 hr44 (lineC_y hr63 (by show ¬ (List.getD r62 (Int.toNat 0) 0).toNat = 59; omega) hq165)), (by simp; omega), (FtsO.snoc (r := (⟨p167, A170, c171⟩ : GCmd)) hF ho172 (ok_fs (cmdF_ok hq165)))⟩
              · refine WL.newF (d := 37) (T := 39) (Value.cells (GCmd.val (⟨p167, A170, c171⟩ : GCmd))) (fun b => .slice (some ⟨b, 0, none⟩) 1 1) (k := fun b197 w198 g199 hb200 k201 => ?_)
                have z202 := Nat.le_trans K.size g199
                have n203 : b1 ≠ b197 := Nat.ne_of_lt (Nat.lt_of_lt_of_le (lt_of_heap hb33) g199)
                have n204 : b7 ≠ b197 := Nat.ne_of_lt (Nat.lt_of_lt_of_le (lt_of_heap hb34) g199)
                have n205 : b14 ≠ b197 := Nat.ne_of_lt (Nat.lt_of_lt_of_le (lt_of_heap hb49) g199)
                have n206 := OwAt.off_new hb36 g199
                have n207 := OwAt.off_new hb38 g199
                have n208 := OwAt.off_new ho172 g199
                replace hb33 := k201.heap hb33 id
                replace hb34 := k201.heap hb34 id
                replace hb49 := k201.heap hb49 id
                replace hb36 := hb36.adds k201
                replace hb38 := hb38.adds k201
                replace ho172 := ho172.adds k201
                replace hF := hF.adds k201
                replace K := K.trans (k201.any _)
                refine WL.nil ?_
                refine WX.nxtO ?_
                refine WB.step1 0 (hi := rfl) (k := ?_)
                refine WL.load (v := .slice Ao cs.length co) (ld1 (T := 24) (i := 0) hb33) (k := ?_)
                refine WL.nil ?_
                refine WX.nxtO ?_
                refine WB.step1 4 (hi := rfl) (k := ?_)
                refine WL.append (d := 38) (T := 24) (cl := cmdC) (xs := cs) (ys := [(⟨p167, A170, c171⟩ : GCmd)]) (c := 1) ekCmd hb38 (SlAt.of_lit (ys := [(⟨p167, A170, c171⟩ : GCmd)]) ekCmd hb200 (by kernel_rfl)) (by first | omega | (simp; omega)) (k := fun A209 c210 w211 ho212 k213 n214 => ?_)
                have ol215 := olink_step ol39 K n214
                replace hb33 := k213.heap hb33 (hb38.offT hb33 (by decide))
                replace hb34 := k213.heap hb34 (hb38.offT hb34 (by decide))
                replace hb49 := k213.heap hb49 (hb38.offT hb49 (by decide))
                replace hb36 := hb36.keeps k213 (OwAt.offOw hb36 hb38 (by decide))
                replace ho172 := ho172.keeps k213 (OwAt.offOw ho172 hb38 (by decide))
                replace hF := hF.keepsOw k213 hb38 (by decide)
                replace K := K.trans' k213 (fun i hi e => absurd hi (Nat.not_lt.2 (ol39 i e)))
                clear hb38
                refine WL.nil ?_
                refine WX.nxtO ?_
                refine WB.step1 5 (hi := rfl) (k := ?_)
                refine WL.store (v := .slice A209 ((cs ++ [(⟨p167, A170, c171⟩ : GCmd)]).length) c210) (i := 0) (cs' := #[.slice A209 ((cs ++ [(⟨p167, A170, c171⟩ : GCmd)]).length) c210]) hb33 (k := fun w216 hb217 k218 => ?_)
                replace hb34 := k218.heap hb34 (Ne.symm n13)
                replace hb49 := k218.heap hb49 (Ne.symm n20)
                replace hb36 := hb36.keeps k218 (fun i hi e => (hb36.offT hb33 (by decide)) (e ▸ hi))
                replace ho212 := ho212.keeps k218 (fun i hi e => (ho212.offT hb33 (by decide)) (e ▸ hi))
                replace ho172 := ho172.keeps k218 (fun i hi e => (ho172.offT hb33 (by decide)) (e ▸ hi))
                replace hF := hF.keepsT k218 hb33 (by decide)
                replace K := K.trans' k218 (fun i hi e => absurd (e ▸ hi) (Nat.not_lt.2 z6))
                clear hb33
                refine WL.nil ?_
                refine WX.nxtO ?_
                refine WB.done (k := ?_)
                refine WX.blockN ?_
                refine WX.seqN ?_
                refine WC.region ?_
                refine WL.opE (d := 39) (.int .i64 (IntKind.i64.wrap (i + 1))) (v := .int .i64 (i + 1)) (congrArg (Value.int .i64) (IntWalk.i64_in _ (by omega))) (k := ?_)
                refine WL.op (d := 13) (.int .i64 (i + 1)) (k := ?_)
                refine WL.nil ?_
                refine WX.round (i + 1, cs ++ [(⟨p167, A170, c171⟩ : GCmd)], A209, c210) (by show ((splitL 10 l).length - (i + 1)).toNat < ((splitL 10 l).length - i).toNat; omega) ⟨(by kernel_rfl), (by kernel_rfl), (by kernel_rfl), (by kernel_rfl), (by kernel_rfl), (by kernel_rfl), (by kernel_rfl), (by kernel_rfl), (by kernel_rfl), trivial⟩ ⟨K, hb217, hb34, hb49, hb36, ol37, ho212, ol215, (by omega), (by omega), (ParI.sayC (c := (⟨p167, A170, c171⟩ : GCmd)) hi i0 hr44 (lineC_y hr63 (by show ¬ (List.getD r62 (Int.toNat 0) 0).toNat = 59; omega) hq165)), (by simp; omega), (FtsO.snoc (r := (⟨p167, A170, c171⟩ : GCmd)) hF ho172 (ok_fs (cmdF_ok hq165)))⟩
            have hq219 := isSome_no h164
            refine WL.callGP (f := 23) (args := #[.pointer (some ⟨b69, 0, none⟩)]) (CmdR.n (lnCommand_c hr81 (hG.keeps K (fun _ _ x => x)) (by have := hG.2.2; omega)) hq219) (by kernel_rfl) (by kernel_rfl) (by kernel_rfl) (fun e_ w221 h_ => ?_)
            obtain ⟨rfl, k220⟩ := h_
            refine ⟨_, rfl, ?_⟩
            replace hb33 := k220.heap hb33 n75
            replace hb34 := k220.heap hb34 n76
            replace hb49 := k220.heap hb49 n77
            replace hb36 := hb36.keeps k220 (fun i hi e => (n78) (e ▸ hi))
            replace hb38 := hb38.keeps k220 (fun i hi e => (n79) (e ▸ hi))
            replace hF := hF.keepsRw k220 hr81
            replace K := K.trans' k220 (fun i hi e => absurd (e ▸ hi) (Nat.not_lt.2 z74))
            clear hr81
            refine WX.nxtP ?_
            refine WX.blockP ?_
            refine WX.seqP ?_
            refine WX.seqP ?_
            refine WX.blockP ?_
            refine WX.seqP ?_
            refine WX.panD (rs := [.cell 2 24, .cell 3 3]) (g := 19) (cap := #[.pointer (some ⟨b14, 0, none⟩), .pointer (some ⟨b1, 0, none⟩), .pointer (some ⟨b7, 0, none⟩)]) (args := #[]) (fun _ _ => by kernel_rfl) (lnParse1_p hb49 hb33 hb34 n13) (fun e_ w222 h_ => ?_) rfl
            obtain ⟨rfl, hb223, hb224, k225⟩ := h_
            replace K := K.trans' k225 (fun i hi e => e.elim (fun e => absurd (e ▸ hi) (Nat.not_lt.2 z6)) (fun e => absurd (e ▸ hi) (Nat.not_lt.2 z12)))
            refine ⟨_, [.slice none 0 0, .int .i64 (i + 1)], .tuple #[.slice none 0 0, .int .i64 (i + 1)], rfl, ⟨⟨_, (by kernel_rfl), ld1 (T := 24) (i := 0) hb223⟩, ⟨_, (by kernel_rfl), ld1 (T := 3) (i := 0) hb224⟩, trivial⟩, rfl, ?_⟩
            exact ⟨[], none, 0, i + 1, rfl, OwAt.nil, FtsO.nil, hi.bad hr44 (lineC_n hr63 (by show ¬ (List.getD r62 (Int.toNat 0) 0).toNat = 59; omega) hq219), K, by simp [blk]⟩
      · have ph68 := of_bne_false h68
        refine WC.skip ?_
        refine WX.blockN ?_
        refine WX.seqN ?_
        refine WC.region ?_
        refine WL.opE (d := 39) (.int .i64 (IntKind.i64.wrap (i + 1))) (v := .int .i64 (i + 1)) (congrArg (Value.int .i64) (IntWalk.i64_in _ (by omega))) (k := ?_)
        refine WL.op (d := 13) (.int .i64 (i + 1)) (k := ?_)
        refine WL.nil ?_
        refine WX.round (i + 1, cs, Ao, co) (by show ((splitL 10 l).length - (i + 1)).toNat < ((splitL 10 l).length - i).toNat; omega) ⟨(by kernel_rfl), (by kernel_rfl), (by kernel_rfl), (by kernel_rfl), (by kernel_rfl), (by kernel_rfl), (by kernel_rfl), (by kernel_rfl), (by kernel_rfl), trivial⟩ ⟨K, hb33, hb34, hb49, hb36, ol37, hb38, ol39, (by omega), (by omega), (hi.sayN i0 hr44 (lineC_c hr63 (by show (List.getD r62 (Int.toNat 0) 0).toNat = 59; omega))), (by omega), hF⟩
    have ph59 := of_decide_eq_false h59
    refine WL.rw (t := 24) (v := .bool false) (congrArg Value.bool h59) (k := ?_)
    refine WL.skip (d := 25) (k := ?_)
    refine WL.skip (d := 26) (k := ?_)
    refine WL.skip (d := 27) (k := ?_)
    refine WL.skip (d := 28) (k := ?_)
    refine WL.skip (d := 29) (k := ?_)
    refine WL.op (d := 30) (.bool false) (k := ?_)
    refine WL.nil ?_
    refine WX.seqN ?_
    refine WC.condF (k := ?_)
    refine WC.skip ?_
    refine WX.blockN ?_
    refine WX.seqN ?_
    refine WC.region ?_
    refine WL.opE (d := 39) (.int .i64 (IntKind.i64.wrap (i + 1))) (v := .int .i64 (i + 1)) (congrArg (Value.int .i64) (IntWalk.i64_in _ (by omega))) (k := ?_)
    refine WL.op (d := 13) (.int .i64 (i + 1)) (k := ?_)
    refine WL.nil ?_
    refine WX.round (i + 1, cs, Ao, co) (by show ((splitL 10 l).length - (i + 1)).toNat < ((splitL 10 l).length - i).toNat; omega) ⟨(by kernel_rfl), (by kernel_rfl), (by kernel_rfl), (by kernel_rfl), (by kernel_rfl), (by kernel_rfl), (by kernel_rfl), (by kernel_rfl), (by kernel_rfl), trivial⟩ ⟨K, hb33, hb34, hb49, hb36, ol37, hb38, ol39, (by omega), (by omega), (hi.sayN i0 hr44 (lineC_0 (by omega))), (by omega), hF⟩
  · have ph40 := of_decide_eq_false h40
    refine WC.exit ?_
    refine WX.seqE ?_
    refine WX.seqE ?_
    refine WX.blockE ?_
    refine WX.seqN ?_
    refine WC.seq ?_
    refine WC.region ?_
    refine WL.load (v := .slice Ao cs.length co) (ld1 (T := 24) (i := 0) hb33) (k := ?_)
    refine WL.store (v := .slice Ao cs.length co) (i := 0) (cs' := #[.slice Ao cs.length co]) hb33 (k := fun w226 hb227 k228 => ?_)
    replace hb34 := k228.heap hb34 (Ne.symm n13)
    replace hb35 := k228.heap hb35 (Ne.symm n20)
    replace hb36 := hb36.keeps k228 (fun i hi e => (hb36.offT hb33 (by decide)) (e ▸ hi))
    replace hb38 := hb38.keeps k228 (fun i hi e => (hb38.offT hb33 (by decide)) (e ▸ hi))
    replace hF := hF.keepsT k228 hb33 (by decide)
    replace K := K.trans' k228 (fun i hi e => absurd (e ▸ hi) (Nat.not_lt.2 z6))
    clear hb33
    refine WL.store (v := .int .i64 0) (i := 0) (cs' := #[.int .i64 0]) hb34 (k := fun w229 hb230 k231 => ?_)
    replace hb227 := k231.heap hb227 n13
    replace hb35 := k231.heap hb35 (Ne.symm n21)
    replace hb36 := hb36.keeps k231 (fun i hi e => (hb36.offT hb34 (by decide)) (e ▸ hi))
    replace hb38 := hb38.keeps k231 (fun i hi e => (hb38.offT hb34 (by decide)) (e ▸ hi))
    replace hF := hF.keepsT k231 hb34 (by decide)
    replace K := K.trans' k231 (fun i hi e => absurd (e ▸ hi) (Nat.not_lt.2 z12))
    clear hb34
    refine WL.nil ?_
    refine WX.seqN ?_
    refine WC.ret ?_
    refine WX.retD (rs := [.cell 2 24, .cell 3 3]) (g := 19) (cap := #[.pointer (some ⟨b14, 0, none⟩), .pointer (some ⟨b1, 0, none⟩), .pointer (some ⟨b7, 0, none⟩)]) (args := #[]) (fun _ _ => by kernel_rfl) (lnParse1_i w229) (fun e_ w232 h_ => ?_) rfl
    obtain ⟨rfl, k233⟩ := h_
    replace hb227 := k233.heap hb227 id
    replace hb230 := k233.heap hb230 id
    replace hb35 := k233.heap hb35 id
    replace hb36 := hb36.adds k233
    replace hb38 := hb38.adds k233
    replace hF := hF.adds k233
    replace K := K.trans (k233.any _)
    refine ⟨_, [.slice Ao cs.length co, .int .i64 0], .tuple #[.slice Ao cs.length co, .int .i64 0], rfl, ⟨⟨_, (by kernel_rfl), ld1 (T := 24) (i := 0) hb227⟩, ⟨_, (by kernel_rfl), ld1 (T := 3) (i := 0) hb230⟩, trivial⟩, rfl, ?_⟩
    exact ⟨cs, _, _, 0, rfl, hb38, hF, hi.end (by omega), K, ol39⟩
end Go.Proofs.YtoeinhlmkpgjhaaGreatDoor
namespace Go.Proofs.YtoeinhlmkpgjhaaGreatDoor
open Go.RowKit
set_option linter.unusedVariables false
set_option linter.unusedSimpArgs false
theorem cmd_chg {x : List UInt8} {t : Words} {o : GOp} {u : Words} (h : chgF x t = some (o, u)) (hx : (x = kRelease ∨ x = kAsk ∨ x = kTick ∨ x = kFail ∨ x = kQuery ∨ x = kSnapshot ∨ x = kStart ∨ x = kCrash) = False) : bodF x t = some (⟨1, o, 0, 0, 0, []⟩, u) := by
  have hx : ¬ (x = kRelease ∨ x = kAsk ∨ x = kTick ∨ x = kFail ∨ x = kQuery ∨ x = kSnapshot ∨ x = kStart ∨ x = kCrash) := fun k => hx ▸ k
  simp only [not_or] at hx
  obtain ⟨h1, h2, h3, h4, h5, h6, h7, h8⟩ := hx
  rw [bodF, if_neg h1, if_neg h2, if_neg h3, if_neg h4, if_neg h5, if_neg h6, if_neg h7, if_neg h8, h]; rfl
abbrev awP0 : PCmd := ⟨1, ⟨1, ⟨1, 2, 5, 10, 15⟩, false, 0, 0, 0⟩, 0, 0, 0, []⟩
abbrev awP1 : PCmd := ⟨8, GOp.zero, 0, 0, 0, [⟨1, 0⟩, ⟨2, 7⟩, ⟨0, 0⟩]⟩
abbrev awT : List UInt8 := [59, 32, 116, 119, 111, 10, 97, 100, 109, 105, 116, 32, 49, 58, 50, 47, 53, 47, 49, 48, 47, 49, 53, 10, 10, 99, 114, 97, 115, 104, 32, 107, 101, 112, 116, 32, 116, 111, 114, 110, 32, 55, 32, 108, 111, 115, 116]
theorem awP0_ok : awP0.ok := by
  refine ⟨rfl, by unfold PCmd.rngs; decide, fun f hf => (by simp at hf), fun _ => ⟨rfl, ?_⟩⟩
  show GOp.right _
  unfold GOp.right GTask.ok
  decide
theorem awP1_ok : awP1.ok := by
  refine ⟨rfl, by unfold PCmd.rngs; decide, fun f hf => ?_, fun h => absurd h (by decide)⟩
  simp only [List.mem_cons, List.not_mem_nil, or_false] at hf
  rcases hf with rfl | rfl | rfl <;> (unfold GFate.ok; decide)
theorem aw_split : splitL 10 awT = [[59, 32, 116, 119, 111], [97, 100, 109, 105, 116, 32, 49, 58, 50, 47, 53, 47, 49, 48, 47, 49, 53], [], [99, 114, 97, 115, 104, 32, 107, 101, 112, 116, 32, 116, 111, 114, 110, 32, 55, 32, 108, 111, 115, 116]] := by kernel_rfl
theorem aw_0 : lineC [59, 32, 116, 119, 111] = some none := lineC_c (r := [59]) (by kernel_rfl) rfl
theorem aw_1 : lineC [97, 100, 109, 105, 116, 32, 49, 58, 50, 47, 53, 47, 49, 48, 47, 49, 53] = some (some awP0) := by
  have hw : wordsL [97, 100, 109, 105, 116, 32, 49, 58, 50, 47, 53, 47, 49, 48, 47, 49, 53] = [kAdmit, [49, 58, 50, 47, 53, 47, 49, 48, 47, 49, 53]] := by kernel_rfl
  refine lineC_y (r := kAdmit) (by rw [hw]; rfl) (by decide) ?_
  rw [hw]
  exact cmdF_y rfl (cmd_chg (by kernel_rfl) (by simp)) rfl (cok_eqt awP0_ok)
theorem aw_3 : lineC [99, 114, 97, 115, 104, 32, 107, 101, 112, 116, 32, 116, 111, 114, 110, 32, 55, 32, 108, 111, 115, 116] = some (some awP1) := by
  have hw : wordsL [99, 114, 97, 115, 104, 32, 107, 101, 112, 116, 32, 116, 111, 114, 110, 32, 55, 32, 108, 111, 115, 116] = [kCrash, kKept, kTorn, [55], kLost] := by kernel_rfl
  refine lineC_y (r := kCrash) (by rw [hw]; rfl) (by decide) ?_
  rw [hw]
  have hf : fatF [kKept, kTorn, [55], kLost] = some [⟨1, 0⟩, ⟨2, 7⟩, ⟨0, 0⟩] := by kernel_rfl
  refine cmdF_y (x := kCrash) (t := [kKept, kTorn, [55], kLost]) (u := []) rfl ?_ rfl (cok_eqt awP1_ok)
  rw [bodF, if_neg (by decide), if_neg (by decide), if_neg (by decide), if_neg (by decide), if_neg (by decide), if_neg (by decide), if_neg (by decide), if_pos rfl, hf]; rfl
theorem lineC_nil : lineC [] = some none := lineC_0 (by simp [wordsL, splitL])
theorem aw_par : parV awT = ([awP0, awP1], 0) := by
  unfold parV
  rw [aw_split, parGo, aw_0]
  simp only
  rw [parGo, aw_1]
  simp only
  rw [parGo, lineC_nil]
  simp only
  rw [parGo, aw_3]
  rfl
theorem aw_eq {xs : List PCmd} {n : Int} (h : parV awT = (xs, n)) : xs = [awP0, awP1] ∧ n = 0 := by
  rw [aw_par] at h; cases h; exact ⟨rfl, rfl⟩
theorem itoa_one {n : Int} (h0 : 0 ≤ n) (h1 : n < 10) : Lib.itoa n = [UInt8.ofNat (48 + n.toNat)] := by
  obtain ⟨u, rfl⟩ : ∃ u : Nat, n = u := ⟨n.toNat, by omega⟩
  rw [Lib.itoa_nonneg, Lib.decDigits_one (by omega)]; rfl
theorem itoa_two {n : Int} (h0 : 10 ≤ n) (h1 : n < 100) : Lib.itoa n = [UInt8.ofNat (48 + n.toNat / 10), UInt8.ofNat (48 + n.toNat % 10)] := by
  obtain ⟨u, rfl⟩ : ∃ u : Nat, n = u := ⟨n.toNat, by omega⟩
  rw [Lib.itoa_nonneg, Lib.decDigits_two (by omega) (by omega)]; rfl
theorem aw_line : lineW awP0 = [97, 100, 109, 105, 116, 32, 49, 58, 50, 47, 53, 47, 49, 48, 47, 49, 53] := by
  rw [lineW_yes awP0_ok (fun h => absurd h (by decide)), cmdW, if_pos rfl, opW, if_pos rfl, if_neg (by decide)]
  have hok : (⟨1, 2, 5, 10, 15⟩ : GTask).ok := by unfold GTask.ok; decide
  show joinL 32 [kAdmit, taskW ⟨1, 2, 5, 10, 15⟩] = _
  rw [taskW, if_pos hok, itoa_one (n := 1) (by decide) (by decide), itoa_one (n := 2) (by decide) (by decide), itoa_one (n := 5) (by decide) (by decide), itoa_two (n := 10) (by decide) (by decide), itoa_two (n := 15) (by decide) (by decide)]
  kernel_rfl
end Go.Proofs.YtoeinhlmkpgjhaaGreatDoor
namespace Go.Proofs.YtoeinhlmkpgjhaaGreatDoor
open Go.RowKit
set_option linter.unusedVariables false
set_option linter.unusedSimpArgs false
theorem map_getL {α β : Type} {f : α → β} {xs : List α} {i : Nat} {r : α} (h : xs[i]? = some r) : (xs.map f)[i]? = some (f r) := by rw [List.getElem?_map, h]; rfl
set_option maxRecDepth 100000 in
set_option maxHeartbeats 4000000 in
theorem l25awake_c {w : World} (hG : GB w) : Calls Tryz.prog 5 #[] w fun e w' => e = .returned (.bool true) ∧ Adds w w' := by
  have K : Keeps (fun _ => False) w w := Keeps.refl _ w
  refine Calls.start Tryz.func5 rfl (by kernel_rfl) ?_
  refine WC.seq ?_
  refine WC.region ?_
  refine WL.op (d := 0) (.bool false) (k := ?_)
  refine WL.nil ?_
  refine WX.seqN ?_
  refine WC.seq ?_
  refine WC.region ?_
  refine WL.callG (d := 4) (f := 7) (args := #[.string ⟨#[59, 32, 116, 119, 111, 10, 97, 100, 109, 105, 116, 32, 49, 58, 50, 47, 53, 47, 49, 48, 47, 49, 53, 10, 10, 99, 114, 97, 115, 104, 32, 107, 101, 112, 116, 32, 116, 111, 114, 110, 32, 55, 32, 108, 111, 115, 116]⟩]) (lnParse_c (l := [59, 32, 116, 119, 111, 10, 97, 100, 109, 105, 116, 32, 49, 58, 50, 47, 53, 47, 49, 48, 47, 49, 53, 10, 10, 99, 114, 97, 115, 104, 32, 107, 101, 112, 116, 32, 116, 111, 114, 110, 32, 55, 32, 108, 111, 115, 116]) (by first | omega | (simp; done) | (simp; omega)) (hG.keeps K (fun _ _ x => x))) (k := fun e_ w1 h_ => ?_)
  obtain ⟨xs2, A3, c4, n5, rfl, ho6, hF7, hP8, k9, ol10⟩ := h_
  refine ⟨_, rfl, ?_⟩
  have ol11 := fun i h => Nat.le_trans K.size (ol10 i h)
  replace K := K.trans (k9.any _)
  clear ol10
  obtain ⟨hx_, rfl⟩ := aw_eq hP8
  have l2_ : xs2.length = 2 := by have q_ := congrArg List.length hx_; simpa using q_
  refine WL.op (d := 3) (.tuple #[.slice A3 xs2.length c4, .int .i64 0]) (k := ?_)
  refine WL.op (d := 5) (.slice A3 xs2.length c4) (k := ?_)
  refine WL.op (d := 6) (.int .i64 0) (k := ?_)
  refine WL.op (d := 1) (.slice A3 xs2.length c4) (k := ?_)
  refine WL.op (d := 2) (.int .i64 0) (k := ?_)
  refine WL.nil ?_
  refine WX.seqN ?_
  refine WC.seq ?_
  refine WC.region ?_
  refine WL.op (d := 7) (.int .i64 0) (k := ?_)
  refine WL.op (d := 8) (.bool true) (k := ?_)
  refine WL.op (d := 9) (.bool true) (k := ?_)
  refine WL.op (d := 10) (.slice A3 xs2.length c4) (k := ?_)
  refine WL.op (d := 11) (.int .i64 (xs2.length : Int)) (k := ?_)
  refine WL.op (d := 12) (.bool ((xs2.length : Int) == 2)) (k := ?_)
  refine WL.op (d := 13) (.bool ((xs2.length : Int) == 2)) (k := ?_)
  refine WL.op (d := 14) (.bool ((xs2.length : Int) == 2)) (k := ?_)
  refine bsplit ((xs2.length : Int) == 2) (fun h12 => ?_) (fun h12 => ?_)
  · have ph12 := eq_of_beq h12
    refine WL.rw (t := 14) (v := .bool true) (congrArg Value.bool h12) (k := ?_)
    refine WL.op (d := 15) (.slice A3 xs2.length c4) (k := ?_)
    obtain ⟨b13, o14, r15, hr16, hA17, he18⟩ := SlAt.at (ho6.sl ekCmd) (i := 0) (by omega) (by omega)
    refine WL.rw (t := 15) (v := .slice (some ⟨b13, o14, none⟩) xs2.length c4) (congrArg (fun a => Value.slice a xs2.length c4) hA17) (k := ?_)
    obtain ⟨hs19, hc20, hl21⟩ := fts_mem hF7.fts hr16
    have ep22 : r15.p = awP0 := by have q_ := map_getL (f := GCmd.p) hr16; rw [hx_] at q_; exact (Option.some.inj q_).symm
    have ed23 : r15.p.op.task.d = 5 := by rw [ep22] <;> rfl
    have ef24 : r15.p.fs.length = 0 := by rw [ep22] <;> rfl
    refine WL.idx (T := 24) (E := 39) (m := 15) (b := b13) (o := o14) (len := xs2.length) (cap := c4) (i := 0) (kk := .i64) (d := 16) (by omega) (by omega) (k := ?_)
    refine WL.rw (t := 15) (v := .slice A3 xs2.length c4) (congrArg (fun a => Value.slice a xs2.length c4) (Eq.symm hA17)) (k := ?_)
    refine WL.op (d := 17) (.pointer (some ⟨b13, o14 + (0 : Int).toNat * 15 + 1, none⟩)) (k := ?_)
    refine WL.op (d := 18) (.pointer (some ⟨b13, o14 + (0 : Int).toNat * 15 + 2, none⟩)) (k := ?_)
    refine WL.op (d := 19) (.pointer (some ⟨b13, o14 + (0 : Int).toNat * 15 + 4, none⟩)) (k := ?_)
    refine WL.load (v := .int .i64 r15.p.op.task.d) (he18.ldF (T := 2) (off := 4)) (k := ?_)
    refine WL.op (d := 21) (.bool (r15.p.op.task.d == 5)) (k := ?_)
    refine WL.op (d := 22) (.bool (r15.p.op.task.d == 5)) (k := ?_)
    refine WL.op (d := 23) (.bool (r15.p.op.task.d == 5)) (k := ?_)
    refine bsplit (r15.p.op.task.d == 5) (fun h25 => ?_) (fun h25 => ?_)
    · have ph25 := eq_of_beq h25
      refine WL.rw (t := 23) (v := .bool true) (congrArg Value.bool h25) (k := ?_)
      refine WL.op (d := 24) (.slice A3 xs2.length c4) (k := ?_)
      obtain ⟨b26, o27, r28, hr29, hA30, he31⟩ := SlAt.at (ho6.sl ekCmd) (i := 1) (by omega) (by omega)
      refine WL.rw (t := 24) (v := .slice (some ⟨b26, o27, none⟩) xs2.length c4) (congrArg (fun a => Value.slice a xs2.length c4) hA30) (k := ?_)
      obtain ⟨hs32, hc33, hl34⟩ := fts_mem hF7.fts hr29
      have ep35 : r28.p = awP1 := by have q_ := map_getL (f := GCmd.p) hr29; rw [hx_] at q_; exact (Option.some.inj q_).symm
      have ed36 : r28.p.op.task.d = 0 := by rw [ep35] <;> rfl
      have ef37 : r28.p.fs.length = 3 := by rw [ep35] <;> rfl
      refine WL.idx (T := 24) (E := 39) (m := 15) (b := b26) (o := o27) (len := xs2.length) (cap := c4) (i := 1) (kk := .i64) (d := 25) (by omega) (by omega) (k := ?_)
      refine WL.rw (t := 24) (v := .slice A3 xs2.length c4) (congrArg (fun a => Value.slice a xs2.length c4) (Eq.symm hA30)) (k := ?_)
      refine WL.op (d := 26) (.pointer (some ⟨b26, o27 + (1 : Int).toNat * 15 + 14, none⟩)) (k := ?_)
      refine WL.load (v := .slice r28.A r28.p.fs.length r28.cap) (he31.ldF (T := 37) (off := 14)) (k := ?_)
      refine WL.op (d := 28) (.int .i64 (r28.p.fs.length : Int)) (k := ?_)
      refine WL.op (d := 29) (.bool ((r28.p.fs.length : Int) == 3)) (k := ?_)
      refine WL.op (d := 30) (.bool ((r28.p.fs.length : Int) == 3)) (k := ?_)
      refine WL.op (d := 31) (.bool ((r28.p.fs.length : Int) == 3)) (k := ?_)
      refine bsplit ((r28.p.fs.length : Int) == 3) (fun h38 => ?_) (fun h38 => ?_)
      · have ph38 := eq_of_beq h38
        refine WL.rw (t := 31) (v := .bool true) (congrArg Value.bool h38) (k := ?_)
        refine WL.op (d := 32) (.slice A3 xs2.length c4) (k := ?_)
        obtain ⟨b39, o40, r41, hr42, hA43, he44⟩ := SlAt.at (ho6.sl ekCmd) (i := 0) (by omega) (by omega)
        refine WL.rw (t := 32) (v := .slice (some ⟨b39, o40, none⟩) xs2.length c4) (congrArg (fun a => Value.slice a xs2.length c4) hA43) (k := ?_)
        obtain ⟨hs45, hc46, hl47⟩ := fts_mem hF7.fts hr42
        have ep48 : r41.p = awP0 := by have q_ := map_getL (f := GCmd.p) hr42; rw [hx_] at q_; exact (Option.some.inj q_).symm
        have ed49 : r41.p.op.task.d = 5 := by rw [ep48] <;> rfl
        have ef50 : r41.p.fs.length = 0 := by rw [ep48] <;> rfl
        refine WL.idx (T := 24) (E := 39) (m := 15) (b := b39) (o := o40) (len := xs2.length) (cap := c4) (i := 0) (kk := .i64) (d := 33) (by omega) (by omega) (k := ?_)
        refine WL.rw (t := 32) (v := .slice A3 xs2.length c4) (congrArg (fun a => Value.slice a xs2.length c4) (Eq.symm hA43)) (k := ?_)
        refine WL.load (v := GCmd.val r41) (he44.ldW (T := 39)) (k := ?_)
        refine WL.callG (d := 35) (f := 13) (args := #[GCmd.val r41]) (lnLine_c (c := r41) (hG.keeps K (fun _ _ x => x)) hs45 (by first | omega | simp)) (k := fun e_ w52 h_ => ⟨.string ⟨(lineW r41.p).toArray⟩, h_.1, ?_⟩)
        have k53 := h_.2; clear h_
        replace ho6 := ho6.adds k53
        replace he18 := he18.adds k53
        replace hs19 := hs19.adds k53
        replace he31 := he31.adds k53
        replace hs32 := hs32.adds k53
        replace he44 := he44.adds k53
        replace hs45 := hs45.adds k53
        replace hF7 := hF7.adds k53
        replace K := K.trans (k53.any _)
        have ll51 := lineW_le r41.p
        refine WL.opE (d := 36) (.bool (ByteArray.toList ⟨(lineW r41.p).toArray⟩ == ByteArray.toList ⟨([97, 100, 109, 105, 116, 32, 49, 58, 50, 47, 53, 47, 49, 48, 47, 49, 53]).toArray⟩)) (v := .bool (decide (lineW r41.p = [97, 100, 109, 105, 116, 32, 49, 58, 50, 47, 53, 47, 49, 48, 47, 49, 53]))) (str_eql _ _) (k := ?_)
        refine WL.op (d := 37) (.bool (decide (lineW r41.p = [97, 100, 109, 105, 116, 32, 49, 58, 50, 47, 53, 47, 49, 48, 47, 49, 53]))) (k := ?_)
        refine WL.op (d := 0) (.bool (decide (lineW r41.p = [97, 100, 109, 105, 116, 32, 49, 58, 50, 47, 53, 47, 49, 48, 47, 49, 53]))) (k := ?_)
        refine WL.nil ?_
        refine WX.seqN ?_
        refine WC.ret ?_
        refine WX.ret (rs := [.tmp 0]) [.bool (decide (lineW r41.p = [97, 100, 109, 105, 116, 32, 49, 58, 50, 47, 53, 47, 49, 48, 47, 49, 53]))] (.bool (decide (lineW r41.p = [97, 100, 109, 105, 116, 32, 49, 58, 50, 47, 53, 47, 49, 48, 47, 49, 53]))) ⟨(by kernel_rfl), trivial⟩ (k := ?_)
        exact ⟨ret_bool (decide_eq_true (by rw [ep48]; exact aw_line)), K⟩
      · have ph38 := ne_of_beq_false h38
        refine WL.rw (t := 31) (v := .bool false) (congrArg Value.bool h38) (k := ?_)
        refine WL.skip (d := 32) (k := ?_)
        refine WL.skip (d := 33) (k := ?_)
        refine WL.skip (d := 34) (k := ?_)
        refine WL.skip (d := 35) (k := ?_)
        refine WL.skip (d := 36) (k := ?_)
        refine WL.op (d := 37) (.bool false) (k := ?_)
        refine WL.op (d := 0) (.bool false) (k := ?_)
        refine WL.nil ?_
        refine WX.seqN ?_
        refine WC.ret ?_
        refine WX.ret (rs := [.tmp 0]) [.bool false] (.bool false) ⟨(by kernel_rfl), trivial⟩ (k := ?_)
        exfalso; omega
    · have ph25 := ne_of_beq_false h25
      refine WL.rw (t := 23) (v := .bool false) (congrArg Value.bool h25) (k := ?_)
      refine WL.skip (d := 24) (k := ?_)
      refine WL.skip (d := 25) (k := ?_)
      refine WL.skip (d := 26) (k := ?_)
      refine WL.skip (d := 27) (k := ?_)
      refine WL.skip (d := 28) (k := ?_)
      refine WL.skip (d := 29) (k := ?_)
      refine WL.op (d := 30) (.bool false) (k := ?_)
      refine WL.op (d := 31) (.bool false) (k := ?_)
      refine WL.skip (d := 32) (k := ?_)
      refine WL.skip (d := 33) (k := ?_)
      refine WL.skip (d := 34) (k := ?_)
      refine WL.skip (d := 35) (k := ?_)
      refine WL.skip (d := 36) (k := ?_)
      refine WL.op (d := 37) (.bool false) (k := ?_)
      refine WL.op (d := 0) (.bool false) (k := ?_)
      refine WL.nil ?_
      refine WX.seqN ?_
      refine WC.ret ?_
      refine WX.ret (rs := [.tmp 0]) [.bool false] (.bool false) ⟨(by kernel_rfl), trivial⟩ (k := ?_)
      exfalso; omega
  · have ph12 := ne_of_beq_false h12
    refine WL.rw (t := 14) (v := .bool false) (congrArg Value.bool h12) (k := ?_)
    refine WL.skip (d := 15) (k := ?_)
    refine WL.skip (d := 16) (k := ?_)
    refine WL.skip (d := 17) (k := ?_)
    refine WL.skip (d := 18) (k := ?_)
    refine WL.skip (d := 19) (k := ?_)
    refine WL.skip (d := 20) (k := ?_)
    refine WL.skip (d := 21) (k := ?_)
    refine WL.op (d := 22) (.bool false) (k := ?_)
    refine WL.op (d := 23) (.bool false) (k := ?_)
    refine WL.skip (d := 24) (k := ?_)
    refine WL.skip (d := 25) (k := ?_)
    refine WL.skip (d := 26) (k := ?_)
    refine WL.skip (d := 27) (k := ?_)
    refine WL.skip (d := 28) (k := ?_)
    refine WL.skip (d := 29) (k := ?_)
    refine WL.op (d := 30) (.bool false) (k := ?_)
    refine WL.op (d := 31) (.bool false) (k := ?_)
    refine WL.skip (d := 32) (k := ?_)
    refine WL.skip (d := 33) (k := ?_)
    refine WL.skip (d := 34) (k := ?_)
    refine WL.skip (d := 35) (k := ?_)
    refine WL.skip (d := 36) (k := ?_)
    refine WL.op (d := 37) (.bool false) (k := ?_)
    refine WL.op (d := 0) (.bool false) (k := ?_)
    refine WL.nil ?_
    refine WX.seqN ?_
    refine WC.ret ?_
    refine WX.ret (rs := [.tmp 0]) [.bool false] (.bool false) ⟨(by kernel_rfl), trivial⟩ (k := ?_)
    exfalso; omega
end Go.Proofs.YtoeinhlmkpgjhaaGreatDoor
namespace Go.Proofs.YtoeinhlmkpgjhaaGreatDoor
open Go.RowKit
set_option linter.unusedVariables false
set_option linter.unusedSimpArgs false
theorem cut_at {a b : List UInt8} {c : UInt8} (h : c ∉ a) : Lib.cut (a ++ c :: b) [c] = (a, b, true) := by
  have hm : Lib.indexByte (a ++ c :: b) c ≠ -1 := fun e => Lib.indexByte_none e a.length (by simp)
  have hge := Lib.indexByte_ge (a ++ c :: b) c
  obtain ⟨o, ho⟩ : ∃ o : Nat, Lib.indexByte (a ++ c :: b) c = o := ⟨(Lib.indexByte (a ++ c :: b) c).toNat, by omega⟩
  obtain ⟨h2, h3⟩ := Lib.indexByte_some ho
  have hoa : o = a.length := by
    rcases Nat.lt_trichotomy o a.length with hl | hl | hl
    · rw [List.getElem?_append_left hl] at h2
      exact absurd (List.mem_of_getElem? h2) h
    · exact hl
    · exact absurd (by simp) (h3 a.length hl)
  unfold Lib.cut
  rw [Lib.index_one, ho, if_pos (by omega), hoa]
  simp
section
variable {t : GTask} (h : t.ok)
include h
end
end Go.Proofs.YtoeinhlmkpgjhaaGreatDoor
namespace Go.Proofs.YtoeinhlmkpgjhaaGreatDoor
open Go.RowKit
set_option linter.unusedVariables false
set_option linter.unusedSimpArgs false
end Go.Proofs.YtoeinhlmkpgjhaaGreatDoor
namespace Go.Proofs.YtoeinhlmkpgjhaaGreatDoor
open Go.RowKit
set_option linter.unusedVariables false
set_option linter.unusedSimpArgs false
end Go.Proofs.YtoeinhlmkpgjhaaGreatDoor
namespace Go.Proofs.YtoeinhlmkpgjhaaGreatDoor
open Go.RowKit
set_option linter.unusedVariables false
set_option linter.unusedSimpArgs false
end Go.Proofs.YtoeinhlmkpgjhaaGreatDoor
namespace Go.Proofs.YtoeinhlmkpgjhaaGreatDoor
open Go.RowKit
set_option linter.unusedVariables false
set_option linter.unusedSimpArgs false
end Go.Proofs.YtoeinhlmkpgjhaaGreatDoor
namespace Go.Proofs.YtoeinhlmkpgjhaaGreatDoor
open Go.RowKit
set_option linter.unusedVariables false
set_option linter.unusedSimpArgs false
def numR (l : List UInt8) : Int := if numP l then (numV l : Nat) else -1
theorem numR_rng (l : List UInt8) : -1 ≤ numR l ∧ numR l ≤ 2147483648 := by
  have := numV_le l
  unfold numR; split <;> omega
theorem numR_yes {l : List UInt8} (h : numP l) : numR l = (numV l : Nat) := if_pos h
theorem numR_no {l : List UInt8} (h : ¬ numP l) : numR l = -1 := if_neg h
theorem numR_pos {l : List UInt8} : 0 ≤ numR l ↔ numP l := by
  unfold numR
  split
  · next h => exact ⟨fun _ => h, fun _ => by omega⟩
  · next h => exact ⟨fun k => by omega, fun k => absurd k h⟩
theorem dv_lt : ∀ (l : List UInt8), (∀ c ∈ l, digB c = true) → ∀ n, l.foldl dvS n < (n + 1) * 10 ^ l.length
  | [], _, n => by simp
  | c :: l, h, n => by
    have hc := h c (List.mem_cons_self ..)
    unfold digB at hc
    simp only [Bool.and_eq_true, decide_eq_true_eq] at hc
    have ih := dv_lt l (fun d hd => h d (List.mem_cons_of_mem _ hd)) (dvS n c)
    have hle : dvS n c + 1 ≤ (n + 1) * 10 := by unfold dvS; omega
    rw [List.foldl_cons, List.length_cons, Nat.pow_succ]
    calc _ < (dvS n c + 1) * 10 ^ l.length := ih
      _ ≤ ((n + 1) * 10) * 10 ^ l.length := Nat.mul_le_mul_right _ hle
      _ = _ := by rw [Nat.mul_assoc, Nat.mul_comm 10]
theorem dv_ge : ∀ (l : List UInt8) (n : Nat), n * 10 ^ l.length ≤ l.foldl dvS n
  | [], n => by simp
  | c :: l, n => by
    have ih := dv_ge l (dvS n c)
    have hle : n * 10 ≤ dvS n c := by unfold dvS; omega
    rw [List.foldl_cons, List.length_cons, Nat.pow_succ]
    calc n * (10 ^ l.length * 10) = (n * 10) * 10 ^ l.length := by rw [Nat.mul_assoc, Nat.mul_comm 10]
      _ ≤ dvS n c * 10 ^ l.length := Nat.mul_le_mul_right _ hle
      _ ≤ _ := ih
theorem num_len {l : List UInt8} (h : numP l) : l.length ≤ 10 := by
  obtain ⟨h1, h2, h3, h4⟩ := h
  cases l with
  | nil => simp
  | cons c l =>
    rcases Nat.lt_or_ge 10 (c :: l).length with hl | hl
    · exfalso
      have hc := h3 c (List.mem_cons_self ..)
      unfold digB at hc
      simp only [Bool.and_eq_true, decide_eq_true_eq] at hc
      have hc1 : 1 ≤ dvS 0 c := by
        unfold dvS
        rcases Nat.lt_or_ge 48 c.toNat with k | k
        · omega
        · exact absurd ⟨by omega, UInt8.toNat_inj.1 (by show c.toNat = 48; omega)⟩ h2
      have hg : dvS 0 c * 10 ^ l.length ≤ dv (c :: l) := dv_ge l (dvS 0 c)
      have hp : 10 ^ 10 ≤ 10 ^ l.length := Nat.pow_le_pow_right (by decide) (by simp only [List.length_cons] at hl; omega)
      have : 10 ^ l.length ≤ dvS 0 c * 10 ^ l.length := Nat.le_mul_of_pos_left _ hc1
      omega
    · exact hl
theorem dv_take_lt {l : List UInt8} {p : Nat} (hd : ∀ c ∈ l.take p, digB c = true) (hl : l.length ≤ 10) : dv (l.take p) < 10000000000 := by
  have h := dv_lt (l.take p) hd 0
  have h2 : 10 ^ (l.take p).length ≤ 10 ^ 10 := Nat.pow_le_pow_right (by decide) (by rw [List.length_take]; omega)
  unfold dv; omega
theorem numR_bad {l : List UInt8} (h : ¬ numP l) : (-1 : Int) = numR l := (numR_no h).symm
theorem numR_all {l : List UInt8} {i : Int} (h0 : l ≠ []) (h1 : ¬ (1 < l.length ∧ l.getD 0 0 = 48)) (hd : ∀ c ∈ l.take i.toNat, digB c = true) (hi : (l.length : Int) ≤ i) : (dv (l.take i.toNat) ≤ 2147483648 → ((dv (l.take i.toNat) : Nat) : Int) = numR l) ∧ (¬ dv (l.take i.toNat) ≤ 2147483648 → (-1 : Int) = numR l) := by
  rw [List.take_of_length_le (by omega)] at hd ⊢
  refine ⟨fun h => ?_, fun h => numR_bad fun k => h k.2.2.2⟩
  have hp : numP l := ⟨h0, h1, hd, h⟩
  rw [numR_yes hp, (num_yes hp).2]
def ptF (vals : List Nat) (cur : List UInt8) : List UInt8 → Option (List Nat)
  | [] => if 4 < vals.length then none else if numP cur then some (vals ++ [numV cur]) else none
  | c :: r => if c = 58 ∨ c = 47 then (if 4 < vals.length ∨ ¬ (vals.length = 0 ↔ c = 58) then none else if numP cur then ptF (vals ++ [numV cur]) [] r else none) else ptF vals (cur ++ [c]) r
def preL (cur : List UInt8) : Words → Words
  | [] => [cur]
  | x :: t => (cur ++ x) :: t
theorem numP_no {l : List UInt8} {c : UInt8} (h : c ∈ l) (hc : digB c = false) : ¬ numP l := fun k => by
  have := k.2.2.1 c h
  rw [hc] at this; cases this
theorem splitL_ne (c : UInt8) (l : List UInt8) : splitL c l ≠ [] := fun k => by
  have := splitL_len c l; rw [k] at this; simp at this
theorem ptF_many : ∀ (r : List UInt8) (vals : List Nat) (cur : List UInt8), vals ≠ [] → ptF vals cur r = @ite _ ((∀ x ∈ preL cur (splitL 47 r), numP x) ∧ vals.length + (splitL 47 r).length ≤ 5) (Classical.propDecidable _) (some (vals ++ (preL cur (splitL 47 r)).map numV)) none
  | [], vals, cur, hv => by
    unfold ptF
    simp only [splitL, preL, List.append_nil, List.length_cons, List.length_nil, List.map_cons, List.map_nil, List.mem_singleton, forall_eq]
    by_cases h4 : 4 < vals.length
    · rw [if_pos h4, if_neg (by omega)]
    · rw [if_neg h4]
      by_cases hn : numP cur
      · rw [if_pos hn, if_pos ⟨hn, by omega⟩]
      · rw [if_neg hn, if_neg (fun k => hn k.1)]
  | c :: r, vals, cur, hv => by
    have hl : vals.length ≠ 0 := fun k => hv (List.eq_nil_of_length_eq_zero k)
    by_cases h47 : c = 47
    · subst h47
      rw [ptF, if_pos (.inr rfl)]
      have e : splitL 47 (47 :: r) = [] :: splitL 47 r := by rw [splitL, if_pos rfl]
      have ep : preL [] (splitL 47 r) = splitL 47 r := by
        cases h : splitL 47 r with
        | nil => exact absurd h (splitL_ne _ _)
        | cons y ys => rfl
      rw [e]
      simp only [preL, List.append_nil, List.length_cons, List.map_cons, List.mem_cons, forall_eq_or_imp]
      have hpos := List.length_pos_iff.2 (splitL_ne 47 r)
      by_cases h4 : 4 < vals.length
      · rw [if_pos (.inl h4), if_neg (by omega)]
      · rw [if_neg (by intro k; exact k.elim h4 (fun k => k ⟨fun k => absurd k hl, fun k => by cases k⟩))]
        by_cases hn : numP cur
        · rw [if_pos hn, ptF_many r _ _ (by simp), ep]
          simp only [List.length_append, List.length_cons, List.length_nil, List.append_assoc, List.cons_append, List.nil_append]
          by_cases hall : (∀ x ∈ splitL 47 r, numP x) ∧ vals.length + (0 + 1) + (splitL 47 r).length ≤ 5
          · rw [if_pos hall, if_pos ⟨⟨hn, hall.1⟩, by omega⟩]
          · rw [if_neg hall, if_neg (fun k => hall ⟨k.1.2, by omega⟩)]
        · rw [if_neg hn, if_neg (fun k => hn k.1.1)]
    · cases h : splitL 47 r with
      | nil => exact absurd h (splitL_ne _ _)
      | cons y ys =>
        have e : splitL 47 (c :: r) = (c :: y) :: ys := by rw [splitL, if_neg h47, h]
        by_cases h58 : c = 58
        · subst h58
          rw [ptF, if_pos (.inl rfl), if_pos (.inr (fun k => absurd (k.2 rfl) hl)), e, if_neg]
          intro k
          exact numP_no (c := 58) (by simp) (by decide) (k.1 _ (List.mem_cons_self ..))
        · rw [ptF, if_neg (by intro k; exact k.elim h58 h47), ptF_many r _ _ hv, h, e]
          rw [show preL (cur ++ [c]) (y :: ys) = preL cur ((c :: y) :: ys) from by simp [preL]]
          rfl
theorem ptF_none : ∀ (r cur : List UInt8), (58 : UInt8) ∉ r → ptF [] cur r = if numP (cur ++ r) then some [numV (cur ++ r)] else none
  | [], cur, _ => by simp [ptF]
  | c :: r, cur, h => by
    have h58 : ¬ c = 58 := fun e => h (e ▸ List.mem_cons_self ..)
    by_cases h47 : c = 47
    · subst h47
      rw [ptF, if_pos (.inr rfl), if_pos (.inr (fun k => absurd (k.1 rfl) (by decide))), if_neg (numP_no (c := 47) (by simp) (by decide))]
    · rw [ptF, if_neg (by intro k; exact k.elim h58 h47), ptF_none r _ (fun k => h (List.mem_cons_of_mem _ k))]
      simp
theorem ptF_cut (b : List UInt8) : ∀ (a cur : List UInt8), (58 : UInt8) ∉ a → ptF [] cur (a ++ 58 :: b) = if numP (cur ++ a) then ptF [numV (cur ++ a)] [] b else none
  | [], cur, _ => by
    rw [List.nil_append, ptF, if_pos (.inl rfl), if_neg (by intro k; exact k.elim (fun k => by simp at k) (fun k => k ⟨fun _ => rfl, fun _ => rfl⟩)), List.append_nil]; rfl
  | c :: r, cur, h => by
    have h58 : ¬ c = 58 := fun e => h (e ▸ List.mem_cons_self ..)
    by_cases h47 : c = 47
    · subst h47
      rw [List.cons_append, ptF, if_pos (.inr rfl), if_pos (.inr (fun k => absurd (k.1 rfl) (by decide))), if_neg (numP_no (c := 47) (by simp) (by decide))]
    · rw [List.cons_append, ptF, if_neg (by intro k; exact k.elim h58 h47), ptF_cut b r _ (fun k => h (List.mem_cons_of_mem _ k))]
      simp
theorem cut_none {l : List UInt8} {c : UInt8} (h : c ∉ l) : (Lib.cut l [c]).2.2 = false := by
  unfold Lib.cut
  have hm : Lib.indexByte l c = -1 := by
    have hge := Lib.indexByte_ge l c
    rcases Int.lt_or_le (Lib.indexByte l c) 0 with k | k
    · omega
    · obtain ⟨o, ho⟩ : ∃ o : Nat, Lib.indexByte l c = o := ⟨(Lib.indexByte l c).toNat, by omega⟩
      exact absurd (List.mem_of_getElem? (Lib.indexByte_some ho).1) h
  rw [Lib.index_one, hm]; rfl
theorem pt_spec (s : List UInt8) : (ptF [] [] s = none → ¬ taskP s) ∧ ∀ v, ptF [] [] s = some v → (¬ v.length = 5 → ¬ taskP s) ∧ (v.length = 5 → taskT (taskL s) = ⟨(v.getD 0 0 : Nat), (v.getD 1 0 : Nat), (v.getD 2 0 : Nat), (v.getD 3 0 : Nat), (v.getD 4 0 : Nat)⟩ ∧ (taskP s ↔ (taskT (taskL s)).ok)) := by
  by_cases h58 : (58 : UInt8) ∈ s
  · obtain ⟨a, b, rfl, ha⟩ : ∃ a b, s = a ++ 58 :: b ∧ (58 : UInt8) ∉ a := by
      have : ∀ l : List UInt8, (58 : UInt8) ∈ l → ∃ a b, l = a ++ 58 :: b ∧ (58 : UInt8) ∉ a := fun l => by
        induction l with
        | nil => intro h; simp at h
        | cons c l ih =>
          intro h
          by_cases hc : c = 58
          · exact ⟨[], l, by rw [hc]; rfl, by simp⟩
          · obtain ⟨a, b, rfl, ha⟩ := ih ((List.mem_cons.1 h).resolve_left (fun e => hc e.symm))
            exact ⟨c :: a, b, rfl, fun k => (List.mem_cons.1 k).elim (fun e => hc e.symm) ha⟩
      exact this s h58
    have hc := cut_at (b := b) ha
    have hL : taskL (a ++ 58 :: b) = splitL 47 b ++ [a] := by unfold taskL; rw [hc]
    have e := ptF_cut b a [] ha
    rw [List.nil_append] at e
    have ep : preL [] (splitL 47 b) = splitL 47 b := by
      cases h : splitL 47 b with
      | nil => exact absurd h (splitL_ne _ _)
      | cons y ys => rfl
    rw [ptF_many b _ _ (by simp), ep] at e
    simp only [List.length_cons, List.length_nil] at e
    have hP : taskP (a ++ 58 :: b) ↔ (splitL 47 b).length = 4 ∧ (∀ x ∈ splitL 47 b, numP x) ∧ numP a ∧ (taskT (taskL (a ++ 58 :: b))).ok := by
      unfold taskP
      rw [hc, hL]
      simp only [List.length_append, List.length_cons, List.length_nil, List.mem_append, List.mem_singleton]
      constructor
      · intro ⟨_, h2, h3, h4⟩
        exact ⟨by omega, fun x hx => h3 x (.inl hx), h3 a (.inr rfl), h4⟩
      · intro ⟨h1, h2, h3, h4⟩
        exact ⟨trivial, by omega, fun x hx => hx.elim (h2 x) (fun e => e ▸ h3), h4⟩
    by_cases hn : numP a
    · rw [if_pos hn] at e
      by_cases hall : (∀ x ∈ splitL 47 b, numP x) ∧ 0 + 1 + (splitL 47 b).length ≤ 5
      · rw [if_pos hall] at e
        refine ⟨fun k => (by rw [e] at k; cases k), fun v hv => ?_⟩
        rw [e] at hv
        cases hv
        simp only [List.cons_append, List.nil_append, List.length_cons, List.length_map]
        refine ⟨fun k1 k2 => k1 (by have := (hP.1 k2).1; omega), fun k => ?_⟩
        have h4 : (splitL 47 b).length = 4 := by omega
        refine ⟨?_, fun k => (hP.1 k).2.2.2, fun k => hP.2 ⟨h4, hall.1, hn, k⟩⟩
        rw [hL]
        obtain ⟨x0, x1, x2, x3, hx⟩ : ∃ x0 x1 x2 x3, splitL 47 b = [x0, x1, x2, x3] := by
          generalize splitL 47 b = L at h4
          match L, h4 with
          | [x0, x1, x2, x3], _ => exact ⟨x0, x1, x2, x3, rfl⟩
        rw [hx]; rfl
      · rw [if_neg hall] at e
        exact ⟨fun _ k => hall ⟨(hP.1 k).2.1, by have := (hP.1 k).1; omega⟩, fun v hv => by rw [e] at hv; cases hv⟩
    · rw [if_neg hn] at e
      exact ⟨fun _ k => hn (hP.1 k).2.2.1, fun v hv => by rw [e] at hv; cases hv⟩
  · have e := ptF_none s [] h58
    have hno : ¬ taskP s := fun k => by
      have := k.1
      rw [cut_none h58] at this; cases this
    refine ⟨fun _ => hno, fun v hv => ⟨fun _ => hno, fun h5 => ?_⟩⟩
    rw [e] at hv
    split at hv
    · cases hv; simp at h5
    · cases hv
theorem drop_take_snoc {l : List UInt8} {a i : Nat} (h : a ≤ i) (hi : i < l.length) : (l.take (i + 1)).drop a = (l.take i).drop a ++ [l[i]] := by
  rw [List.take_succ_eq_append_getElem hi, List.drop_append_of_le_length (by rw [List.length_take]; omega)]
def ptI (s : List UInt8) (i at_ : Int) (vals : List Nat) : Prop := ptF [] [] s = ptF vals ((s.take i.toNat).drop at_.toNat) (s.drop i.toNat)
theorem ptI_zero (s : List UInt8) : ptI s 0 0 [] := by unfold ptI; simp
theorem ptI_skip {s : List UInt8} {i at_ : Int} {vals : List Nat} (h : ptI s i at_ vals) (h0 : 0 ≤ at_) (h1 : at_ ≤ i) (hi : i < s.length) (h58 : ¬ ((s.getD i.toNat 0).toNat : Int) = 58) (h47 : ¬ ((s.getD i.toNat 0).toNat : Int) = 47) : ptI s (i + 1) at_ vals := by
  unfold ptI at h ⊢
  have hlt : i.toNat < s.length := by omega
  have hg : s.getD i.toNat 0 = s[i.toNat] := by simp [List.getD, hlt]
  rw [hg] at h58 h47
  rw [h, List.drop_eq_getElem_cons hlt, ptF, if_neg, show (i + 1).toNat = i.toNat + 1 by omega, drop_take_snoc (by omega) hlt]
  intro k
  rcases k with k | k
  · rw [k] at h58; exact h58 rfl
  · rw [k] at h47; exact h47 rfl
theorem ptI_sep {s : List UInt8} {i at_ : Int} {vals : List Nat} (h : ptI s i at_ vals) (h0 : 0 ≤ at_) (h1 : at_ ≤ i) (hi : i < s.length) (hc : ((s.getD i.toNat 0).toNat : Int) = 58 ∨ ((s.getD i.toNat 0).toNat : Int) = 47) :
    (4 < vals.length ∨ ¬ (vals.length = 0 ↔ ((s.getD i.toNat 0).toNat : Int) = 58) → ptF [] [] s = none) ∧
    (¬ numP ((s.take i.toNat).drop at_.toNat) → ptF [] [] s = none) ∧
    (¬ (4 < vals.length) → (vals.length = 0 ↔ ((s.getD i.toNat 0).toNat : Int) = 58) → numP ((s.take i.toNat).drop at_.toNat) → ptI s (i + 1) (i + 1) (vals ++ [numV ((s.take i.toNat).drop at_.toNat)])) := by
  unfold ptI at h ⊢
  have hlt : i.toNat < s.length := by omega
  have hg : s.getD i.toNat 0 = s[i.toNat] := by simp [List.getD, hlt]
  rw [hg] at hc ⊢
  have hcc : s[i.toNat] = 58 ∨ s[i.toNat] = 47 := hc.imp (fun k => UInt8.toNat_inj.1 (by show s[i.toNat].toNat = 58; omega)) (fun k => UInt8.toNat_inj.1 (by show s[i.toNat].toNat = 47; omega))
  have hiff : (((s[i.toNat]).toNat : Int) = 58) ↔ s[i.toNat] = 58 := ⟨fun k => UInt8.toNat_inj.1 (by show s[i.toNat].toNat = 58; omega), fun k => by rw [k]; rfl⟩
  rw [h, List.drop_eq_getElem_cons hlt, ptF, if_pos hcc, hiff]
  refine ⟨fun k => if_pos k, fun k => ?_, fun k1 k2 k3 => ?_⟩
  · split
    · rfl
    · rfl
  · rw [if_neg (by intro k; exact k.elim k1 (fun k => k k2)), if_pos k3, show (i + 1).toNat = i.toNat + 1 by omega]
    congr 1
    exact (List.drop_of_length_le (by rw [List.length_take]; omega)).symm
theorem ptI_last {s : List UInt8} {i at_ : Int} {vals : List Nat} (h : ptI s i at_ vals) (hi : i = s.length) :
    (4 < vals.length → ptF [] [] s = none) ∧ (¬ numP ((s.take i.toNat).drop at_.toNat) → ptF [] [] s = none) ∧ (¬ (4 < vals.length) → numP ((s.take i.toNat).drop at_.toNat) → ptF [] [] s = some (vals ++ [numV ((s.take i.toNat).drop at_.toNat)])) := by
  unfold ptI at h
  rw [h, List.drop_of_length_le (show s.length ≤ i.toNat by omega), ptF]
  refine ⟨fun k => if_pos k, fun k => ?_, fun k1 k2 => ?_⟩
  · split
    · rfl
    · rfl
  · rw [if_neg k1, if_pos k2]
def wdI (l : List UInt8) (i at_ : Int) (out : Words) : Prop := wordsL l = out ++ wordsL (l.drop at_.toNat) ∧ (32 : UInt8) ∉ (l.take i.toNat).drop at_.toNat
theorem wdI_zero (l : List UInt8) : wdI l 0 0 [] := by unfold wdI; simp
theorem not_mem_snoc {l : List UInt8} {c : UInt8} {a i : Nat} (h : a ≤ i) (hi : i < l.length) (hn : c ∉ (l.take i).drop a) (hc : ¬ l.getD i 0 = c) : c ∉ (l.take (i + 1)).drop a := by
  have hg : l.getD i 0 = l[i] := by simp [List.getD, hi]
  rw [hg] at hc
  rw [drop_take_snoc h hi]
  intro k
  rcases List.mem_append.1 k with k | k
  · exact hn k
  · exact hc (List.mem_singleton.1 k).symm
theorem drop_split {l : List UInt8} {a i : Nat} (h : a ≤ i) (hi : i < l.length) : l.drop a = (l.take i).drop a ++ l.getD i 0 :: l.drop (i + 1) := by
  have hg : l.getD i 0 = l[i] := by simp [List.getD, hi]
  rw [hg, ← List.drop_eq_getElem_cons hi]
  conv => lhs; rw [← List.take_append_drop i l]
  rw [List.drop_append_of_le_length (by rw [List.length_take]; omega)]
theorem words_app (a r : List UInt8) (h : (32 : UInt8) ∉ a) : wordsL (a ++ 32 :: r) = (if a = [] then [] else [a]) ++ wordsL r := by
  unfold wordsL
  rw [splitL_cut h, List.filter_cons]
  by_cases ha : a = []
  · rw [if_pos ha, if_neg (by simp [ha])]; rfl
  · rw [if_neg ha, if_pos (by simp [ha])]; rfl
theorem words_one (a : List UInt8) (h : (32 : UInt8) ∉ a) : wordsL a = if a = [] then [] else [a] := by
  unfold wordsL
  rw [splitL_none h, List.filter_cons]
  by_cases ha : a = []
  · rw [if_pos ha, if_neg (by simp [ha])]; rfl
  · rw [if_neg ha, if_pos (by simp [ha])]; rfl
theorem wdI_skip {l : List UInt8} {i at_ : Int} {out : Words} (h : wdI l i at_ out) (h0 : 0 ≤ at_) (h1 : at_ ≤ i) (hi : i < l.length) (hc : ¬ ((l.getD i.toNat 0).toNat : Int) = 32) : wdI l (i + 1) at_ out := by
  refine ⟨h.1, ?_⟩
  rw [show (i + 1).toNat = i.toNat + 1 by omega]
  exact not_mem_snoc (by omega) (by omega) h.2 (fun k => hc (by rw [k]; rfl))
theorem piece_nil {l : List UInt8} {i at_ : Int} (h0 : 0 ≤ at_) (h1 : at_ ≤ i) (hi : i ≤ l.length) : ((l.take i.toNat).drop at_.toNat = []) ↔ ¬ i > at_ := by
  rw [List.drop_eq_nil_iff, List.length_take]; omega
theorem wdI_sp {l : List UInt8} {i at_ : Int} {out : Words} (h : wdI l i at_ out) (h0 : 0 ≤ at_) (h1 : at_ ≤ i) (hi : i < l.length) (hc : ((l.getD i.toNat 0).toNat : Int) = 32) : (i > at_ → wdI l (i + 1) (i + 1) (out ++ [(l.take i.toNat).drop at_.toNat])) ∧ (¬ i > at_ → wdI l (i + 1) (i + 1) out) := by
  have hcc : l.getD i.toNat 0 = 32 := UInt8.toNat_inj.1 (by show (l.getD i.toNat 0).toNat = 32; omega)
  have e := h.1
  rw [drop_split (a := at_.toNat) (i := i.toNat) (by omega) (by omega), hcc, words_app _ _ h.2] at e
  have hn : (32 : UInt8) ∉ (l.take (i + 1).toNat).drop (i + 1).toNat := by
    rw [List.drop_of_length_le (by rw [List.length_take]; omega)]; simp
  have hs : (i + 1).toNat = i.toNat + 1 := by omega
  refine ⟨fun k => ⟨?_, hn⟩, fun k => ⟨?_, hn⟩⟩
  · rw [e, if_neg (fun q => (piece_nil h0 h1 (by omega)).1 q k), hs, List.append_assoc]
  · rw [e, if_pos ((piece_nil h0 h1 (by omega)).2 k), hs]; rfl
theorem wdI_end {l : List UInt8} {i at_ : Int} {out : Words} (h : wdI l i at_ out) (h0 : 0 ≤ at_) (h1 : at_ ≤ i) (hi : i = l.length) : (i > at_ → wordsL l = out ++ [(l.take i.toNat).drop at_.toNat]) ∧ (¬ i > at_ → wordsL l = out) := by
  obtain ⟨e, hn⟩ := h
  have ht : l.take i.toNat = l := List.take_of_length_le (by omega)
  rw [ht] at hn ⊢
  rw [words_one _ hn] at e
  have hp := piece_nil (l := l) (i := i) (at_ := at_) h0 h1 (by omega)
  rw [ht] at hp
  refine ⟨fun k => ?_, fun k => ?_⟩
  · rw [e, if_neg (fun q => hp.1 q k)]
  · rw [e, if_pos (hp.2 k), List.append_nil]
def lnI (l : List UInt8) (i from_ line : Int) (cs : List GCmd) : Prop := parV l = parGo (line - 1) (cs.map GCmd.p) (splitL 10 (l.drop from_.toNat)) ∧ (10 : UInt8) ∉ (l.take i.toNat).drop from_.toNat
theorem lnI_zero (l : List UInt8) : lnI l 0 0 1 [] := by unfold lnI parV; simp
theorem lnI_skip {l : List UInt8} {i from_ line : Int} {cs : List GCmd} (h : lnI l i from_ line cs) (h0 : 0 ≤ from_) (h1 : from_ ≤ i) (hi : i < l.length) (hc : ¬ ((l.getD i.toNat 0).toNat : Int) = 10) : lnI l (i + 1) from_ line cs := by
  refine ⟨h.1, ?_⟩
  rw [show (i + 1).toNat = i.toNat + 1 by omega]
  exact not_mem_snoc (by omega) (by omega) h.2 (fun k => hc (by rw [k]; rfl))
def lnJ (l : List UInt8) (i from_ line : Int) (cs : List GCmd) : Prop := (i ≤ l.length ∧ lnI l i from_ line cs) ∨ (i = l.length + 1 ∧ parV l = (cs.map GCmd.p, 0))
theorem lnJ_zero (l : List UInt8) : lnJ l 0 0 1 [] := .inl ⟨by omega, lnI_zero l⟩
theorem lnJ_on {l : List UInt8} {i from_ line : Int} {cs : List GCmd} (h : lnJ l i from_ line cs) (hi : i ≤ l.length) : lnI l i from_ line cs := h.elim (fun k => k.2) (fun k => by omega)
theorem lnJ_done {l : List UInt8} {i from_ line : Int} {cs : List GCmd} (h : lnJ l i from_ line cs) (hi : ¬ i ≤ l.length) : parV l = (cs.map GCmd.p, 0) := h.elim (fun k => absurd k.1 hi) (fun k => k.2)
theorem lnJ_skip {l : List UInt8} {i from_ line : Int} {cs : List GCmd} (h : lnJ l i from_ line cs) (h0 : 0 ≤ from_) (h1 : from_ ≤ i) (hi : i < l.length) (hc : ¬ ((l.getD i.toNat 0).toNat : Int) = 10) : lnJ l (i + 1) from_ line cs :=
  .inl ⟨by omega, lnI_skip (lnJ_on h (by omega)) h0 h1 hi hc⟩
theorem lnJ_go {l : List UInt8} {i from_ line : Int} {cs : List GCmd} (h : lnJ l i from_ line cs) (h0 : 0 ≤ from_) (h1 : from_ ≤ i) (hi : i ≤ l.length) (hc : (l.length : Int) ≤ i ∨ ((l.getD i.toNat 0).toNat : Int) = 10) :
    (lineC ((l.take i.toNat).drop from_.toNat) = none → parV l = ([], line)) ∧
    (lineC ((l.take i.toNat).drop from_.toNat) = some none → lnJ l (i + 1) (i + 1) (line + 1) cs) ∧
    (∀ c : GCmd, lineC ((l.take i.toNat).drop from_.toNat) = some (some c.p) → lnJ l (i + 1) (i + 1) (line + 1) (cs ++ [c])) := by
  obtain ⟨e, hn⟩ := lnJ_on h hi
  by_cases hl : (l.length : Int) ≤ i
  · have ht : l.take i.toNat = l := List.take_of_length_le (by omega)
    rw [ht] at hn ⊢
    rw [splitL_none hn] at e
    refine ⟨fun k => ?_, fun k => .inr ⟨by omega, ?_⟩, fun c k => .inr ⟨by omega, ?_⟩⟩
    · rw [e, parGo, k]; simp only; congr 1; omega
    · rw [e, parGo, k]; rfl
    · rw [e, parGo, k]; simp [parGo]
  · have hcc : l.getD i.toNat 0 = 10 := UInt8.toNat_inj.1 (by show (l.getD i.toNat 0).toNat = 10; omega)
    rw [drop_split (a := from_.toNat) (i := i.toNat) (by omega) (by omega), hcc, splitL_cut hn] at e
    have hn2 : (10 : UInt8) ∉ (l.take (i + 1).toNat).drop (i + 1).toNat := by
      rw [List.drop_of_length_le (by rw [List.length_take]; omega)]; simp
    have hs : (i + 1).toNat = i.toNat + 1 := by omega
    refine ⟨fun k => ?_, fun k => .inl ⟨by omega, ?_, hn2⟩, fun c k => .inl ⟨by omega, ?_, hn2⟩⟩
    · rw [e, parGo, k]; simp only; congr 1; omega
    · rw [e, parGo, k, hs]; simp only; congr 1; omega
    · rw [e, parGo, k, hs, List.map_append]; simp only [List.map_cons, List.map_nil]; congr 1; omega
def ptJ (s : List UInt8) (i at_ : Int) (v : List Nat) : Prop := (i ≤ s.length ∧ ptI s i at_ v) ∨ (i = s.length + 1 ∧ ptF [] [] s = some v)
theorem ptJ_zero (s : List UInt8) : ptJ s 0 0 [] := .inl ⟨by omega, ptI_zero s⟩
theorem ptJ_on {s : List UInt8} {i at_ : Int} {v : List Nat} (h : ptJ s i at_ v) (hi : i ≤ s.length) : ptI s i at_ v := h.elim (fun k => k.2) (fun k => by omega)
theorem ptJ_done {s : List UInt8} {i at_ : Int} {v : List Nat} (h : ptJ s i at_ v) (hi : ¬ i ≤ s.length) : ptF [] [] s = some v := h.elim (fun k => absurd k.1 hi) (fun k => k.2)
theorem ptJ_skip {s : List UInt8} {i at_ : Int} {v : List Nat} (h : ptJ s i at_ v) (h0 : 0 ≤ at_) (h1 : at_ ≤ i) (hi : i < s.length) (h58 : ¬ ((s.getD i.toNat 0).toNat : Int) = 58) (h47 : ¬ ((s.getD i.toNat 0).toNat : Int) = 47) : ptJ s (i + 1) at_ v :=
  .inl ⟨by omega, ptI_skip (ptJ_on h (by omega)) h0 h1 hi h58 h47⟩
theorem ptJ_no {s : List UInt8} {i at_ : Int} {v : List Nat} (h : ptJ s i at_ v) (h0 : 0 ≤ at_) (h1 : at_ ≤ i) (hi : i ≤ s.length) (hc : (s.length : Int) ≤ i ∨ ((s.getD i.toNat 0).toNat : Int) = 58 ∨ ((s.getD i.toNat 0).toNat : Int) = 47)
    (hb : 4 < v.length ∨ (i < s.length ∧ ¬ (v.length = 0 ↔ ((s.getD i.toNat 0).toNat : Int) = 58)) ∨ ¬ numP ((s.take i.toNat).drop at_.toNat)) : ¬ taskP s := by
  refine (pt_spec s).1 ?_
  by_cases hl : (s.length : Int) ≤ i
  · obtain ⟨a, b, _⟩ := ptI_last (ptJ_on h hi) (by omega)
    rcases hb with hb | hb | hb
    · exact a hb
    · omega
    · exact b hb
  · obtain ⟨a, b, _⟩ := ptI_sep (ptJ_on h hi) h0 h1 (by omega) (hc.resolve_left hl)
    rcases hb with hb | hb | hb
    · exact a (.inl hb)
    · exact a (.inr hb.2)
    · exact b hb
theorem ptJ_step {s : List UInt8} {i at_ : Int} {v : List Nat} (h : ptJ s i at_ v) (h0 : 0 ≤ at_) (h1 : at_ ≤ i) (hi : i ≤ s.length) (hc : (s.length : Int) ≤ i ∨ ((s.getD i.toNat 0).toNat : Int) = 58 ∨ ((s.getD i.toNat 0).toNat : Int) = 47)
    (h4 : ¬ 4 < v.length) (hk : i < s.length → (v.length = 0 ↔ ((s.getD i.toNat 0).toNat : Int) = 58)) (hn : numP ((s.take i.toNat).drop at_.toNat)) : ptJ s (i + 1) (i + 1) (v ++ [numV ((s.take i.toNat).drop at_.toNat)]) := by
  by_cases hl : (s.length : Int) ≤ i
  · obtain ⟨_, _, a⟩ := ptI_last (ptJ_on h hi) (by omega)
    exact .inr ⟨by omega, a h4 hn⟩
  · obtain ⟨_, _, a⟩ := ptI_sep (ptJ_on h hi) h0 h1 (by omega) (hc.resolve_left hl)
    exact .inl ⟨by omega, a h4 (hk (by omega)) hn⟩
def wdJ (l : List UInt8) (i at_ : Int) (out : Words) : Prop := (i ≤ l.length ∧ wdI l i at_ out) ∨ (i = l.length + 1 ∧ wordsL l = out)
theorem wdJ_zero (l : List UInt8) : wdJ l 0 0 [] := .inl ⟨by omega, wdI_zero l⟩
theorem wdJ_on {l : List UInt8} {i at_ : Int} {out : Words} (h : wdJ l i at_ out) (hi : i ≤ l.length) : wdI l i at_ out := h.elim (fun k => k.2) (fun k => by omega)
theorem wdJ_done {l : List UInt8} {i at_ : Int} {out : Words} (h : wdJ l i at_ out) (hi : ¬ i ≤ l.length) : out = wordsL l := h.elim (fun k => absurd k.1 hi) (fun k => k.2.symm)
theorem wdJ_skip {l : List UInt8} {i at_ : Int} {out : Words} (h : wdJ l i at_ out) (h0 : 0 ≤ at_) (h1 : at_ ≤ i) (hi : i < l.length) (hc : ¬ ((l.getD i.toNat 0).toNat : Int) = 32) : wdJ l (i + 1) at_ out := .inl ⟨by omega, wdI_skip (wdJ_on h (by omega)) h0 h1 hi hc⟩
theorem wdJ_y {l : List UInt8} {i at_ : Int} {out : Words} (h : wdJ l i at_ out) (h0 : 0 ≤ at_) (h1 : at_ ≤ i) (hi : i ≤ l.length) (hc : (l.length : Int) ≤ i ∨ ((l.getD i.toNat 0).toNat : Int) = 32) (hw : i > at_) : wdJ l (i + 1) (i + 1) (out ++ [(l.take i.toNat).drop at_.toNat]) := by
  by_cases hl : (l.length : Int) ≤ i
  · exact .inr ⟨by omega, (wdI_end (wdJ_on h hi) h0 h1 (by omega)).1 hw⟩
  · exact .inl ⟨by omega, (wdI_sp (wdJ_on h hi) h0 h1 (by omega) (hc.resolve_left hl)).1 hw⟩
theorem wdJ_n {l : List UInt8} {i at_ : Int} {out : Words} (h : wdJ l i at_ out) (h0 : 0 ≤ at_) (h1 : at_ ≤ i) (hi : i ≤ l.length) (hc : (l.length : Int) ≤ i ∨ ((l.getD i.toNat 0).toNat : Int) = 32) (hw : ¬ i > at_) : wdJ l (i + 1) (i + 1) out := by
  by_cases hl : (l.length : Int) ≤ i
  · exact .inr ⟨by omega, (wdI_end (wdJ_on h hi) h0 h1 (by omega)).2 hw⟩
  · exact .inl ⟨by omega, (wdI_sp (wdJ_on h hi) h0 h1 (by omega) (hc.resolve_left hl)).2 hw⟩
end Go.Proofs.YtoeinhlmkpgjhaaGreatDoor
namespace Go.Proofs.YtoeinhlmkpgjhaaGreatDoor
open Go.RowKit
set_option linter.unusedVariables false
set_option linter.unusedSimpArgs false
theorem dvI_succ {l : List UInt8} {i : Int} (h0 : 0 ≤ i) (h : i < l.length) (h48 : 48 ≤ (l.getD i.toNat 0).toNat) : 10 * ((dv (List.take i.toNat l) : Nat) : Int) + (((l.getD i.toNat 0).toNat : Int) - 48) = ((dv (List.take (i + 1).toNat l) : Nat) : Int) := by
  have hlt : i.toNat < l.length := by omega
  have hg : l.getD i.toNat 0 = l[i.toNat] := by simp [List.getD, hlt]
  rw [hg] at h48 ⊢
  rw [show (i + 1).toNat = i.toNat + 1 by omega, dv_succ hlt]
  omega
theorem all_succI {l : List UInt8} {i : Int} (h0 : 0 ≤ i) (h : i < l.length) (ha : ∀ c ∈ l.take i.toNat, digB c = true) (h48 : 48 ≤ (l.getD i.toNat 0).toNat) (h57 : (l.getD i.toNat 0).toNat ≤ 57) : ∀ c ∈ l.take (i + 1).toNat, digB c = true := by
  have hlt : i.toNat < l.length := by omega
  have hg : l.getD i.toNat 0 = l[i.toNat] := by simp [List.getD, hlt]
  rw [hg] at h48 h57
  rw [show (i + 1).toNat = i.toNat + 1 by omega]
  exact all_succ hlt ha (by unfold digB; simp [h48, h57])
theorem num_bad_at {l : List UInt8} {i : Int} (h0 : 0 ≤ i) (h : i < l.length) (hc : (l.getD i.toNat 0).toNat < 48 ∨ 57 < (l.getD i.toNat 0).toNat) : ¬ numP l := by
  have hlt : i.toNat < l.length := by omega
  have hg : l.getD i.toNat 0 = l[i.toNat] := by simp [List.getD, hlt]
  rw [hg] at hc
  exact not_num_at hlt (by unfold digB; simp; omega)
theorem gd_other {v : List Nat} {x m : Nat} (h : ¬ v.length = m) : ((v.getD m 0 : Nat) : Int) = (((v ++ [x]).getD m 0 : Nat) : Int) := by
  congr 1
  rcases Nat.lt_or_ge m v.length with k | k
  · simp [List.getD, List.getElem?_append_left k]
  · simp only [List.getD]
    rw [List.getElem?_eq_none k, List.getElem?_eq_none (by simp; omega)]
theorem gd_at {v : List Nat} {l : List UInt8} {j : Nat} (h : v.length = j) (hn : numP l) : numR l = (((v ++ [numV l]).getD j 0 : Nat) : Int) := by
  subst h
  rw [numR_yes hn]; simp [List.getD]
def CmdQ (ws : Words) (p : PCmd) (is : Bool) : Prop := (is = true → cmdF ws = if cokB p = true then some p else none) ∧ (is = false → cmdF ws = none)
section
variable {ws t : Words} {kw x y : List UInt8}
theorem ws_cons (h : ws[0]? = some kw) : ws = kw :: ws.drop 1 := by
  cases ws with
  | nil => cases h
  | cons a l => cases h; rfl
theorem cmd_no (h : ws[0]? = some kw) (hb : bodF kw (ws.drop 1) = none) {p : PCmd} : CmdQ ws p false :=
  ⟨fun k => (by cases k), fun _ => by rw [ws_cons h]; exact cmdF_b rfl hb⟩
theorem cmd_more {u : Words} {q : PCmd} (h : ws[0]? = some kw) (hb : bodF kw (ws.drop 1) = some (q, u)) (hu : u ≠ []) {p : PCmd} : CmdQ ws p false :=
  ⟨fun k => (by cases k), fun _ => by rw [ws_cons h]; exact cmdF_n rfl hb fun k => hu k.1⟩
theorem cmd_yes {q : PCmd} (h : ws[0]? = some kw) (hb : bodF kw (ws.drop 1) = some (q, [])) : CmdQ ws q true :=
  ⟨fun _ => by
    rw [ws_cons h]
    by_cases hk : cokB q = true
    · rw [if_pos hk]; exact cmdF_y rfl hb rfl hk
    · rw [if_neg hk]; exact cmdF_n rfl hb fun k => hk k.2, fun k => by cases k⟩
theorem drop1_nil (h : ws.length = 1) : ws.drop 1 = [] := List.drop_of_length_le (by omega)
theorem drop1_one (h : ws.length = 2) (h1 : ws[1]? = some x) : ws.drop 1 = [x] := by
  match ws, h with
  | [a, b], _ => cases h1; rfl
theorem drop1_two (h : ws.length = 3) (h1 : ws[1]? = some x) (h2 : ws[2]? = some y) : ws.drop 1 = [x, y] := by
  match ws, h with
  | [a, b, c], _ => cases h1; cases h2; rfl
theorem numF_of (t : Words) (x : List UInt8) : numF (x :: t) = if numP x then some (numV x, t) else none := rfl
theorem q_one {G : Int → PCmd} (h0 : ws[0]? = some kw) (hb : ∀ t, bodF kw t = (numF t).map fun p => (G (p.1 : Nat), p.2)) (h2 : ws.length = 2) (h1 : ws[1]? = some x) : CmdQ ws (G (numR x)) (decide (numR x ≥ 0)) := by
  have e := hb (ws.drop 1)
  rw [drop1_one h2 h1, numF_of] at e
  by_cases hn : numP x
  · rw [if_pos hn] at e
    rw [decide_eq_true (numR_pos.2 hn), numR_yes hn]
    exact cmd_yes h0 (by rw [drop1_one h2 h1, e]; rfl)
  · rw [if_neg hn] at e
    rw [decide_eq_false (fun k => hn (numR_pos.1 k))]
    exact cmd_no h0 (by rw [drop1_one h2 h1, e]; rfl)
theorem q_one_no {G : Int → PCmd} (h0 : ws[0]? = some kw) (hb : ∀ t, bodF kw t = (numF t).map fun p => (G (p.1 : Nat), p.2)) (h2 : ¬ ws.length = 2) {p : PCmd} : CmdQ ws p false := by
  have e := hb (ws.drop 1)
  have hl : (ws.drop 1).length = ws.length - 1 := by simp
  cases hd : ws.drop 1 with
  | nil => rw [hd] at e; exact cmd_no h0 (by rw [hd, e]; rfl)
  | cons a l =>
    rw [hd] at e hl
    rw [numF_of] at e
    by_cases hn : numP a
    · rw [if_pos hn] at e
      exact cmd_more (u := l) h0 (by rw [hd, e]; rfl) fun k => by rw [k] at hl; simp at hl; omega
    · rw [if_neg hn] at e
      exact cmd_no h0 (by rw [hd, e]; rfl)
theorem q_two {G : Int → Int → PCmd} (h0 : ws[0]? = some kw) (hb : ∀ t, bodF kw t = (numF t).bind fun p => (numF p.2).map fun q => (G (p.1 : Nat) (q.1 : Nat), q.2)) (h3 : ws.length = 3) (h1 : ws[1]? = some x) (h2 : ws[2]? = some y) :
    (numP x → CmdQ ws (G (numR x) (numR y)) (decide (numR y ≥ 0))) ∧ (¬ numP x → ∀ p, CmdQ ws p false) := by
  have e := hb (ws.drop 1)
  rw [drop1_two h3 h1 h2, numF_of] at e
  refine ⟨fun hn => ?_, fun hn p => ?_⟩
  · rw [if_pos hn, Option.bind_some, numF_of] at e
    by_cases hm : numP y
    · rw [if_pos hm] at e
      rw [decide_eq_true (numR_pos.2 hm), numR_yes hn, numR_yes hm]
      exact cmd_yes h0 (by rw [drop1_two h3 h1 h2, e]; rfl)
    · rw [if_neg hm] at e
      rw [decide_eq_false (fun k => hm (numR_pos.1 k))]
      exact cmd_no h0 (by rw [drop1_two h3 h1 h2, e]; rfl)
  · rw [if_neg hn] at e
    exact cmd_no h0 (by rw [drop1_two h3 h1 h2, e]; rfl)
theorem q_two_no {G : Int → Int → PCmd} (h0 : ws[0]? = some kw) (hb : ∀ t, bodF kw t = (numF t).bind fun p => (numF p.2).map fun q => (G (p.1 : Nat) (q.1 : Nat), q.2)) (h3 : ¬ ws.length = 3) {p : PCmd} : CmdQ ws p false := by
  have e := hb (ws.drop 1)
  have hl : (ws.drop 1).length = ws.length - 1 := by simp
  cases hd : ws.drop 1 with
  | nil => rw [hd] at e; exact cmd_no h0 (by rw [hd, e]; rfl)
  | cons a l =>
    rw [hd] at e hl
    rw [numF_of] at e
    by_cases hn : numP a
    · rw [if_pos hn, Option.bind_some] at e
      cases l with
      | nil => exact cmd_no h0 (by rw [hd, e]; rfl)
      | cons b m =>
        simp only at e
        rw [numF_of] at e
        by_cases hm : numP b
        · rw [if_pos hm] at e
          exact cmd_more (u := m) h0 (by rw [hd, e]; rfl) fun k => by rw [k] at hl; simp at hl; omega
        · rw [if_neg hm] at e
          exact cmd_no h0 (by rw [hd, e]; rfl)
    · rw [if_neg hn] at e
      exact cmd_no h0 (by rw [hd, e]; rfl)
theorem q_nil {q : PCmd} (h0 : ws[0]? = some kw) (hb : ∀ t, bodF kw t = some (q, t)) : CmdQ ws q ((ws.length : Int) == 1) := by
  have hl : (ws.drop 1).length = ws.length - 1 := by simp
  have hp : 0 < ws.length := (List.getElem?_eq_some_iff.1 h0).1
  by_cases h1 : ws.length = 1
  · rw [show ((ws.length : Int) == 1) = true from by rw [h1]; rfl]
    exact cmd_yes h0 (by rw [hb, drop1_nil h1])
  · rw [show ((ws.length : Int) == 1) = false from by simp; omega]
    exact cmd_more h0 (hb _) fun k => by rw [k] at hl; simp at hl; omega
theorem chgB {kw : List UInt8} (h : ¬ (kw = kRelease ∨ kw = kAsk ∨ kw = kTick ∨ kw = kFail ∨ kw = kQuery ∨ kw = kSnapshot ∨ kw = kStart ∨ kw = kCrash)) (t : Words) : bodF kw t = (chgF kw t).map fun p => (⟨1, p.1, 0, 0, 0, []⟩, p.2) := by
  simp only [not_or] at h
  obtain ⟨h1, h2, h3, h4, h5, h6, h7, h8⟩ := h
  rw [bodF, if_neg h1, if_neg h2, if_neg h3, if_neg h4, if_neg h5, if_neg h6, if_neg h7, if_neg h8]
theorem q_task (h0 : ws[0]? = some kw) (hk : kw = kAdmit ∨ kw = kServe) (h2 : ws.length = 2) (h1 : ws[1]? = some x) : CmdQ ws ⟨1, ⟨1, taskV x, decide (kw = kServe), 0, 0, 0⟩, 0, 0, 0, []⟩ (decide (taskP x)) := by
  have hn : ¬ (kw = kRelease ∨ kw = kAsk ∨ kw = kTick ∨ kw = kFail ∨ kw = kQuery ∨ kw = kSnapshot ∨ kw = kStart ∨ kw = kCrash) := by rcases hk with rfl | rfl <;> decide
  have e := chgB hn (ws.drop 1)
  rw [drop1_one h2 h1, chgF, if_pos hk, show tskF [x] = (if taskP x then some (taskV x, []) else none) from rfl] at e
  by_cases ht : taskP x
  · rw [if_pos ht] at e
    rw [decide_eq_true ht]
    exact cmd_yes h0 (by rw [drop1_one h2 h1, e]; rfl)
  · rw [if_neg ht] at e
    rw [decide_eq_false ht]
    exact cmd_no h0 (by rw [drop1_one h2 h1, e]; rfl)
theorem q_task_no (h0 : ws[0]? = some kw) (hk : kw = kAdmit ∨ kw = kServe) (h2 : ¬ ws.length = 2) {p : PCmd} : CmdQ ws p false := by
  have hn : ¬ (kw = kRelease ∨ kw = kAsk ∨ kw = kTick ∨ kw = kFail ∨ kw = kQuery ∨ kw = kSnapshot ∨ kw = kStart ∨ kw = kCrash) := by rcases hk with rfl | rfl <;> decide
  have e := chgB hn (ws.drop 1)
  have hl : (ws.drop 1).length = ws.length - 1 := by simp
  rw [chgF, if_pos hk] at e
  cases hd : ws.drop 1 with
  | nil => rw [hd] at e; exact cmd_no h0 (by rw [hd, e]; rfl)
  | cons a l =>
    rw [hd] at e hl
    rw [show tskF (a :: l) = (if taskP a then some (taskV a, l) else none) from rfl] at e
    by_cases ht : taskP a
    · rw [if_pos ht] at e
      exact cmd_more (u := l) h0 (by rw [hd, e]; rfl) fun k => by rw [k] at hl; simp at hl; omega
    · rw [if_neg ht] at e
      exact cmd_no h0 (by rw [hd, e]; rfl)
theorem q_other (h0 : ws[0]? = some kw) (h : ¬ (kw = kRelease ∨ kw = kAsk ∨ kw = kTick ∨ kw = kFail ∨ kw = kQuery ∨ kw = kSnapshot ∨ kw = kStart ∨ kw = kCrash)) (h2 : ¬ (kw = kAdmit ∨ kw = kServe)) (h3 : ¬ kw = kRemove) (h4 : ¬ kw = kResize) (h5 : ¬ kw = kMode) {p : PCmd} : CmdQ ws p false :=
  cmd_no h0 (by rw [chgB h, chgF, if_neg h2, if_neg h3, if_neg h4, if_neg h5]; rfl)
end
abbrev gTick (n : Int) : PCmd := ⟨4, GOp.zero, 0, 0, n, []⟩
theorem qb_tick (t : Words) : bodF kTick t = (numF t).map fun p => (gTick (p.1 : Nat), p.2) := by rw [bodF, if_neg (by decide), if_neg (by decide), if_pos rfl]
abbrev gFail (n : Int) : PCmd := ⟨7, GOp.zero, 0, 0, n, []⟩
theorem qb_fail (t : Words) : bodF kFail t = (numF t).map fun p => (gFail (p.1 : Nat), p.2) := by rw [bodF, if_neg (by decide), if_neg (by decide), if_neg (by decide), if_pos rfl]
abbrev gQuery (n : Int) : PCmd := ⟨5, GOp.zero, n, 0, 0, []⟩
theorem qb_query (t : Words) : bodF kQuery t = (numF t).map fun p => (gQuery (p.1 : Nat), p.2) := by rw [bodF, if_neg (by decide), if_neg (by decide), if_neg (by decide), if_neg (by decide), if_pos rfl]
theorem qb_snap (t : Words) : bodF kSnapshot t = some (⟨6, GOp.zero, 0, 0, 0, []⟩, t) := by rw [bodF, if_neg (by decide), if_neg (by decide), if_neg (by decide), if_neg (by decide), if_neg (by decide), if_pos rfl]
theorem qb_start (t : Words) : bodF kStart t = some (⟨9, GOp.zero, 0, 0, 0, []⟩, t) := by rw [bodF, if_neg (by decide), if_neg (by decide), if_neg (by decide), if_neg (by decide), if_neg (by decide), if_neg (by decide), if_pos rfl]
theorem qb_crash (t : Words) : bodF kCrash t = (fatF t).map fun l => (⟨8, GOp.zero, 0, 0, 0, l⟩, []) := by rw [bodF, if_neg (by decide), if_neg (by decide), if_neg (by decide), if_neg (by decide), if_neg (by decide), if_neg (by decide), if_neg (by decide), if_pos rfl]
abbrev gWrk (k n m : Int) : PCmd := ⟨k, GOp.zero, n, m, 0, []⟩
theorem qb_wrk {kw : List UInt8} {k : Int} (h : kw = kRelease ∧ k = 2 ∨ kw = kAsk ∧ k = 3) (t : Words) : bodF kw t = (numF t).bind fun p => (numF p.2).map fun q => (gWrk k (p.1 : Nat) (q.1 : Nat), q.2) := by
  have e : bodF kw t = wrkF k t := by
    rcases h with ⟨rfl, rfl⟩ | ⟨rfl, rfl⟩
    · rw [bodF, if_pos rfl]
    · rw [bodF, if_neg (by decide), if_pos rfl]
  rw [e, wrkF]
  cases numF t with
  | none => rfl
  | some p =>
    simp only [Option.bind_some]
    cases numF p.2 <;> rfl
abbrev gRemove (n : Int) : PCmd := ⟨1, ⟨2, ⟨0, 0, 0, 0, 0⟩, false, n, 0, 0⟩, 0, 0, 0, []⟩
theorem qb_remove (t : Words) : bodF kRemove t = (numF t).map fun p => (gRemove (p.1 : Nat), p.2) := by
  rw [chgB (by decide), chgF, if_neg (by decide), if_pos rfl]
  cases numF t <;> rfl
abbrev gMode (n : Int) : PCmd := ⟨1, ⟨4, ⟨0, 0, 0, 0, 0⟩, false, 0, 0, n⟩, 0, 0, 0, []⟩
theorem qb_mode (t : Words) : bodF kMode t = (numF t).map fun p => (gMode (p.1 : Nat), p.2) := by
  rw [chgB (by decide), chgF, if_neg (by decide), if_neg (by decide), if_neg (by decide), if_pos rfl]
  cases numF t <;> rfl
abbrev gResize (n m : Int) : PCmd := ⟨1, ⟨3, ⟨0, 0, 0, 0, 0⟩, false, n, m, 0⟩, 0, 0, 0, []⟩
theorem qb_resize (t : Words) : bodF kResize t = (numF t).bind fun p => (numF p.2).map fun q => (gResize (p.1 : Nat) (q.1 : Nat), q.2) := by
  rw [chgB (by decide), chgF, if_neg (by decide), if_neg (by decide), if_pos rfl]
  cases numF t with
  | none => rfl
  | some p =>
    simp only [Option.bind_some]
    cases numF p.2 <;> rfl
def fatJ (xs t : Words) (out : List GFate) : Prop := fatI xs t out ∨ (fatF xs = none ∧ ∃ f ∈ out, ¬ f.ok)
theorem fatJ_zero (xs : Words) : fatJ xs xs [] := .inl (fatI_zero xs)
theorem fatJ_succ {xs t u : Words} {out : List GFate} {x : List UInt8} {f : GFate} (h : fatJ xs (x :: t) out) (hf : fatS x t = some (f, u)) : fatJ xs u (out ++ [f]) :=
  h.elim (fun k => .inl (fatI_succ k rfl hf)) (fun ⟨k, f', hf', hn⟩ => .inr ⟨k, f', List.mem_append_left _ hf', hn⟩)
theorem fatJ_no {xs t : Words} {out : List GFate} {x : List UInt8} (h : fatJ xs (x :: t) out) (hf : fatS x t = none) : fatF xs = none :=
  h.elim (fun k => fatI_no k rfl hf) (fun k => k.1)
theorem fatJ_bad {xs t u : Words} {out : List GFate} {x : List UInt8} {f : GFate} (h : fatJ xs (x :: t) out) (hf : fatS x t = none) (hn : ¬ f.ok) : fatJ xs u (out ++ [f]) :=
  .inr ⟨fatJ_no h hf, f, List.mem_append_right _ (List.mem_singleton.2 rfl), hn⟩
theorem fatJ_torn {xs t : Words} {out : List GFate} {x y : List UInt8} (hx : x = kTorn) (h : fatJ xs (x :: y :: t) out) : fatJ xs t (out ++ [⟨2, numR y⟩]) := by
  subst hx
  by_cases hn : numP y
  · rw [numR_yes hn]
    exact fatJ_succ h (by rw [fatS, if_neg (by decide), if_neg (by decide), if_pos rfl, numF_of, if_pos hn]; rfl)
  · rw [numR_no hn]
    refine fatJ_bad h (by rw [fatS, if_neg (by decide), if_neg (by decide), if_pos rfl, numF_of, if_neg hn]; rfl) fun k => ?_
    unfold GFate.ok at k
    exact absurd k.2.2.1 (by decide)
theorem fatJ_q {t : Words} {out : List GFate} (h : fatJ t [] out) : CmdQ (kCrash :: t) ⟨8, GOp.zero, 0, 0, 0, out⟩ true := by
  rcases h with h | ⟨h, f, hf, hn⟩
  · exact cmd_yes rfl (by rw [qb_crash]; show (fatF t).map _ = _; rw [fatI_end h]; rfl)
  · refine ⟨fun _ => ?_, fun k => by cases k⟩
    rw [if_neg (fun k => hn ((cok_t k).2.2.1 f hf))]
    exact cmdF_b rfl (by rw [qb_crash, h]; rfl)
theorem fatJ_qn {t : Words} (h : fatF t = none) {p : PCmd} : CmdQ (kCrash :: t) p false := cmd_no rfl (by rw [qb_crash]; show (fatF t).map _ = _; rw [h]; rfl)
theorem drop_consI {t : Words} {i : Int} {r : List UInt8} (h0 : 0 ≤ i) (hr : t[i.toNat]? = some r) : t.drop i.toNat = r :: t.drop (i + 1).toNat := by
  rw [show (i + 1).toNat = i.toNat + 1 by omega]; exact drop_cons hr
theorem fj_lost {t : Words} {out : List GFate} {i : Int} {r : List UInt8} (h : fatJ t (t.drop i.toNat) out) (h0 : 0 ≤ i) (hr : t[i.toNat]? = some r) (hx : r = kLost) : fatJ t (t.drop (i + 1).toNat) (out ++ [⟨0, 0⟩]) := by
  rw [drop_consI h0 hr] at h; subst hx
  exact fatJ_succ h (by rw [fatS, if_pos rfl])
theorem fj_kept {t : Words} {out : List GFate} {i : Int} {r : List UInt8} (h : fatJ t (t.drop i.toNat) out) (h0 : 0 ≤ i) (hr : t[i.toNat]? = some r) (hx : r = kKept) : fatJ t (t.drop (i + 1).toNat) (out ++ [⟨1, 0⟩]) := by
  rw [drop_consI h0 hr] at h; subst hx
  exact fatJ_succ h (by rw [fatS, if_neg (by decide), if_pos rfl])
theorem fj_torn {t : Words} {out : List GFate} {i : Int} {r y : List UInt8} (h : fatJ t (t.drop i.toNat) out) (h0 : 0 ≤ i) (hr : t[i.toNat]? = some r) (hx : r = kTorn) (hq : t[(i + 1).toNat]? = some y) : fatJ t (t.drop (i + 1 + 1).toNat) (out ++ [⟨2, numR y⟩]) := by
  rw [drop_consI h0 hr, drop_consI (i := i + 1) (by omega) hq] at h
  exact fatJ_torn hx h
theorem fj_no {t : Words} {out : List GFate} {i : Int} {r : List UInt8} (h : fatJ t (t.drop i.toNat) out) (h0 : 0 ≤ i) (hr : t[i.toNat]? = some r) (h1 : ¬ r = kLost) (h2 : ¬ r = kKept) (h3 : ¬ r = kTorn) : fatF t = none := by
  rw [drop_consI h0 hr] at h
  exact fatJ_no h (by rw [fatS, if_neg h1, if_neg h2, if_neg h3])
theorem fj_cut {t : Words} {out : List GFate} {i : Int} {r : List UInt8} (h : fatJ t (t.drop i.toNat) out) (h0 : 0 ≤ i) (hr : t[i.toNat]? = some r) (h3 : r = kTorn) (hl : i + 1 = t.length) : fatF t = none := by
  rw [drop_consI h0 hr] at h; subst h3
  exact fatJ_no h (by rw [fatS, if_neg (by decide), if_neg (by decide), if_pos rfl, List.drop_of_length_le (by omega)]; rfl)
theorem fj_end {t : Words} {out : List GFate} {i : Int} (h : fatJ t (t.drop i.toNat) out) (hi : (t.length : Int) ≤ i) : CmdQ (kCrash :: t) ⟨8, GOp.zero, 0, 0, 0, out⟩ true := by
  rw [List.drop_of_length_le (by omega)] at h
  exact fatJ_q h
abbrev gotV (k : Int) (o : GOp) (i wk n : Int) (A : Option Addr) (len cap : Nat) (b : Bool) : Value := .agg #[.int .i64 k, .int .i64 o.kind, .int .i64 o.task.id, .int .i64 o.task.c, .int .i64 o.task.d, .int .i64 o.task.t, .int .i64 o.task.m, .bool o.sv, .int .i64 o.id, .int .i64 o.c, .int .i64 o.m, .int .i64 i, .int .i64 wk, .int .i64 n, .slice A len cap, .bool b]
def GotR (ws : Words) (w : World) (e : Ending) (w' : World) : Prop := ∃ (g : GCmd) (is : Bool), e = .returned (.agg #[.int .i64 g.p.kind, .int .i64 g.p.op.kind, .int .i64 g.p.op.task.id, .int .i64 g.p.op.task.c, .int .i64 g.p.op.task.d, .int .i64 g.p.op.task.t, .int .i64 g.p.op.task.m, .bool g.p.op.sv, .int .i64 g.p.op.id, .int .i64 g.p.op.c, .int .i64 g.p.op.m, .int .i64 g.p.id, .int .i64 g.p.work, .int .i64 g.p.n, .slice g.A g.p.fs.length g.cap, .bool is]) ∧ OwAt fateC 2 72 g.A g.cap g.p.fs w' ∧ (∀ i, blk g.A = some i → w.heap.size ≤ i) ∧ CmdQ ws g.p is ∧ g.p.fs.length ≤ ws.length ∧ Adds w w'
theorem lineQ {x r : List UInt8} {p : PCmd} {is : Bool} (hr : (wordsL x)[0]? = some r) (h : ¬ (r.getD 0 0).toNat = 59) (hq : CmdQ (wordsL x) p is) : (is = true → cokB p = true → lineC x = some (some p)) ∧ (is = false ∨ cokB p = false → lineC x = none) := by
  refine ⟨fun k1 k2 => lineC_y hr h (by rw [hq.1 k1, if_pos k2]), fun k => lineC_n hr h ?_⟩
  cases is with
  | true =>
    rw [hq.1 rfl, if_neg (fun q => by rcases k with k | k <;> simp_all)]
  | false => exact hq.2 rfl
end Go.Proofs.YtoeinhlmkpgjhaaGreatDoor
namespace Go.Proofs.YtoeinhlmkpgjhaaGreatDoor
open Go.RowKit
set_option linter.unusedVariables false
set_option linter.unusedSimpArgs false
set_option maxRecDepth 100000 in
set_option maxHeartbeats 4000000 in
theorem u25number_c {l : List UInt8} (hl : l.length ≤ 9223372036854775807) (w : World) : Calls Tryz.prog 31 #[.string ⟨l.toArray⟩] w fun e w' => e = .returned (.int .i64 (numR l)) ∧ Adds w w' := by
  have K : Keeps (fun _ => False) w w := Keeps.refl _ w
  refine Calls.start Tryz.func31 rfl (by kernel_rfl) ?_
  refine WC.seq ?_
  refine WC.region ?_
  refine WL.op (d := 2) (.int .i64 0) (k := ?_)
  refine WL.nil ?_
  refine WX.seqN ?_
  refine WC.seq ?_
  refine WC.seq ?_
  refine WC.region ?_
  refine WL.op (d := 5) (.string ⟨(l).toArray⟩) (k := ?_)
  refine WL.op (d := 6) (.int .i64 (l.length : Int)) (k := ?_)
  refine WL.op (d := 7) (.bool (decide ((l.length : Int) < 1))) (k := ?_)
  refine WL.op (d := 8) (.bool (decide ((l.length : Int) < 1))) (k := ?_)
  refine bsplit (decide ((l.length : Int) < 1)) (fun h1 => ?_) (fun h1 => ?_)
  · have ph1 := of_decide_eq_true h1
    refine WL.rw (t := 8) (v := .bool true) (congrArg Value.bool h1) (k := ?_)
    refine WL.skip (d := 9) (k := ?_)
    refine WL.skip (d := 10) (k := ?_)
    refine WL.skip (d := 11) (k := ?_)
    refine WL.op (d := 12) (.bool true) (k := ?_)
    refine WL.op (d := 13) (.bool true) (k := ?_)
    refine WL.skip (d := 14) (k := ?_)
    refine WL.skip (d := 15) (k := ?_)
    refine WL.skip (d := 16) (k := ?_)
    refine WL.skip (d := 17) (k := ?_)
    refine WL.skip (d := 18) (k := ?_)
    refine WL.skip (d := 19) (k := ?_)
    refine WL.skip (d := 20) (k := ?_)
    refine WL.skip (d := 21) (k := ?_)
    refine WL.op (d := 22) (.bool true) (k := ?_)
    refine WL.nil ?_
    refine WX.seqN ?_
    refine WC.condT (k := ?_)
    refine WC.seq ?_
    refine WC.region ?_
    refine WL.op (d := 2) (.int .i64 (-1)) (k := ?_)
    refine WL.nil ?_
    refine WX.seqN ?_
    refine WC.ret ?_
    refine WX.seqR ?_
    refine WX.ret (rs := [.tmp 2]) [.int .i64 (-1)] (.int .i64 (-1)) ⟨(by kernel_rfl), trivial⟩ (k := ?_)
    exact ⟨by rw [numR_no (fun k_ => by have q1_ := num_len k_; have q2_ := List.length_pos_iff.2 k_.1; have q3_ := k_.2.1; first | omega | exact q3_ ⟨by omega, u8_of_nat (by simpa using rfl)⟩)], K⟩
  have ph1 := of_decide_eq_false h1
  refine WL.rw (t := 8) (v := .bool false) (congrArg Value.bool h1) (k := ?_)
  refine WL.op (d := 9) (.string ⟨(l).toArray⟩) (k := ?_)
  refine WL.op (d := 10) (.int .i64 (l.length : Int)) (k := ?_)
  refine WL.op (d := 11) (.bool (decide ((l.length : Int) > 10))) (k := ?_)
  refine WL.op (d := 12) (.bool (decide ((l.length : Int) > 10))) (k := ?_)
  refine WL.op (d := 13) (.bool (decide ((l.length : Int) > 10))) (k := ?_)
  refine bsplit (decide ((l.length : Int) > 10)) (fun h2 => ?_) (fun h2 => ?_)
  · have ph2 := of_decide_eq_true h2
    refine WL.rw (t := 13) (v := .bool true) (congrArg Value.bool h2) (k := ?_)
    refine WL.skip (d := 14) (k := ?_)
    refine WL.skip (d := 15) (k := ?_)
    refine WL.skip (d := 16) (k := ?_)
    refine WL.skip (d := 17) (k := ?_)
    refine WL.skip (d := 18) (k := ?_)
    refine WL.skip (d := 19) (k := ?_)
    refine WL.skip (d := 20) (k := ?_)
    refine WL.skip (d := 21) (k := ?_)
    refine WL.op (d := 22) (.bool true) (k := ?_)
    refine WL.nil ?_
    refine WX.seqN ?_
    refine WC.condT (k := ?_)
    refine WC.seq ?_
    refine WC.region ?_
    refine WL.op (d := 2) (.int .i64 (-1)) (k := ?_)
    refine WL.nil ?_
    refine WX.seqN ?_
    refine WC.ret ?_
    refine WX.seqR ?_
    refine WX.ret (rs := [.tmp 2]) [.int .i64 (-1)] (.int .i64 (-1)) ⟨(by kernel_rfl), trivial⟩ (k := ?_)
    exact ⟨by rw [numR_no (fun k_ => by have q1_ := num_len k_; have q2_ := List.length_pos_iff.2 k_.1; have q3_ := k_.2.1; first | omega | exact q3_ ⟨by omega, u8_of_nat (by simpa using rfl)⟩)], K⟩
  have ph2 := of_decide_eq_false h2
  refine WL.rw (t := 13) (v := .bool false) (congrArg Value.bool h2) (k := ?_)
  refine WL.op (d := 14) (.string ⟨(l).toArray⟩) (k := ?_)
  refine WL.op (d := 15) (.int .i64 (l.length : Int)) (k := ?_)
  refine WL.op (d := 16) (.bool (decide ((l.length : Int) > 1))) (k := ?_)
  refine WL.op (d := 17) (.bool (decide ((l.length : Int) > 1))) (k := ?_)
  refine bsplit (decide ((l.length : Int) > 1)) (fun h3 => ?_) (fun h3 => ?_)
  · have ph3 := of_decide_eq_true h3
    refine WL.rw (t := 17) (v := .bool true) (congrArg Value.bool h3) (k := ?_)
    refine WL.op (d := 18) (.string ⟨(l).toArray⟩) (k := ?_)
    refine WL.strAt (T := 9) (l := l) (i := 0) (kk := .i64) (d := 19) (by omega) (by first | omega | (simp; omega)) (by kernel_rfl) (by kernel_rfl) (by kernel_rfl) (by kernel_rfl) (by kernel_rfl) ?_
    have ub4 := u8_lt (List.getD l (0 : Int).toNat 0)
    refine WL.op (d := 20) (.bool (((List.getD l (0 : Int).toNat 0).toNat : Int) == 48)) (k := ?_)
    refine WL.op (d := 21) (.bool (((List.getD l (0 : Int).toNat 0).toNat : Int) == 48)) (k := ?_)
    refine WL.op (d := 22) (.bool (((List.getD l (0 : Int).toNat 0).toNat : Int) == 48)) (k := ?_)
    refine WL.nil ?_
    refine WX.seqN ?_
    refine WC.cond (b := ((List.getD l (0 : Int).toNat 0).toNat : Int) == 48) (ht := fun h5 => ?_) (hf := fun h5 => ?_)
    · have ph5 := eq_of_beq h5
      refine WC.seq ?_
      refine WC.region ?_
      refine WL.op (d := 2) (.int .i64 (-1)) (k := ?_)
      refine WL.nil ?_
      refine WX.seqN ?_
      refine WC.ret ?_
      refine WX.seqR ?_
      refine WX.ret (rs := [.tmp 2]) [.int .i64 (-1)] (.int .i64 (-1)) ⟨(by kernel_rfl), trivial⟩ (k := ?_)
      exact ⟨by rw [numR_no (fun k_ => by have q1_ := num_len k_; have q2_ := List.length_pos_iff.2 k_.1; have q3_ := k_.2.1; first | omega | exact q3_ ⟨by omega, u8_of_nat (by simpa using ph5)⟩)], K⟩
    · have ph5 := ne_of_beq_false h5
      refine WC.skip ?_
      refine WX.seqN ?_
      refine WC.seq ?_
      refine WC.region ?_
      refine WL.op (d := 3) (.int .i64 0) (k := ?_)
      refine WL.nil ?_
      refine WX.seqN ?_
      refine WC.seq ?_
      refine WC.seq ?_
      refine WC.region ?_
      refine WL.op (d := 4) (.int .i64 0) (k := ?_)
      refine WL.nil ?_
      refine WX.seqN ?_
      refine WC.block ?_
      refine WC.rw (t := 3) (v := .int .i64 ((dv (List.take (0 : Int).toNat l) : Nat) : Int)) (rfl) (k := ?_)
      refine WC.loop (ι := Int) (fun (i : Int) => [(0, .string ⟨(l).toArray⟩), (5, .string ⟨(l).toArray⟩), (6, .int .i64 (l.length : Int)), (7, .bool (decide ((l.length : Int) < 1))), (8, .bool false), (9, .string ⟨(l).toArray⟩), (10, .int .i64 (l.length : Int)), (11, .bool (decide ((l.length : Int) > 10))), (12, .bool (decide ((l.length : Int) > 10))), (13, .bool false), (14, .string ⟨(l).toArray⟩), (15, .int .i64 (l.length : Int)), (16, .bool (decide ((l.length : Int) > 1))), (17, .bool true), (18, .string ⟨(l).toArray⟩), (19, .int .u8 ((List.getD l (0 : Int).toNat 0).toNat : Int)), (20, .bool (((List.getD l (0 : Int).toNat 0).toNat : Int) == 48)), (21, .bool (((List.getD l (0 : Int).toNat 0).toNat : Int) == 48)), (22, .bool (((List.getD l (0 : Int).toNat 0).toNat : Int) == 48)), (4, .int .i64 i), (3, .int .i64 ((dv (List.take i.toNat l) : Nat) : Int))]) (fun (i : Int) (w_ : World) => (Keeps (fun _ => False) w w_) ∧ (0 ≤ i) ∧ (i ≤ l.length) ∧ (∀ c ∈ List.take i.toNat l, digB c = true)) (fun (i : Int) => (l.length - i).toNat) 0 ⟨(by kernel_rfl), (by kernel_rfl), (by kernel_rfl), (by kernel_rfl), (by kernel_rfl), (by kernel_rfl), (by kernel_rfl), (by kernel_rfl), (by kernel_rfl), (by kernel_rfl), (by kernel_rfl), (by kernel_rfl), (by kernel_rfl), (by kernel_rfl), (by kernel_rfl), (by kernel_rfl), (by kernel_rfl), (by kernel_rfl), (by kernel_rfl), (by kernel_rfl), (by kernel_rfl), trivial⟩ ⟨K, Int.le_refl 0, (by omega), (by simp)⟩ ?_
      rintro i w6 ⟨K, i0, i1, hd⟩
      have dl_ := dv_take_lt hd (by omega)
      refine WC.seq ?_
      refine WC.seq ?_
      refine WC.region ?_
      refine WL.op (d := 23) (.int .i64 i) (k := ?_)
      refine WL.op (d := 24) (.string ⟨(l).toArray⟩) (k := ?_)
      refine WL.op (d := 25) (.int .i64 (l.length : Int)) (k := ?_)
      refine WL.op (d := 26) (.bool (decide (i < (l.length : Int)))) (k := ?_)
      refine WL.nil ?_
      refine WX.seqN ?_
      refine WC.cond (b := decide (i < (l.length : Int))) (ht := fun h7 => ?_) (hf := fun h7 => ?_)
      · have ph7 := of_decide_eq_true h7
        refine WC.skip ?_
        refine WX.seqN ?_
        refine WC.seq ?_
        refine WC.block ?_
        refine WC.seq ?_
        refine WC.seq ?_
        refine WC.region ?_
        refine WL.op (d := 29) (.string ⟨(l).toArray⟩) (k := ?_)
        refine WL.op (d := 30) (.int .i64 i) (k := ?_)
        refine WL.strAt (T := 9) (l := l) (i := i) (kk := .i64) (d := 31) (by omega) (by first | omega | (simp; omega)) (by kernel_rfl) (by kernel_rfl) (by kernel_rfl) (by kernel_rfl) (by kernel_rfl) ?_
        have ub8 := u8_lt (List.getD l (i).toNat 0)
        refine WL.op (d := 32) (.bool (decide (((List.getD l (i).toNat 0).toNat : Int) < 48))) (k := ?_)
        refine WL.op (d := 33) (.bool (decide (((List.getD l (i).toNat 0).toNat : Int) < 48))) (k := ?_)
        refine bsplit (decide (((List.getD l (i).toNat 0).toNat : Int) < 48)) (fun h9 => ?_) (fun h9 => ?_)
        · have ph9 := of_decide_eq_true h9
          refine WL.rw (t := 33) (v := .bool true) (congrArg Value.bool h9) (k := ?_)
          refine WL.skip (d := 34) (k := ?_)
          refine WL.skip (d := 35) (k := ?_)
          refine WL.skip (d := 36) (k := ?_)
          refine WL.skip (d := 37) (k := ?_)
          refine WL.op (d := 38) (.bool true) (k := ?_)
          refine WL.nil ?_
          refine WX.seqN ?_
          refine WC.condT (k := ?_)
          refine WC.seq ?_
          refine WC.region ?_
          refine WL.op (d := 2) (.int .i64 (-1)) (k := ?_)
          refine WL.nil ?_
          refine WX.seqN ?_
          refine WC.ret ?_
          refine WX.seqR ?_
          refine WX.blockR ?_
          refine WX.seqR ?_
          refine WX.seqR ?_
          refine WX.blockR ?_
          refine WX.seqR ?_
          refine WX.ret (rs := [.tmp 2]) [.int .i64 (-1)] (.int .i64 (-1)) ⟨(by kernel_rfl), trivial⟩ (k := ?_)
          exact ⟨by rw [numR_no (num_bad_at (i := i) i0 (by omega) (by omega))], K⟩
        have ph9 := of_decide_eq_false h9
        refine WL.rw (t := 33) (v := .bool false) (congrArg Value.bool h9) (k := ?_)
        refine WL.op (d := 34) (.string ⟨(l).toArray⟩) (k := ?_)
        refine WL.op (d := 35) (.int .i64 i) (k := ?_)
        refine WL.strAt (T := 9) (l := l) (i := i) (kk := .i64) (d := 36) (by omega) (by first | omega | (simp; omega)) (by kernel_rfl) (by kernel_rfl) (by kernel_rfl) (by kernel_rfl) (by kernel_rfl) ?_
        have ub10 := u8_lt (List.getD l (i).toNat 0)
        refine WL.op (d := 37) (.bool (decide (((List.getD l (i).toNat 0).toNat : Int) > 57))) (k := ?_)
        refine WL.op (d := 38) (.bool (decide (((List.getD l (i).toNat 0).toNat : Int) > 57))) (k := ?_)
        refine WL.nil ?_
        refine WX.seqN ?_
        refine WC.cond (b := decide (((List.getD l (i).toNat 0).toNat : Int) > 57)) (ht := fun h11 => ?_) (hf := fun h11 => ?_)
        · have ph11 := of_decide_eq_true h11
          refine WC.seq ?_
          refine WC.region ?_
          refine WL.op (d := 2) (.int .i64 (-1)) (k := ?_)
          refine WL.nil ?_
          refine WX.seqN ?_
          refine WC.ret ?_
          refine WX.seqR ?_
          refine WX.blockR ?_
          refine WX.seqR ?_
          refine WX.seqR ?_
          refine WX.blockR ?_
          refine WX.seqR ?_
          refine WX.ret (rs := [.tmp 2]) [.int .i64 (-1)] (.int .i64 (-1)) ⟨(by kernel_rfl), trivial⟩ (k := ?_)
          exact ⟨by rw [numR_no (num_bad_at (i := i) i0 (by omega) (by omega))], K⟩
        · have ph11 := of_decide_eq_false h11
          refine WC.skip ?_
          refine WX.seqN ?_
          refine WC.region ?_
          refine WL.op (d := 39) (.int .i64 ((dv (List.take i.toNat l) : Nat) : Int)) (k := ?_)
          refine WL.opE (d := 40) (.int .i64 (IntKind.i64.wrap (10 * ((dv (List.take i.toNat l) : Nat) : Int)))) (v := .int .i64 (10 * ((dv (List.take i.toNat l) : Nat) : Int))) (congrArg (Value.int .i64) (IntWalk.i64_in _ (by omega))) (k := ?_)
          refine WL.op (d := 41) (.string ⟨(l).toArray⟩) (k := ?_)
          refine WL.op (d := 42) (.int .i64 i) (k := ?_)
          refine WL.strAt (T := 9) (l := l) (i := i) (kk := .i64) (d := 43) (by omega) (by first | omega | (simp; omega)) (by kernel_rfl) (by kernel_rfl) (by kernel_rfl) (by kernel_rfl) (by kernel_rfl) ?_
          have ub12 := u8_lt (List.getD l (i).toNat 0)
          refine WL.opE (d := 44) (.int .u8 (IntKind.u8.wrap (((List.getD l (i).toNat 0).toNat : Int) - 48))) (v := .int .u8 (((List.getD l (i).toNat 0).toNat : Int) - 48)) (congrArg (Value.int .u8) (IntWalk.u8_in _ (by omega))) (k := ?_)
          refine WL.opE (d := 45) (.int .i64 (IntKind.i64.wrap (((List.getD l (i).toNat 0).toNat : Int) - 48))) (v := .int .i64 (((List.getD l (i).toNat 0).toNat : Int) - 48)) (congrArg (Value.int .i64) (IntWalk.i64_in _ (by omega))) (k := ?_)
          refine WL.opE (d := 46) (.int .i64 (IntKind.i64.wrap ((10 * ((dv (List.take i.toNat l) : Nat) : Int)) + (((List.getD l (i).toNat 0).toNat : Int) - 48)))) (v := .int .i64 ((10 * ((dv (List.take i.toNat l) : Nat) : Int)) + (((List.getD l (i).toNat 0).toNat : Int) - 48))) (congrArg (Value.int .i64) (IntWalk.i64_in _ (by omega))) (k := ?_)
          refine WL.op (d := 3) (.int .i64 ((10 * ((dv (List.take i.toNat l) : Nat) : Int)) + (((List.getD l (i).toNat 0).toNat : Int) - 48))) (k := ?_)
          refine WL.nil ?_
          refine WX.blockN ?_
          refine WX.seqN ?_
          refine WC.region ?_
          refine WL.op (d := 27) (.int .i64 i) (k := ?_)
          refine WL.opE (d := 28) (.int .i64 (IntKind.i64.wrap (i + 1))) (v := .int .i64 (i + 1)) (congrArg (Value.int .i64) (IntWalk.i64_in _ (by omega))) (k := ?_)
          refine WL.op (d := 4) (.int .i64 (i + 1)) (k := ?_)
          refine WL.nil ?_
          refine WX.rw (t := 3) (v := .int .i64 ((dv (List.take (i + 1).toNat l) : Nat) : Int)) (congrArg (Value.int .i64) (show ((10 * ((dv (List.take i.toNat l) : Nat) : Int)) + (((List.getD l (i).toNat 0).toNat : Int) - 48)) = ((dv (List.take (i + 1).toNat l) : Nat) : Int) from by have q_ := dvI_succ (l := l) i0 (by omega) (by omega); omega)) (k := ?_)
          refine WX.round (i + 1) (by show (l.length - (i + 1)).toNat < (l.length - i).toNat; omega) ⟨(by kernel_rfl), (by kernel_rfl), (by kernel_rfl), (by kernel_rfl), (by kernel_rfl), (by kernel_rfl), (by kernel_rfl), (by kernel_rfl), (by kernel_rfl), (by kernel_rfl), (by kernel_rfl), (by kernel_rfl), (by kernel_rfl), (by kernel_rfl), (by kernel_rfl), (by kernel_rfl), (by kernel_rfl), (by kernel_rfl), (by kernel_rfl), (by kernel_rfl), (by kernel_rfl), trivial⟩ ⟨K, (by omega), (by omega), (all_succI i0 (by omega) hd (by omega) (by omega))⟩
      · have ph7 := of_decide_eq_false h7
        refine WC.exit ?_
        refine WX.seqE ?_
        refine WX.seqE ?_
        refine WX.blockE ?_
        refine WX.seqN ?_
        refine WC.seq ?_
        refine WC.seq ?_
        refine WC.region ?_
        refine WL.op (d := 47) (.int .i64 ((dv (List.take i.toNat l) : Nat) : Int)) (k := ?_)
        refine WL.op (d := 48) (.bool (decide (((dv (List.take i.toNat l) : Nat) : Int) > 2147483648))) (k := ?_)
        refine WL.nil ?_
        refine WX.seqN ?_
        refine WC.cond (b := decide (((dv (List.take i.toNat l) : Nat) : Int) > 2147483648)) (ht := fun h13 => ?_) (hf := fun h13 => ?_)
        · have ph13 := of_decide_eq_true h13
          refine WC.seq ?_
          refine WC.region ?_
          refine WL.op (d := 2) (.int .i64 (-1)) (k := ?_)
          refine WL.nil ?_
          refine WX.seqN ?_
          refine WC.ret ?_
          refine WX.seqR ?_
          refine WX.ret (rs := [.tmp 2]) [.int .i64 (-1)] (.int .i64 (-1)) ⟨(by kernel_rfl), trivial⟩ (k := ?_)
          have ra_ := numR_all (l := l) (i := i) (fun k_ => by have q_ := congrArg List.length k_; simp only [List.length_nil] at q_; omega) (fun k_ => ph5 (by simp only [Int.toNat_zero]; rw [k_.2]; rfl)) hd (by omega)
          exact ⟨by rw [ra_.2 (by omega)], K⟩
        · have ph13 := of_decide_eq_false h13
          refine WC.skip ?_
          refine WX.seqN ?_
          refine WC.seq ?_
          refine WC.region ?_
          refine WL.op (d := 49) (.int .i64 ((dv (List.take i.toNat l) : Nat) : Int)) (k := ?_)
          refine WL.op (d := 2) (.int .i64 ((dv (List.take i.toNat l) : Nat) : Int)) (k := ?_)
          refine WL.nil ?_
          refine WX.seqN ?_
          refine WC.ret ?_
          refine WX.ret (rs := [.tmp 2]) [.int .i64 ((dv (List.take i.toNat l) : Nat) : Int)] (.int .i64 ((dv (List.take i.toNat l) : Nat) : Int)) ⟨(by kernel_rfl), trivial⟩ (k := ?_)
          have ra_ := numR_all (l := l) (i := i) (fun k_ => by have q_ := congrArg List.length k_; simp only [List.length_nil] at q_; omega) (fun k_ => ph5 (by simp only [Int.toNat_zero]; rw [k_.2]; rfl)) hd (by omega)
          exact ⟨by rw [ra_.1 (by omega)], K⟩
  have ph3 := of_decide_eq_false h3
  refine WL.rw (t := 17) (v := .bool false) (congrArg Value.bool h3) (k := ?_)
  refine WL.skip (d := 18) (k := ?_)
  refine WL.skip (d := 19) (k := ?_)
  refine WL.skip (d := 20) (k := ?_)
  refine WL.op (d := 21) (.bool false) (k := ?_)
  refine WL.op (d := 22) (.bool false) (k := ?_)
  refine WL.nil ?_
  refine WX.seqN ?_
  refine WC.condF (k := ?_)
  refine WC.skip ?_
  refine WX.seqN ?_
  refine WC.seq ?_
  refine WC.region ?_
  refine WL.op (d := 3) (.int .i64 0) (k := ?_)
  refine WL.nil ?_
  refine WX.seqN ?_
  refine WC.seq ?_
  refine WC.seq ?_
  refine WC.region ?_
  refine WL.op (d := 4) (.int .i64 0) (k := ?_)
  refine WL.nil ?_
  refine WX.seqN ?_
  refine WC.block ?_
  refine WC.rw (t := 3) (v := .int .i64 ((dv (List.take (0 : Int).toNat l) : Nat) : Int)) (rfl) (k := ?_)
  refine WC.loop (ι := Int) (fun (i : Int) => [(0, .string ⟨(l).toArray⟩), (5, .string ⟨(l).toArray⟩), (6, .int .i64 (l.length : Int)), (7, .bool (decide ((l.length : Int) < 1))), (8, .bool false), (9, .string ⟨(l).toArray⟩), (10, .int .i64 (l.length : Int)), (11, .bool (decide ((l.length : Int) > 10))), (12, .bool (decide ((l.length : Int) > 10))), (13, .bool false), (14, .string ⟨(l).toArray⟩), (15, .int .i64 (l.length : Int)), (16, .bool (decide ((l.length : Int) > 1))), (17, .bool false), (21, .bool false), (22, .bool false), (4, .int .i64 i), (3, .int .i64 ((dv (List.take i.toNat l) : Nat) : Int))]) (fun (i : Int) (w_ : World) => (Keeps (fun _ => False) w w_) ∧ (0 ≤ i) ∧ (i ≤ l.length) ∧ (∀ c ∈ List.take i.toNat l, digB c = true)) (fun (i : Int) => (l.length - i).toNat) 0 ⟨(by kernel_rfl), (by kernel_rfl), (by kernel_rfl), (by kernel_rfl), (by kernel_rfl), (by kernel_rfl), (by kernel_rfl), (by kernel_rfl), (by kernel_rfl), (by kernel_rfl), (by kernel_rfl), (by kernel_rfl), (by kernel_rfl), (by kernel_rfl), (by kernel_rfl), (by kernel_rfl), (by kernel_rfl), (by kernel_rfl), trivial⟩ ⟨K, Int.le_refl 0, (by omega), (by simp)⟩ ?_
  rintro i w14 ⟨K, i0, i1, hd⟩
  have dl_ := dv_take_lt hd (by omega)
  refine WC.seq ?_
  refine WC.seq ?_
  refine WC.region ?_
  refine WL.op (d := 23) (.int .i64 i) (k := ?_)
  refine WL.op (d := 24) (.string ⟨(l).toArray⟩) (k := ?_)
  refine WL.op (d := 25) (.int .i64 (l.length : Int)) (k := ?_)
  refine WL.op (d := 26) (.bool (decide (i < (l.length : Int)))) (k := ?_)
  refine WL.nil ?_
  refine WX.seqN ?_
  refine WC.cond (b := decide (i < (l.length : Int))) (ht := fun h15 => ?_) (hf := fun h15 => ?_)
  · have ph15 := of_decide_eq_true h15
    refine WC.skip ?_
    refine WX.seqN ?_
    refine WC.seq ?_
    refine WC.block ?_
    refine WC.seq ?_
    refine WC.seq ?_
    refine WC.region ?_
    refine WL.op (d := 29) (.string ⟨(l).toArray⟩) (k := ?_)
    refine WL.op (d := 30) (.int .i64 i) (k := ?_)
    refine WL.strAt (T := 9) (l := l) (i := i) (kk := .i64) (d := 31) (by omega) (by first | omega | (simp; omega)) (by kernel_rfl) (by kernel_rfl) (by kernel_rfl) (by kernel_rfl) (by kernel_rfl) ?_
    have ub16 := u8_lt (List.getD l (i).toNat 0)
    refine WL.op (d := 32) (.bool (decide (((List.getD l (i).toNat 0).toNat : Int) < 48))) (k := ?_)
    refine WL.op (d := 33) (.bool (decide (((List.getD l (i).toNat 0).toNat : Int) < 48))) (k := ?_)
    refine bsplit (decide (((List.getD l (i).toNat 0).toNat : Int) < 48)) (fun h17 => ?_) (fun h17 => ?_)
    · have ph17 := of_decide_eq_true h17
      refine WL.rw (t := 33) (v := .bool true) (congrArg Value.bool h17) (k := ?_)
      refine WL.skip (d := 34) (k := ?_)
      refine WL.skip (d := 35) (k := ?_)
      refine WL.skip (d := 36) (k := ?_)
      refine WL.skip (d := 37) (k := ?_)
      refine WL.op (d := 38) (.bool true) (k := ?_)
      refine WL.nil ?_
      refine WX.seqN ?_
      refine WC.condT (k := ?_)
      refine WC.seq ?_
      refine WC.region ?_
      refine WL.op (d := 2) (.int .i64 (-1)) (k := ?_)
      refine WL.nil ?_
      refine WX.seqN ?_
      refine WC.ret ?_
      refine WX.seqR ?_
      refine WX.blockR ?_
      refine WX.seqR ?_
      refine WX.seqR ?_
      refine WX.blockR ?_
      refine WX.seqR ?_
      refine WX.ret (rs := [.tmp 2]) [.int .i64 (-1)] (.int .i64 (-1)) ⟨(by kernel_rfl), trivial⟩ (k := ?_)
      exact ⟨by rw [numR_no (num_bad_at (i := i) i0 (by omega) (by omega))], K⟩
    have ph17 := of_decide_eq_false h17
    refine WL.rw (t := 33) (v := .bool false) (congrArg Value.bool h17) (k := ?_)
    refine WL.op (d := 34) (.string ⟨(l).toArray⟩) (k := ?_)
    refine WL.op (d := 35) (.int .i64 i) (k := ?_)
    refine WL.strAt (T := 9) (l := l) (i := i) (kk := .i64) (d := 36) (by omega) (by first | omega | (simp; omega)) (by kernel_rfl) (by kernel_rfl) (by kernel_rfl) (by kernel_rfl) (by kernel_rfl) ?_
    have ub18 := u8_lt (List.getD l (i).toNat 0)
    refine WL.op (d := 37) (.bool (decide (((List.getD l (i).toNat 0).toNat : Int) > 57))) (k := ?_)
    refine WL.op (d := 38) (.bool (decide (((List.getD l (i).toNat 0).toNat : Int) > 57))) (k := ?_)
    refine WL.nil ?_
    refine WX.seqN ?_
    refine WC.cond (b := decide (((List.getD l (i).toNat 0).toNat : Int) > 57)) (ht := fun h19 => ?_) (hf := fun h19 => ?_)
    · have ph19 := of_decide_eq_true h19
      refine WC.seq ?_
      refine WC.region ?_
      refine WL.op (d := 2) (.int .i64 (-1)) (k := ?_)
      refine WL.nil ?_
      refine WX.seqN ?_
      refine WC.ret ?_
      refine WX.seqR ?_
      refine WX.blockR ?_
      refine WX.seqR ?_
      refine WX.seqR ?_
      refine WX.blockR ?_
      refine WX.seqR ?_
      refine WX.ret (rs := [.tmp 2]) [.int .i64 (-1)] (.int .i64 (-1)) ⟨(by kernel_rfl), trivial⟩ (k := ?_)
      exact ⟨by rw [numR_no (num_bad_at (i := i) i0 (by omega) (by omega))], K⟩
    · have ph19 := of_decide_eq_false h19
      refine WC.skip ?_
      refine WX.seqN ?_
      refine WC.region ?_
      refine WL.op (d := 39) (.int .i64 ((dv (List.take i.toNat l) : Nat) : Int)) (k := ?_)
      refine WL.opE (d := 40) (.int .i64 (IntKind.i64.wrap (10 * ((dv (List.take i.toNat l) : Nat) : Int)))) (v := .int .i64 (10 * ((dv (List.take i.toNat l) : Nat) : Int))) (congrArg (Value.int .i64) (IntWalk.i64_in _ (by omega))) (k := ?_)
      refine WL.op (d := 41) (.string ⟨(l).toArray⟩) (k := ?_)
      refine WL.op (d := 42) (.int .i64 i) (k := ?_)
      refine WL.strAt (T := 9) (l := l) (i := i) (kk := .i64) (d := 43) (by omega) (by first | omega | (simp; omega)) (by kernel_rfl) (by kernel_rfl) (by kernel_rfl) (by kernel_rfl) (by kernel_rfl) ?_
      have ub20 := u8_lt (List.getD l (i).toNat 0)
      refine WL.opE (d := 44) (.int .u8 (IntKind.u8.wrap (((List.getD l (i).toNat 0).toNat : Int) - 48))) (v := .int .u8 (((List.getD l (i).toNat 0).toNat : Int) - 48)) (congrArg (Value.int .u8) (IntWalk.u8_in _ (by omega))) (k := ?_)
      refine WL.opE (d := 45) (.int .i64 (IntKind.i64.wrap (((List.getD l (i).toNat 0).toNat : Int) - 48))) (v := .int .i64 (((List.getD l (i).toNat 0).toNat : Int) - 48)) (congrArg (Value.int .i64) (IntWalk.i64_in _ (by omega))) (k := ?_)
      refine WL.opE (d := 46) (.int .i64 (IntKind.i64.wrap ((10 * ((dv (List.take i.toNat l) : Nat) : Int)) + (((List.getD l (i).toNat 0).toNat : Int) - 48)))) (v := .int .i64 ((10 * ((dv (List.take i.toNat l) : Nat) : Int)) + (((List.getD l (i).toNat 0).toNat : Int) - 48))) (congrArg (Value.int .i64) (IntWalk.i64_in _ (by omega))) (k := ?_)
      refine WL.op (d := 3) (.int .i64 ((10 * ((dv (List.take i.toNat l) : Nat) : Int)) + (((List.getD l (i).toNat 0).toNat : Int) - 48))) (k := ?_)
      refine WL.nil ?_
      refine WX.blockN ?_
      refine WX.seqN ?_
      refine WC.region ?_
      refine WL.op (d := 27) (.int .i64 i) (k := ?_)
      refine WL.opE (d := 28) (.int .i64 (IntKind.i64.wrap (i + 1))) (v := .int .i64 (i + 1)) (congrArg (Value.int .i64) (IntWalk.i64_in _ (by omega))) (k := ?_)
      refine WL.op (d := 4) (.int .i64 (i + 1)) (k := ?_)
      refine WL.nil ?_
      refine WX.rw (t := 3) (v := .int .i64 ((dv (List.take (i + 1).toNat l) : Nat) : Int)) (congrArg (Value.int .i64) (show ((10 * ((dv (List.take i.toNat l) : Nat) : Int)) + (((List.getD l (i).toNat 0).toNat : Int) - 48)) = ((dv (List.take (i + 1).toNat l) : Nat) : Int) from by have q_ := dvI_succ (l := l) i0 (by omega) (by omega); omega)) (k := ?_)
      refine WX.round (i + 1) (by show (l.length - (i + 1)).toNat < (l.length - i).toNat; omega) ⟨(by kernel_rfl), (by kernel_rfl), (by kernel_rfl), (by kernel_rfl), (by kernel_rfl), (by kernel_rfl), (by kernel_rfl), (by kernel_rfl), (by kernel_rfl), (by kernel_rfl), (by kernel_rfl), (by kernel_rfl), (by kernel_rfl), (by kernel_rfl), (by kernel_rfl), (by kernel_rfl), (by kernel_rfl), (by kernel_rfl), trivial⟩ ⟨K, (by omega), (by omega), (all_succI i0 (by omega) hd (by omega) (by omega))⟩
  · have ph15 := of_decide_eq_false h15
    refine WC.exit ?_
    refine WX.seqE ?_
    refine WX.seqE ?_
    refine WX.blockE ?_
    refine WX.seqN ?_
    refine WC.seq ?_
    refine WC.seq ?_
    refine WC.region ?_
    refine WL.op (d := 47) (.int .i64 ((dv (List.take i.toNat l) : Nat) : Int)) (k := ?_)
    refine WL.op (d := 48) (.bool (decide (((dv (List.take i.toNat l) : Nat) : Int) > 2147483648))) (k := ?_)
    refine WL.nil ?_
    refine WX.seqN ?_
    refine WC.cond (b := decide (((dv (List.take i.toNat l) : Nat) : Int) > 2147483648)) (ht := fun h21 => ?_) (hf := fun h21 => ?_)
    · have ph21 := of_decide_eq_true h21
      refine WC.seq ?_
      refine WC.region ?_
      refine WL.op (d := 2) (.int .i64 (-1)) (k := ?_)
      refine WL.nil ?_
      refine WX.seqN ?_
      refine WC.ret ?_
      refine WX.seqR ?_
      refine WX.ret (rs := [.tmp 2]) [.int .i64 (-1)] (.int .i64 (-1)) ⟨(by kernel_rfl), trivial⟩ (k := ?_)
      have ra_ := numR_all (l := l) (i := i) (fun k_ => by have q_ := congrArg List.length k_; simp only [List.length_nil] at q_; omega) (fun k_ => by omega) hd (by omega)
      exact ⟨by rw [ra_.2 (by omega)], K⟩
    · have ph21 := of_decide_eq_false h21
      refine WC.skip ?_
      refine WX.seqN ?_
      refine WC.seq ?_
      refine WC.region ?_
      refine WL.op (d := 49) (.int .i64 ((dv (List.take i.toNat l) : Nat) : Int)) (k := ?_)
      refine WL.op (d := 2) (.int .i64 ((dv (List.take i.toNat l) : Nat) : Int)) (k := ?_)
      refine WL.nil ?_
      refine WX.seqN ?_
      refine WC.ret ?_
      refine WX.ret (rs := [.tmp 2]) [.int .i64 ((dv (List.take i.toNat l) : Nat) : Int)] (.int .i64 ((dv (List.take i.toNat l) : Nat) : Int)) ⟨(by kernel_rfl), trivial⟩ (k := ?_)
      have ra_ := numR_all (l := l) (i := i) (fun k_ => by have q_ := congrArg List.length k_; simp only [List.length_nil] at q_; omega) (fun k_ => by omega) hd (by omega)
      exact ⟨by rw [ra_.1 (by omega)], K⟩
end Go.Proofs.YtoeinhlmkpgjhaaGreatDoor
