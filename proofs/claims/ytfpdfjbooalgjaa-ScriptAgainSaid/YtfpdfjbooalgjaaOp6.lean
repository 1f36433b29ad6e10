
/- Bytes of ops. -/
import Derived.Test.YtfpdfjbooalgjaaOp5
namespace Go.Proofs.Ytfpdfjbooalgjaa
open Go.RowKit
set_option linter.unusedVariables false
set_option linter.unusedSimpArgs false

theorem wString_p {b : Nat} {r : Option Nat} {bs : List UInt8} {w w1 : World} (P : WrPost 64 b r bs w w1) (hlen : bs.length ≤ 900000000) :
    Calls Try.prog 29 #[.pointer (some ⟨b, 0, none⟩)] w1 fun e w' => e = .returned (.string ⟨bs.toArray⟩) ∧ WrPost 64 b r bs w w' := by
  obtain ⟨r1, h1, n1, k1⟩ := id P
  exact (wString_s b r1 bs _ h1 hlen).mono (fun e w' h => ⟨h.1, P.step' h1 h.2⟩)
theorem removePuts_p {b : Nat} {r : Option Nat} {bs : List UInt8} {w w1 : World} (P : WrPost 64 b r bs w w1) (id : Int) (hid : id ≤ 9223372036854775807) (hlen : bs.length ≤ 900000000) :
    Calls Try.prog 99 #[.agg #[.int .i64 id], .pointer (some ⟨b, 0, none⟩)] w1 fun e w' => e = .returned (.tuple #[]) ∧ WrPost 64 b r (bs ++ encNum id.toNat) w w' := by
  have P' := P
  obtain ⟨r1, h1, n1, k1⟩ := P'
  exact (removePuts_c b r1 bs id hid _ h1 hlen).mono (fun e w' h => ⟨h.1, P.step' h1 h.2⟩)
theorem modePuts_p {b : Nat} {r : Option Nat} {bs : List UInt8} {w w1 : World} (P : WrPost 64 b r bs w w1) (id : Int) (hid : id ≤ 9223372036854775807) (hlen : bs.length ≤ 900000000) :
    Calls Try.prog 105 #[.agg #[.int .i64 id], .pointer (some ⟨b, 0, none⟩)] w1 fun e w' => e = .returned (.tuple #[]) ∧ WrPost 64 b r (bs ++ encNum id.toNat) w w' := by
  have P' := P
  obtain ⟨r1, h1, n1, k1⟩ := P'
  exact (modePuts_c b r1 bs id hid _ h1 hlen).mono (fun e w' h => ⟨h.1, P.step' h1 h.2⟩)
theorem resizePuts_p {b : Nat} {r : Option Nat} {bs : List UInt8} {w w1 : World} (P : WrPost 64 b r bs w w1) (id : Int) (hid : id ≤ 2147483647) (n : Nat) (hn : n ≤ 2147483648) (hlen : bs.length ≤ 800000000) :
    Calls Try.prog 102 #[.agg #[.int .i64 id, .int .i64 n], .pointer (some ⟨b, 0, none⟩)] w1 fun e w' => e = .returned (.tuple #[]) ∧ WrPost 64 b r (bs ++ encNum id.toNat ++ encNum n) w w' := by
  have P' := P
  obtain ⟨r1, h1, n1, k1⟩ := P'
  exact (resizePuts_c b r1 bs id hid n hn _ h1 hlen).mono (fun e w' h => ⟨h.1, P.step' h1 h.2⟩)
theorem admitPuts_p {b : Nat} {r : Option Nat} {bs : List UInt8} {w w1 : World} (P : WrPost 64 b r bs w w1) (a m : Int) (ha : a ≤ 2147483647) (hm : m ≤ 2147483647) (c d e : Nat) (hc : c ≤ 2147483648) (hd : d ≤ 2147483648) (he : e ≤ 2147483648) (sv : Bool) (hlen : bs.length ≤ 800000000) :
    Calls Try.prog 94 #[.agg #[.int .i64 a, .int .i64 c, .int .i64 d, .int .i64 e, .int .i64 m, .bool sv], .pointer (some ⟨b, 0, none⟩)] w1 fun x w' => x = .returned (.tuple #[]) ∧ WrPost 64 b r (bs ++ encNum a.toNat ++ encNum c ++ encNum d ++ encNum e ++ encNum m.toNat ++ encFlag sv) w w' := by
  have P' := P
  obtain ⟨r1, h1, n1, k1⟩ := P'
  exact (admitPuts_c b r1 bs a m ha hm c d e hc hd he sv _ h1 hlen).mono (fun e w' h => ⟨h.1, P.step' h1 h.2⟩)

theorem pBytes_no (o : GOp) (hno : ¬ o.ok) (w : World) : Calls Try.prog 42 #[o.val] w fun x w' => x = .returned (.tuple #[.string ⟨#[]⟩, .int .i64 1]) ∧ Adds w w' := by
  have e1 : decide o.ok = false := decide_eq_false hno
  have K := Keeps.refl (fun _ => False) w
  have hck := Lib.hid (fun w => pOCheck_c o w)
  obtain ⟨k, ⟨a, b, c, d, e⟩, sv, i, cc, m⟩ := o
  clear hno
  go_enter Try.func42, Try.ntmps42
  go_wp2_with (go_at_call 23; (refine (hck.out _).mono ?_); rw [e1]; rintro r w1 ⟨rfl, k1⟩)
  go_ret2
  exact ⟨rfl, (K.alloc _).trans k1⟩

set_option maxRecDepth 100000 in
set_option maxHeartbeats 4000000 in
theorem pBytes_1 (a m : Int) (ha : a ≤ 2147483647) (hm : m ≤ 2147483647) (c d e : Nat) (hc : c ≤ 2147483648) (hd : d ≤ 2147483648) (he : e ≤ 2147483648) (sv : Bool) (hok : GOp.ok ⟨1, ⟨a, c, d, e, m⟩, sv, 0, 0, 0⟩) (w : World) : Calls Try.prog 42 #[GOp.val ⟨1, ⟨a, c, d, e, m⟩, sv, 0, 0, 0⟩] w fun x w' => x = .returned (.tuple #[.string ⟨(encNum 1 ++ (encNum a.toNat ++ (encNum c ++ (encNum d ++ (encNum e ++ (encNum m.toNat ++ encFlag sv)))))).toArray⟩, .int .i64 0]) ∧ Adds w w' := by
  have e1 : decide (GOp.ok ⟨1, ⟨a, c, d, e, m⟩, sv, 0, 0, 0⟩) = true := decide_eq_true hok
  have K := Keeps.refl (fun _ => False) w
  have hck := Lib.hid (fun w => pOCheck_c ⟨1, ⟨a, c, d, e, m⟩, sv, 0, 0, 0⟩ w)
  have hof := Lib.hid (fun w => pOf_c ⟨1, ⟨a, c, d, e, m⟩, sv, 0, 0, 0⟩ w)
  have hv : ofV ⟨1, ⟨a, c, d, e, m⟩, sv, 0, 0, 0⟩ = .iface 101 (.agg #[.int .i64 a, .int .i64 c, .int .i64 d, .int .i64 e, .int .i64 m, .bool sv]) := rfl
  have hnil : ∀ w, (nilAhead 240 101 (.agg #[.int .i64 a, .int .i64 c, .int .i64 d, .int .i64 e, .int .i64 m, .bool sv]) "horarium/ops.puts").run Try.prog w = .ok (some false) w := fun _ => by kernel_rfl
  have l0 := encNum_len 1 (by omega)
  have l1 := encNum_len (a.toNat) (by omega)
  have l2 := encNum_len (c) (by omega)
  have l3 := encNum_len (d) (by omega)
  have l4 := encNum_len (e) (by omega)
  have l5 := encNum_len (m.toNat) (by omega)
  have lf : ∀ f, (encFlag f).length ≤ 9 := fun f => by
    cases f
    · exact encNum_len 0 (by omega)
    · exact encNum_len 1 (by omega)
  have lf1 := lf sv
  have hE : encNum (Int.toNat 1) = encNum 1 := rfl
  clear hok lf
  go_enter Try.func42, Try.ntmps42
  go_wp2_with (first | (go_at_call 23; (refine (hck.out _).mono ?_); rw [e1]; rintro r w1 ⟨rfl, k1⟩))
  have hB := k1.heap (heap_alloc_new' w _) id
  have hlt := lt_of_heap hB
  have c0 : (w1.alloc (.cells #[.pointer none, .slice none 0 0] 64)).drew.cell? ⟨w.heap.size, 0, none⟩ = some (.int .i64 1) ∧ (w1.alloc (.cells #[.pointer none, .slice none 0 0] 64)).drew.cell? ⟨w.heap.size, 1, none⟩ = some (.int .i64 a) ∧ (w1.alloc (.cells #[.pointer none, .slice none 0 0] 64)).drew.cell? ⟨w.heap.size, 2, none⟩ = some (.int .i64 c) ∧ (w1.alloc (.cells #[.pointer none, .slice none 0 0] 64)).drew.cell? ⟨w.heap.size, 3, none⟩ = some (.int .i64 d) ∧ (w1.alloc (.cells #[.pointer none, .slice none 0 0] 64)).drew.cell? ⟨w.heap.size, 4, none⟩ = some (.int .i64 e) ∧ (w1.alloc (.cells #[.pointer none, .slice none 0 0] 64)).drew.cell? ⟨w.heap.size, 5, none⟩ = some (.int .i64 m) ∧ (w1.alloc (.cells #[.pointer none, .slice none 0 0] 64)).drew.cell? ⟨w.heap.size, 6, none⟩ = some (.bool sv) ∧ (w1.alloc (.cells #[.pointer none, .slice none 0 0] 64)).drew.cell? ⟨w.heap.size, 7, none⟩ = some (.int .i64 0) ∧ (w1.alloc (.cells #[.pointer none, .slice none 0 0] 64)).drew.cell? ⟨w.heap.size, 8, none⟩ = some (.int .i64 0) ∧ (w1.alloc (.cells #[.pointer none, .slice none 0 0] 64)).drew.cell? ⟨w.heap.size, 9, none⟩ = some (.int .i64 0) := opBlock 1 a c d e m sv 0 0 0 (heap_alloc_old' hB _)
  have hne : ¬ (w.heap.size = w1.heap.size ∨ none = some w.heap.size) := fun h => by rcases h with h | h <;> first | omega | cases h
  have P1 : Hid (WrPost 64 w1.heap.size none [] (w1.alloc (.cells #[.pointer none, .slice none 0 0] 64)).drew _) := WrPost.refl ((BuR.new0 64 w1).keeps ((Keeps.refl (fun _ => False) _).drew) (fun x => x) (fun _ _ x => x))
  have KW := Lib.hid (((K.alloc (.cells #[.int .i64 1, .int .i64 a, .int .i64 c, .int .i64 d, .int .i64 e, .int .i64 m, .bool sv, .int .i64 0, .int .i64 0, .int .i64 0] 29)).trans k1).alloc (.cells #[.pointer none, .slice none 0 0] 64)).drew
  have hsz := k1.size
  clear hB K k1
  go_region_held3 (fun w' => w'.cell? ⟨w.heap.size, 0, none⟩ = some (.int .i64 1) ∧ w'.cell? ⟨w.heap.size, 1, none⟩ = some (.int .i64 a) ∧ w'.cell? ⟨w.heap.size, 2, none⟩ = some (.int .i64 c) ∧ w'.cell? ⟨w.heap.size, 3, none⟩ = some (.int .i64 d) ∧ w'.cell? ⟨w.heap.size, 4, none⟩ = some (.int .i64 e) ∧ w'.cell? ⟨w.heap.size, 5, none⟩ = some (.int .i64 m) ∧ w'.cell? ⟨w.heap.size, 6, none⟩ = some (.bool sv) ∧ w'.cell? ⟨w.heap.size, 7, none⟩ = some (.int .i64 0) ∧ w'.cell? ⟨w.heap.size, 8, none⟩ = some (.int .i64 0) ∧ w'.cell? ⟨w.heap.size, 9, none⟩ = some (.int .i64 0)) ((first | (go_keep; done) | assumption)) (first | (go_at_call 37; (with_reducible refine (hof.out _).mono ?_); rw [hv]; rintro x w3 ⟨rfl, k3⟩; have P1 : Hid (WrPost 64 w1.heap.size none _ _ w3) := P1.out.then k3; have q := Keeps.op P1.out.keeps c0 hne; clear k3) | (go_at_call 41; (with_reducible refine (wInt_p P1.out 1 (by omega) (by (try simp only [List.length_append, List.length_nil]); omega)).mono ?_); rw [hE]; rintro x w3 ⟨rfl, P2⟩; have P1 : Hid (WrPost 64 w1.heap.size none _ _ w3) := P2; have q := Keeps.op P1.out.keeps c0 hne; clear P2) | (go_at_call 94; (with_reducible refine (admitPuts_p P1.out a m (by omega) (by omega) c d e (by omega) (by omega) (by omega) sv (by (try simp only [List.length_append, List.length_nil]); omega)).mono ?_); rintro x w3 ⟨rfl, P2⟩; have P1 : Hid (WrPost 64 w1.heap.size none _ _ w3) := P2; have q := Keeps.op P1.out.keeps c0 hne; clear P2))
  all_goals clear c0
  all_goals go_wp2_with (first | (go_at_call 29; (refine (wString_p P1.out (by (try simp only [List.length_append, List.length_nil]); omega)).mono ?_); rintro x w4 ⟨rfl, P3⟩))
  all_goals go_ret2
  all_goals exact ⟨rfl, P3.adds KW.out (by simp at hsz; omega) (fun i h => by cases h)⟩

set_option maxRecDepth 100000 in
set_option maxHeartbeats 4000000 in
theorem pBytes_2 (i : Int) (hi : i ≤ 2147483647) (hok : GOp.ok ⟨2, ⟨0, 0, 0, 0, 0⟩, false, i, 0, 0⟩) (w : World) : Calls Try.prog 42 #[GOp.val ⟨2, ⟨0, 0, 0, 0, 0⟩, false, i, 0, 0⟩] w fun x w' => x = .returned (.tuple #[.string ⟨(encNum 2 ++ encNum i.toNat).toArray⟩, .int .i64 0]) ∧ Adds w w' := by
  have e1 : decide (GOp.ok ⟨2, ⟨0, 0, 0, 0, 0⟩, false, i, 0, 0⟩) = true := decide_eq_true hok
  have K := Keeps.refl (fun _ => False) w
  have hck := Lib.hid (fun w => pOCheck_c ⟨2, ⟨0, 0, 0, 0, 0⟩, false, i, 0, 0⟩ w)
  have hof := Lib.hid (fun w => pOf_c ⟨2, ⟨0, 0, 0, 0, 0⟩, false, i, 0, 0⟩ w)
  have hv : ofV ⟨2, ⟨0, 0, 0, 0, 0⟩, false, i, 0, 0⟩ = .iface 103 (.agg #[.int .i64 i]) := rfl
  have hnil : ∀ w, (nilAhead 240 103 (.agg #[.int .i64 i]) "horarium/ops.puts").run Try.prog w = .ok (some false) w := fun _ => by kernel_rfl
  have l0 := encNum_len 2 (by omega)
  have l1 := encNum_len (i.toNat) (by omega)
  have lf : ∀ f, (encFlag f).length ≤ 9 := fun f => by
    cases f
    · exact encNum_len 0 (by omega)
    · exact encNum_len 1 (by omega)
  have lf1 := lf true
  have hE : encNum (Int.toNat 2) = encNum 2 := rfl
  clear hok lf
  go_enter Try.func42, Try.ntmps42
  go_wp2_with (first | (go_at_call 23; (refine (hck.out _).mono ?_); rw [e1]; rintro r w1 ⟨rfl, k1⟩))
  have hB := k1.heap (heap_alloc_new' w _) id
  have hlt := lt_of_heap hB
  have c0 : (w1.alloc (.cells #[.pointer none, .slice none 0 0] 64)).drew.cell? ⟨w.heap.size, 0, none⟩ = some (.int .i64 2) ∧ (w1.alloc (.cells #[.pointer none, .slice none 0 0] 64)).drew.cell? ⟨w.heap.size, 1, none⟩ = some (.int .i64 0) ∧ (w1.alloc (.cells #[.pointer none, .slice none 0 0] 64)).drew.cell? ⟨w.heap.size, 2, none⟩ = some (.int .i64 0) ∧ (w1.alloc (.cells #[.pointer none, .slice none 0 0] 64)).drew.cell? ⟨w.heap.size, 3, none⟩ = some (.int .i64 0) ∧ (w1.alloc (.cells #[.pointer none, .slice none 0 0] 64)).drew.cell? ⟨w.heap.size, 4, none⟩ = some (.int .i64 0) ∧ (w1.alloc (.cells #[.pointer none, .slice none 0 0] 64)).drew.cell? ⟨w.heap.size, 5, none⟩ = some (.int .i64 0) ∧ (w1.alloc (.cells #[.pointer none, .slice none 0 0] 64)).drew.cell? ⟨w.heap.size, 6, none⟩ = some (.bool false) ∧ (w1.alloc (.cells #[.pointer none, .slice none 0 0] 64)).drew.cell? ⟨w.heap.size, 7, none⟩ = some (.int .i64 i) ∧ (w1.alloc (.cells #[.pointer none, .slice none 0 0] 64)).drew.cell? ⟨w.heap.size, 8, none⟩ = some (.int .i64 0) ∧ (w1.alloc (.cells #[.pointer none, .slice none 0 0] 64)).drew.cell? ⟨w.heap.size, 9, none⟩ = some (.int .i64 0) := opBlock 2 0 0 0 0 0 false i 0 0 (heap_alloc_old' hB _)
  have hne : ¬ (w.heap.size = w1.heap.size ∨ none = some w.heap.size) := fun h => by rcases h with h | h <;> first | omega | cases h
  have P1 : Hid (WrPost 64 w1.heap.size none [] (w1.alloc (.cells #[.pointer none, .slice none 0 0] 64)).drew _) := WrPost.refl ((BuR.new0 64 w1).keeps ((Keeps.refl (fun _ => False) _).drew) (fun x => x) (fun _ _ x => x))
  have KW := Lib.hid (((K.alloc (.cells #[.int .i64 2, .int .i64 0, .int .i64 0, .int .i64 0, .int .i64 0, .int .i64 0, .bool false, .int .i64 i, .int .i64 0, .int .i64 0] 29)).trans k1).alloc (.cells #[.pointer none, .slice none 0 0] 64)).drew
  have hsz := k1.size
  clear hB K k1
  go_region_held3 (fun w' => w'.cell? ⟨w.heap.size, 0, none⟩ = some (.int .i64 2) ∧ w'.cell? ⟨w.heap.size, 1, none⟩ = some (.int .i64 0) ∧ w'.cell? ⟨w.heap.size, 2, none⟩ = some (.int .i64 0) ∧ w'.cell? ⟨w.heap.size, 3, none⟩ = some (.int .i64 0) ∧ w'.cell? ⟨w.heap.size, 4, none⟩ = some (.int .i64 0) ∧ w'.cell? ⟨w.heap.size, 5, none⟩ = some (.int .i64 0) ∧ w'.cell? ⟨w.heap.size, 6, none⟩ = some (.bool false) ∧ w'.cell? ⟨w.heap.size, 7, none⟩ = some (.int .i64 i) ∧ w'.cell? ⟨w.heap.size, 8, none⟩ = some (.int .i64 0) ∧ w'.cell? ⟨w.heap.size, 9, none⟩ = some (.int .i64 0)) ((first | (go_keep; done) | assumption)) (first | (go_at_call 37; (with_reducible refine (hof.out _).mono ?_); rw [hv]; rintro x w3 ⟨rfl, k3⟩; have P1 : Hid (WrPost 64 w1.heap.size none _ _ w3) := P1.out.then k3; have q := Keeps.op P1.out.keeps c0 hne; clear k3) | (go_at_call 41; (with_reducible refine (wInt_p P1.out 2 (by omega) (by (try simp only [List.length_append, List.length_nil]); omega)).mono ?_); rw [hE]; rintro x w3 ⟨rfl, P2⟩; have P1 : Hid (WrPost 64 w1.heap.size none _ _ w3) := P2; have q := Keeps.op P1.out.keeps c0 hne; clear P2) | (go_at_call 99; (with_reducible refine (removePuts_p P1.out i (by omega) (by (try simp only [List.length_append, List.length_nil]); omega)).mono ?_); rintro x w3 ⟨rfl, P2⟩; have P1 : Hid (WrPost 64 w1.heap.size none _ _ w3) := P2; have q := Keeps.op P1.out.keeps c0 hne; clear P2))
  all_goals clear c0
  all_goals go_wp2_with (first | (go_at_call 29; (refine (wString_p P1.out (by (try simp only [List.length_append, List.length_nil]); omega)).mono ?_); rintro x w4 ⟨rfl, P3⟩))
  all_goals go_ret2
  all_goals exact ⟨rfl, P3.adds KW.out (by simp at hsz; omega) (fun i h => by cases h)⟩

set_option maxRecDepth 100000 in
set_option maxHeartbeats 4000000 in
theorem pBytes_3 (i : Int) (hi : i ≤ 2147483647) (n : Nat) (hn : n ≤ 2147483648) (hok : GOp.ok ⟨3, ⟨0, 0, 0, 0, 0⟩, false, i, n, 0⟩) (w : World) : Calls Try.prog 42 #[GOp.val ⟨3, ⟨0, 0, 0, 0, 0⟩, false, i, n, 0⟩] w fun x w' => x = .returned (.tuple #[.string ⟨(encNum 3 ++ (encNum i.toNat ++ encNum n)).toArray⟩, .int .i64 0]) ∧ Adds w w' := by
  have e1 : decide (GOp.ok ⟨3, ⟨0, 0, 0, 0, 0⟩, false, i, n, 0⟩) = true := decide_eq_true hok
  have K := Keeps.refl (fun _ => False) w
  have hck := Lib.hid (fun w => pOCheck_c ⟨3, ⟨0, 0, 0, 0, 0⟩, false, i, n, 0⟩ w)
  have hof := Lib.hid (fun w => pOf_c ⟨3, ⟨0, 0, 0, 0, 0⟩, false, i, n, 0⟩ w)
  have hv : ofV ⟨3, ⟨0, 0, 0, 0, 0⟩, false, i, n, 0⟩ = .iface 105 (.agg #[.int .i64 i, .int .i64 n]) := rfl
  have hnil : ∀ w, (nilAhead 240 105 (.agg #[.int .i64 i, .int .i64 n]) "horarium/ops.puts").run Try.prog w = .ok (some false) w := fun _ => by kernel_rfl
  have l0 := encNum_len 3 (by omega)
  have l1 := encNum_len (i.toNat) (by omega)
  have l2 := encNum_len (n) (by omega)
  have lf : ∀ f, (encFlag f).length ≤ 9 := fun f => by
    cases f
    · exact encNum_len 0 (by omega)
    · exact encNum_len 1 (by omega)
  have lf1 := lf true
  have hE : encNum (Int.toNat 3) = encNum 3 := rfl
  clear hok lf
  go_enter Try.func42, Try.ntmps42
  go_wp2_with (first | (go_at_call 23; (refine (hck.out _).mono ?_); rw [e1]; rintro r w1 ⟨rfl, k1⟩))
  have hB := k1.heap (heap_alloc_new' w _) id
  have hlt := lt_of_heap hB
  have c0 : (w1.alloc (.cells #[.pointer none, .slice none 0 0] 64)).drew.cell? ⟨w.heap.size, 0, none⟩ = some (.int .i64 3) ∧ (w1.alloc (.cells #[.pointer none, .slice none 0 0] 64)).drew.cell? ⟨w.heap.size, 1, none⟩ = some (.int .i64 0) ∧ (w1.alloc (.cells #[.pointer none, .slice none 0 0] 64)).drew.cell? ⟨w.heap.size, 2, none⟩ = some (.int .i64 0) ∧ (w1.alloc (.cells #[.pointer none, .slice none 0 0] 64)).drew.cell? ⟨w.heap.size, 3, none⟩ = some (.int .i64 0) ∧ (w1.alloc (.cells #[.pointer none, .slice none 0 0] 64)).drew.cell? ⟨w.heap.size, 4, none⟩ = some (.int .i64 0) ∧ (w1.alloc (.cells #[.pointer none, .slice none 0 0] 64)).drew.cell? ⟨w.heap.size, 5, none⟩ = some (.int .i64 0) ∧ (w1.alloc (.cells #[.pointer none, .slice none 0 0] 64)).drew.cell? ⟨w.heap.size, 6, none⟩ = some (.bool false) ∧ (w1.alloc (.cells #[.pointer none, .slice none 0 0] 64)).drew.cell? ⟨w.heap.size, 7, none⟩ = some (.int .i64 i) ∧ (w1.alloc (.cells #[.pointer none, .slice none 0 0] 64)).drew.cell? ⟨w.heap.size, 8, none⟩ = some (.int .i64 n) ∧ (w1.alloc (.cells #[.pointer none, .slice none 0 0] 64)).drew.cell? ⟨w.heap.size, 9, none⟩ = some (.int .i64 0) := opBlock 3 0 0 0 0 0 false i n 0 (heap_alloc_old' hB _)
  have hne : ¬ (w.heap.size = w1.heap.size ∨ none = some w.heap.size) := fun h => by rcases h with h | h <;> first | omega | cases h
  have P1 : Hid (WrPost 64 w1.heap.size none [] (w1.alloc (.cells #[.pointer none, .slice none 0 0] 64)).drew _) := WrPost.refl ((BuR.new0 64 w1).keeps ((Keeps.refl (fun _ => False) _).drew) (fun x => x) (fun _ _ x => x))
  have KW := Lib.hid (((K.alloc (.cells #[.int .i64 3, .int .i64 0, .int .i64 0, .int .i64 0, .int .i64 0, .int .i64 0, .bool false, .int .i64 i, .int .i64 n, .int .i64 0] 29)).trans k1).alloc (.cells #[.pointer none, .slice none 0 0] 64)).drew
  have hsz := k1.size
  clear hB K k1
  go_region_held3 (fun w' => w'.cell? ⟨w.heap.size, 0, none⟩ = some (.int .i64 3) ∧ w'.cell? ⟨w.heap.size, 1, none⟩ = some (.int .i64 0) ∧ w'.cell? ⟨w.heap.size, 2, none⟩ = some (.int .i64 0) ∧ w'.cell? ⟨w.heap.size, 3, none⟩ = some (.int .i64 0) ∧ w'.cell? ⟨w.heap.size, 4, none⟩ = some (.int .i64 0) ∧ w'.cell? ⟨w.heap.size, 5, none⟩ = some (.int .i64 0) ∧ w'.cell? ⟨w.heap.size, 6, none⟩ = some (.bool false) ∧ w'.cell? ⟨w.heap.size, 7, none⟩ = some (.int .i64 i) ∧ w'.cell? ⟨w.heap.size, 8, none⟩ = some (.int .i64 n) ∧ w'.cell? ⟨w.heap.size, 9, none⟩ = some (.int .i64 0)) ((first | (go_keep; done) | assumption)) (first | (go_at_call 37; (with_reducible refine (hof.out _).mono ?_); rw [hv]; rintro x w3 ⟨rfl, k3⟩; have P1 : Hid (WrPost 64 w1.heap.size none _ _ w3) := P1.out.then k3; have q := Keeps.op P1.out.keeps c0 hne; clear k3) | (go_at_call 41; (with_reducible refine (wInt_p P1.out 3 (by omega) (by (try simp only [List.length_append, List.length_nil]); omega)).mono ?_); rw [hE]; rintro x w3 ⟨rfl, P2⟩; have P1 : Hid (WrPost 64 w1.heap.size none _ _ w3) := P2; have q := Keeps.op P1.out.keeps c0 hne; clear P2) | (go_at_call 102; (with_reducible refine (resizePuts_p P1.out i (by omega) n (by omega) (by (try simp only [List.length_append, List.length_nil]); omega)).mono ?_); rintro x w3 ⟨rfl, P2⟩; have P1 : Hid (WrPost 64 w1.heap.size none _ _ w3) := P2; have q := Keeps.op P1.out.keeps c0 hne; clear P2))
  all_goals clear c0
  all_goals go_wp2_with (first | (go_at_call 29; (refine (wString_p P1.out (by (try simp only [List.length_append, List.length_nil]); omega)).mono ?_); rintro x w4 ⟨rfl, P3⟩))
  all_goals go_ret2
  all_goals exact ⟨rfl, P3.adds KW.out (by simp at hsz; omega) (fun i h => by cases h)⟩

set_option maxRecDepth 100000 in
set_option maxHeartbeats 4000000 in
theorem pBytes_4 (m : Int) (hm : m ≤ 2147483647) (hok : GOp.ok ⟨4, ⟨0, 0, 0, 0, 0⟩, false, 0, 0, m⟩) (w : World) : Calls Try.prog 42 #[GOp.val ⟨4, ⟨0, 0, 0, 0, 0⟩, false, 0, 0, m⟩] w fun x w' => x = .returned (.tuple #[.string ⟨(encNum 4 ++ encNum m.toNat).toArray⟩, .int .i64 0]) ∧ Adds w w' := by
  have e1 : decide (GOp.ok ⟨4, ⟨0, 0, 0, 0, 0⟩, false, 0, 0, m⟩) = true := decide_eq_true hok
  have K := Keeps.refl (fun _ => False) w
  have hck := Lib.hid (fun w => pOCheck_c ⟨4, ⟨0, 0, 0, 0, 0⟩, false, 0, 0, m⟩ w)
  have hof := Lib.hid (fun w => pOf_c ⟨4, ⟨0, 0, 0, 0, 0⟩, false, 0, 0, m⟩ w)
  have hv : ofV ⟨4, ⟨0, 0, 0, 0, 0⟩, false, 0, 0, m⟩ = .iface 107 (.agg #[.int .i64 m]) := rfl
  have hnil : ∀ w, (nilAhead 240 107 (.agg #[.int .i64 m]) "horarium/ops.puts").run Try.prog w = .ok (some false) w := fun _ => by kernel_rfl
  have l0 := encNum_len 4 (by omega)
  have l1 := encNum_len (m.toNat) (by omega)
  have lf : ∀ f, (encFlag f).length ≤ 9 := fun f => by
    cases f
    · exact encNum_len 0 (by omega)
    · exact encNum_len 1 (by omega)
  have lf1 := lf true
  have hE : encNum (Int.toNat 4) = encNum 4 := rfl
  clear hok lf
  go_enter Try.func42, Try.ntmps42
  go_wp2_with (first | (go_at_call 23; (refine (hck.out _).mono ?_); rw [e1]; rintro r w1 ⟨rfl, k1⟩))
  have hB := k1.heap (heap_alloc_new' w _) id
  have hlt := lt_of_heap hB
  have c0 : (w1.alloc (.cells #[.pointer none, .slice none 0 0] 64)).drew.cell? ⟨w.heap.size, 0, none⟩ = some (.int .i64 4) ∧ (w1.alloc (.cells #[.pointer none, .slice none 0 0] 64)).drew.cell? ⟨w.heap.size, 1, none⟩ = some (.int .i64 0) ∧ (w1.alloc (.cells #[.pointer none, .slice none 0 0] 64)).drew.cell? ⟨w.heap.size, 2, none⟩ = some (.int .i64 0) ∧ (w1.alloc (.cells #[.pointer none, .slice none 0 0] 64)).drew.cell? ⟨w.heap.size, 3, none⟩ = some (.int .i64 0) ∧ (w1.alloc (.cells #[.pointer none, .slice none 0 0] 64)).drew.cell? ⟨w.heap.size, 4, none⟩ = some (.int .i64 0) ∧ (w1.alloc (.cells #[.pointer none, .slice none 0 0] 64)).drew.cell? ⟨w.heap.size, 5, none⟩ = some (.int .i64 0) ∧ (w1.alloc (.cells #[.pointer none, .slice none 0 0] 64)).drew.cell? ⟨w.heap.size, 6, none⟩ = some (.bool false) ∧ (w1.alloc (.cells #[.pointer none, .slice none 0 0] 64)).drew.cell? ⟨w.heap.size, 7, none⟩ = some (.int .i64 0) ∧ (w1.alloc (.cells #[.pointer none, .slice none 0 0] 64)).drew.cell? ⟨w.heap.size, 8, none⟩ = some (.int .i64 0) ∧ (w1.alloc (.cells #[.pointer none, .slice none 0 0] 64)).drew.cell? ⟨w.heap.size, 9, none⟩ = some (.int .i64 m) := opBlock 4 0 0 0 0 0 false 0 0 m (heap_alloc_old' hB _)
  have hne : ¬ (w.heap.size = w1.heap.size ∨ none = some w.heap.size) := fun h => by rcases h with h | h <;> first | omega | cases h
  have P1 : Hid (WrPost 64 w1.heap.size none [] (w1.alloc (.cells #[.pointer none, .slice none 0 0] 64)).drew _) := WrPost.refl ((BuR.new0 64 w1).keeps ((Keeps.refl (fun _ => False) _).drew) (fun x => x) (fun _ _ x => x))
  have KW := Lib.hid (((K.alloc (.cells #[.int .i64 4, .int .i64 0, .int .i64 0, .int .i64 0, .int .i64 0, .int .i64 0, .bool false, .int .i64 0, .int .i64 0, .int .i64 m] 29)).trans k1).alloc (.cells #[.pointer none, .slice none 0 0] 64)).drew
  have hsz := k1.size
  clear hB K k1
  go_region_held3 (fun w' => w'.cell? ⟨w.heap.size, 0, none⟩ = some (.int .i64 4) ∧ w'.cell? ⟨w.heap.size, 1, none⟩ = some (.int .i64 0) ∧ w'.cell? ⟨w.heap.size, 2, none⟩ = some (.int .i64 0) ∧ w'.cell? ⟨w.heap.size, 3, none⟩ = some (.int .i64 0) ∧ w'.cell? ⟨w.heap.size, 4, none⟩ = some (.int .i64 0) ∧ w'.cell? ⟨w.heap.size, 5, none⟩ = some (.int .i64 0) ∧ w'.cell? ⟨w.heap.size, 6, none⟩ = some (.bool false) ∧ w'.cell? ⟨w.heap.size, 7, none⟩ = some (.int .i64 0) ∧ w'.cell? ⟨w.heap.size, 8, none⟩ = some (.int .i64 0) ∧ w'.cell? ⟨w.heap.size, 9, none⟩ = some (.int .i64 m)) ((first | (go_keep; done) | assumption)) (first | (go_at_call 37; (with_reducible refine (hof.out _).mono ?_); rw [hv]; rintro x w3 ⟨rfl, k3⟩; have P1 : Hid (WrPost 64 w1.heap.size none _ _ w3) := P1.out.then k3; have q := Keeps.op P1.out.keeps c0 hne; clear k3) | (go_at_call 41; (with_reducible refine (wInt_p P1.out 4 (by omega) (by (try simp only [List.length_append, List.length_nil]); omega)).mono ?_); rw [hE]; rintro x w3 ⟨rfl, P2⟩; have P1 : Hid (WrPost 64 w1.heap.size none _ _ w3) := P2; have q := Keeps.op P1.out.keeps c0 hne; clear P2) | (go_at_call 105; (with_reducible refine (modePuts_p P1.out m (by omega) (by (try simp only [List.length_append, List.length_nil]); omega)).mono ?_); rintro x w3 ⟨rfl, P2⟩; have P1 : Hid (WrPost 64 w1.heap.size none _ _ w3) := P2; have q := Keeps.op P1.out.keeps c0 hne; clear P2))
  all_goals clear c0
  all_goals go_wp2_with (first | (go_at_call 29; (refine (wString_p P1.out (by (try simp only [List.length_append, List.length_nil]); omega)).mono ?_); rintro x w4 ⟨rfl, P3⟩))
  all_goals go_ret2
  all_goals exact ⟨rfl, P3.adds KW.out (by simp at hsz; omega) (fun i h => by cases h)⟩

end Go.Proofs.Ytfpdfjbooalgjaa
