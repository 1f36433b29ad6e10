
/- OpsBare, walked. -/
import Derived.Test.YtpkcohhfkeinmaaOp8
import Derived.Test.YtpkcohhfkeinmaaArgs
namespace Go.Proofs.Ytpkcohhfkeinmaa
open Go.RowKit
set_option linter.unusedVariables false
set_option linter.unusedSimpArgs false

set_option maxRecDepth 100000 in
set_option maxHeartbeats 4000000 in
theorem bare_ok (k a b c d e i cc m a' b' c' d' e' i' cc' m' : Int) (sv sv' : Bool) (h1 : GOp.bare ⟨k, ⟨a, b, c, d, e⟩, sv, i, cc, m⟩ = ⟨k, ⟨a', b', c', d', e'⟩, sv', i', cc', m'⟩) (h2 : GOp.bare ⟨k, ⟨a', b', c', d', e'⟩, sv', i', cc', m'⟩ = ⟨k, ⟨a', b', c', d', e'⟩, sv', i', cc', m'⟩) (hok : GOp.ok ⟨k, ⟨a, b, c, d, e⟩, sv, i, cc, m⟩) (w : World) : Calls Try.prog 12 #[GOp.val ⟨k, ⟨a, b, c, d, e⟩, sv, i, cc, m⟩] w fun x w' => x = .returned (.bool true) ∧ Adds w w' := by
  have q1 := eqOp k k a' a' b' b' c' c' d' d' e' e' i' i' cc' cc' m' m' sv' sv'
  have e1 : GOp.same ⟨k, ⟨a', b', c', d', e'⟩, sv', i', cc', m'⟩ ⟨k, ⟨a', b', c', d', e'⟩, sv', i', cc', m'⟩ = true := decide_eq_true rfl
  rw [e1] at q1
  have e2 : GOp.same ⟨k, ⟨a', b', c', d', e'⟩, sv', i', cc', m'⟩ ⟨k, ⟨a, b, c, d, e⟩, sv, i, cc, m⟩ = true := decide_eq_true (h1.symm.trans hok.1.symm)
  have q2 := eqOp k k a' a b' b c' c d' d e' e i' i cc' cc m' m sv' sv
  rw [e2] at q2
  have e3 : decide (GOp.ok ⟨k, ⟨a, b, c, d, e⟩, sv, i, cc, m⟩) = true := decide_eq_true hok
  have C1 := Lib.hid (fun w => pBare_c ⟨k, ⟨a, b, c, d, e⟩, sv, i, cc, m⟩ w)
  have C2 := Lib.hid (fun w => pBare_c ⟨k, ⟨a', b', c', d', e'⟩, sv', i', cc', m'⟩ w)
  have C3 := Lib.hid (fun w => pOCheck_c ⟨k, ⟨a, b, c, d, e⟩, sv, i, cc, m⟩ w)
  rw [h1] at C1
  rw [h2] at C2
  rw [e3] at C3
  have K := Keeps.refl (fun _ => False) w
  have k2 : (k == k) = true := by simp
  clear e1 e3 e2 h1 h2 hok
  go_enter Try.func12, Try.ntmps12
  go_wp2_with (first | (go_at_call 37; refine (l13awake_c _).mono ?_; rintro x w1 ⟨rfl, k1⟩; have c0 := opBlock k a b c d e sv i cc m (k1.heap (heap_alloc_new' w _) id); obtain ⟨f0, f1, f2, f3, f4, f5, f6, f7, f8, f9⟩ := id c0; have K := (K.alloc _).trans k1; have hlt := lt_of_heap (k1.heap (heap_alloc_new' w _) id); clear k1) | (go_at_call 44; (with_reducible refine (C1.out _).mono ?_); rintro x w2 ⟨rfl, k3⟩; have c2 := Keeps.op k3 c0 id; clear f0 f1 f2 f3 f4 f5 f6 f7 f8 f9; have K := K.trans k3; have hlt2 := k3.lt hlt; clear k3))
  have d0 := opBlock k a' b' c' d' e' sv' i' cc' m' (heap_alloc_new' w2 (.cells #[.int .i64 k, .int .i64 a', .int .i64 b', .int .i64 c', .int .i64 d', .int .i64 e', .bool sv', .int .i64 i', .int .i64 cc', .int .i64 m'] 46))
  have g0 := Keeps.op ((Keeps.refl (fun _ => False) w2).alloc (.cells #[.int .i64 k, .int .i64 a', .int .i64 b', .int .i64 c', .int .i64 d', .int .i64 e', .bool sv', .int .i64 i', .int .i64 cc', .int .i64 m'] 46)) c2 id
  have K := K.alloc (.cells #[.int .i64 k, .int .i64 a', .int .i64 b', .int .i64 c', .int .i64 d', .int .i64 e', .bool sv', .int .i64 i', .int .i64 cc', .int .i64 m'] 46)
  have K := K.drew
  have dd0 := Keeps.op ((Keeps.refl (fun _ => False) _).drew) d0 id
  have gg0 := Keeps.op ((Keeps.refl (fun _ => False) _).drew) g0 id
  obtain ⟨x0, x1, x2, x3, x4, x5, x6, x7, x8, x9⟩ := id dd0
  obtain ⟨y0, y1, y2, y3, y4, y5, y6, y7, y8, y9⟩ := id gg0
  have dd := Lib.hid dd0
  have gg := Lib.hid gg0
  clear c0 c2 d0 g0 dd0 gg0
  go_region_with (first | (go_at_call 44; (with_reducible refine (C2.out _).mono ?_); rintro x w3 ⟨rfl, k3⟩; have K := K.trans k3; have dd := Lib.hid (Keeps.op k3 dd.out id); have gg := Lib.hid (Keeps.op k3 gg.out id); obtain ⟨x0, x1, x2, x3, x4, x5, x6, x7, x8, x9⟩ := id dd.out; obtain ⟨y0, y1, y2, y3, y4, y5, y6, y7, y8, y9⟩ := id gg.out; clear k3) | (go_at_call 45; (with_reducible refine (C3.out _).mono ?_); rintro x w3 ⟨rfl, k3⟩; have K := K.trans k3; have dd := Lib.hid (Keeps.op k3 dd.out id); have gg := Lib.hid (Keeps.op k3 gg.out id); obtain ⟨x0, x1, x2, x3, x4, x5, x6, x7, x8, x9⟩ := id dd.out; obtain ⟨y0, y1, y2, y3, y4, y5, y6, y7, y8, y9⟩ := id gg.out; clear k3))
  all_goals (try clear x0 x1 x2 x3 x4 x5 x6 x7 x8 x9 y0 y1 y2 y3 y4 y5 y6 y7 y8 y9)
  all_goals (go_wp2; go_ret; exact ⟨rfl, by assumption⟩)

set_option maxRecDepth 100000 in
set_option maxHeartbeats 4000000 in
theorem bare_no (k a b c d e i cc m a' b' c' d' e' i' cc' m' : Int) (sv sv' : Bool) (h1 : GOp.bare ⟨k, ⟨a, b, c, d, e⟩, sv, i, cc, m⟩ = ⟨k, ⟨a', b', c', d', e'⟩, sv', i', cc', m'⟩) (h2 : GOp.bare ⟨k, ⟨a', b', c', d', e'⟩, sv', i', cc', m'⟩ = ⟨k, ⟨a', b', c', d', e'⟩, sv', i', cc', m'⟩) (hok : ¬ GOp.ok ⟨k, ⟨a, b, c, d, e⟩, sv, i, cc, m⟩) (w : World) : Calls Try.prog 12 #[GOp.val ⟨k, ⟨a, b, c, d, e⟩, sv, i, cc, m⟩] w fun x w' => x = .returned (.bool true) ∧ Adds w w' := by
  have q1 := eqOp k k a' a' b' b' c' c' d' d' e' e' i' i' cc' cc' m' m' sv' sv'
  have e1 : GOp.same ⟨k, ⟨a', b', c', d', e'⟩, sv', i', cc', m'⟩ ⟨k, ⟨a', b', c', d', e'⟩, sv', i', cc', m'⟩ = true := decide_eq_true rfl
  rw [e1] at q1
  have e3 : decide (GOp.ok ⟨k, ⟨a, b, c, d, e⟩, sv, i, cc, m⟩) = false := decide_eq_false hok
  have C1 := Lib.hid (fun w => pBare_c ⟨k, ⟨a, b, c, d, e⟩, sv, i, cc, m⟩ w)
  have C2 := Lib.hid (fun w => pBare_c ⟨k, ⟨a', b', c', d', e'⟩, sv', i', cc', m'⟩ w)
  have C3 := Lib.hid (fun w => pOCheck_c ⟨k, ⟨a, b, c, d, e⟩, sv, i, cc, m⟩ w)
  rw [h1] at C1
  rw [h2] at C2
  rw [e3] at C3
  have K := Keeps.refl (fun _ => False) w
  have k2 : (k == k) = true := by simp
  clear e1 e3  h1 h2 hok
  go_enter Try.func12, Try.ntmps12
  go_wp2_with (first | (go_at_call 37; refine (l13awake_c _).mono ?_; rintro x w1 ⟨rfl, k1⟩; have c0 := opBlock k a b c d e sv i cc m (k1.heap (heap_alloc_new' w _) id); obtain ⟨f0, f1, f2, f3, f4, f5, f6, f7, f8, f9⟩ := id c0; have K := (K.alloc _).trans k1; have hlt := lt_of_heap (k1.heap (heap_alloc_new' w _) id); clear k1) | (go_at_call 44; (with_reducible refine (C1.out _).mono ?_); rintro x w2 ⟨rfl, k3⟩; have c2 := Keeps.op k3 c0 id; clear f0 f1 f2 f3 f4 f5 f6 f7 f8 f9; have K := K.trans k3; have hlt2 := k3.lt hlt; clear k3))
  have d0 := opBlock k a' b' c' d' e' sv' i' cc' m' (heap_alloc_new' w2 (.cells #[.int .i64 k, .int .i64 a', .int .i64 b', .int .i64 c', .int .i64 d', .int .i64 e', .bool sv', .int .i64 i', .int .i64 cc', .int .i64 m'] 46))
  have g0 := Keeps.op ((Keeps.refl (fun _ => False) w2).alloc (.cells #[.int .i64 k, .int .i64 a', .int .i64 b', .int .i64 c', .int .i64 d', .int .i64 e', .bool sv', .int .i64 i', .int .i64 cc', .int .i64 m'] 46)) c2 id
  have K := K.alloc (.cells #[.int .i64 k, .int .i64 a', .int .i64 b', .int .i64 c', .int .i64 d', .int .i64 e', .bool sv', .int .i64 i', .int .i64 cc', .int .i64 m'] 46)
  have K := K.drew
  have dd0 := Keeps.op ((Keeps.refl (fun _ => False) _).drew) d0 id
  have gg0 := Keeps.op ((Keeps.refl (fun _ => False) _).drew) g0 id
  obtain ⟨x0, x1, x2, x3, x4, x5, x6, x7, x8, x9⟩ := id dd0
  obtain ⟨y0, y1, y2, y3, y4, y5, y6, y7, y8, y9⟩ := id gg0
  have dd := Lib.hid dd0
  have gg := Lib.hid gg0
  clear c0 c2 d0 g0 dd0 gg0
  go_region_with (first | (go_at_call 44; (with_reducible refine (C2.out _).mono ?_); rintro x w3 ⟨rfl, k3⟩; have K := K.trans k3; have dd := Lib.hid (Keeps.op k3 dd.out id); have gg := Lib.hid (Keeps.op k3 gg.out id); obtain ⟨x0, x1, x2, x3, x4, x5, x6, x7, x8, x9⟩ := id dd.out; obtain ⟨y0, y1, y2, y3, y4, y5, y6, y7, y8, y9⟩ := id gg.out; clear k3) | (go_at_call 45; (with_reducible refine (C3.out _).mono ?_); rintro x w3 ⟨rfl, k3⟩; have K := K.trans k3; have dd := Lib.hid (Keeps.op k3 dd.out id); have gg := Lib.hid (Keeps.op k3 gg.out id); obtain ⟨x0, x1, x2, x3, x4, x5, x6, x7, x8, x9⟩ := id dd.out; obtain ⟨y0, y1, y2, y3, y4, y5, y6, y7, y8, y9⟩ := id gg.out; clear k3))
  all_goals (try clear x0 x1 x2 x3 x4 x5 x6 x7 x8 x9 y0 y1 y2 y3 y4 y5 y6 y7 y8 y9)
  all_goals (go_wp2; go_ret; exact ⟨rfl, by assumption⟩)

end Go.Proofs.Ytpkcohhfkeinmaa
