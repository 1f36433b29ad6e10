
/- OpsBare, joined. -/
import Derived.Test.YtpkcohhfkeinmaaWk13b
namespace Go.Proofs.Ytpkcohhfkeinmaa
open Go.RowKit
set_option linter.unusedVariables false
set_option linter.unusedSimpArgs false

theorem GOp.bare_kind (o : GOp) : o.bare.kind = o.kind := by
  simp only [GOp.bare]
  split
  · rename_i h; exact h.symm
  split
  · rename_i h; exact h.symm
  split
  · rename_i h; exact h.symm
  split
  · rename_i h; exact h.symm
  · rfl
theorem GOp.bare_bare (o : GOp) : o.bare.bare = o.bare := by
  by_cases h1 : o.kind = 1
  · simp [GOp.bare, h1]
  by_cases h2 : o.kind = 2
  · simp [GOp.bare, h2]
  by_cases h3 : o.kind = 3
  · simp [GOp.bare, h3]
  by_cases h4 : o.kind = 4
  · simp [GOp.bare, h4]
  · simp [GOp.bare, h1, h2, h3, h4]

theorem bare_any (o : GOp) (w : World) : Calls Try.prog 12 #[o.val] w fun x w' => x = .returned (.bool true) ∧ Adds w w' := by
  have hk := o.bare_kind
  have hbb := o.bare_bare
  generalize hp : o.bare = p at hk hbb
  obtain ⟨k, ⟨a, b, c, d, e⟩, sv, i, cc, m⟩ := o
  obtain ⟨k', ⟨a', b', c', d', e'⟩, sv', i', cc', m'⟩ := p
  simp only at hk
  subst hk
  by_cases hok : GOp.ok ⟨k', ⟨a, b, c, d, e⟩, sv, i, cc, m⟩
  · exact bare_ok k' a b c d e i cc m a' b' c' d' e' i' cc' m' sv sv' hp hbb hok w
  · exact bare_no k' a b c d e i cc m a' b' c' d' e' i' cc' m' sv sv' hp hbb hok w

theorem i64_wf {x : Int} (h2 : (Lit.int .i64 x).wf = true) : i64B x := by
  simp [Lit.wf, IntKind.min, IntKind.max, IntKind.signed, IntKind.bits] at h2
  exact ⟨by omega, by omega⟩

/-- An op's cells. -/
theorem isOp {w : World} {cs : Array Value} (h : IsOp w cs.toList) : ∃ o : GOp, o.wf ∧ Value.agg cs = o.val := by
  obtain ⟨l⟩ := cs
  obtain ⟨c0, c1, c2, c3, c4, c5, rfl, ⟨k, rfl, hk⟩, ⟨t0, t1, t2, t3, t4, rfl, ⟨a, rfl, ha⟩, ⟨b, rfl, hb⟩, ⟨c, rfl, hc⟩, ⟨d, rfl, hd⟩, ⟨e, rfl, he⟩⟩, ⟨sv, rfl⟩, ⟨i, rfl, hi⟩, ⟨cc, rfl, hcc⟩, ⟨m, rfl, hm⟩⟩ := h
  exact ⟨⟨k, ⟨a, b, c, d, e⟩, sv, i, cc, m⟩, ⟨i64_wf hk, ⟨i64_wf ha, i64_wf hb, i64_wf hc, i64_wf hd, i64_wf he⟩, i64_wf hi, i64_wf hcc, i64_wf hm⟩, rfl⟩

theorem OpsBare_walk (c0 : Array Value) (w : World) (h0 : IsOp w c0.toList) :
    Calls Try.prog 12 #[.agg c0] w fun e w' => e = .returned (.bool true) ∧ Below w.heap.size w w' := by
  obtain ⟨o, _, he⟩ := isOp h0
  rw [he]
  exact (bare_any o w).mono fun _ _ h => ⟨h.1, h.2.below⟩

end Go.Proofs.Ytpkcohhfkeinmaa
