
/- A builder's String touches its buffer alone. -/
import Derived.Test.YtdoenmokahbeaaaGreatDoorOctW
import Derived.Test.YtdoenmokahbeaaaGreatDoorMem2
namespace Go.Proofs.YtdoenmokahbeaaaGreatDoor
open Go.RowKit
set_option linter.unusedVariables false

/-- A builder whose buffer lies in block r (none: it has none). -/
def BuR (T B b : Nat) (r : Option Nat) (bs : List UInt8) (w : World) : Prop :=
  ∃ p v, (p = Value.pointer none ∨ p = Value.pointer (some ⟨b, 0, none⟩)) ∧ w.heap[b]? = some (.cells #[p, v] T (0, 0)) ∧
    w.ownsRowF B 5 1 v bs.length (Lib.byteCells bs) ∧ v.ownBlock ≠ some b ∧ v.ownBlock = r

theorem BuAt.r {T B b : Nat} {bs : List UInt8} {w : World} (h : BuAt T B b bs w) : ∃ r, BuR T B b r bs w := by
  obtain ⟨p, v, h1, h2, h3, h4⟩ := h
  exact ⟨_, p, v, h1, h2, h3, h4, rfl⟩
theorem BuR.at {T B b : Nat} {r : Option Nat} {bs : List UInt8} {w : World} (h : BuR T B b r bs w) : BuAt T B b bs w := by
  obtain ⟨p, v, h1, h2, h3, h4, _⟩ := h
  exact ⟨p, v, h1, h2, h3, h4⟩
theorem BuR.lt {T B b : Nat} {r : Option Nat} {bs : List UInt8} {w : World} (h : BuR T B b r bs w) : ∀ k, r = some k → B ≤ k ∧ k < w.heap.size ∧ k ≠ b := by
  obtain ⟨p, v, h1, h2, h3, h4, rfl⟩ := h
  intro k hk
  have := h3.lt k hk
  exact ⟨this.1, this.2, fun e => h4 (e ▸ hk)⟩
theorem BuR.keeps {T B b : Nat} {r : Option Nat} {bs : List UInt8} {w w' : World} {S : Nat → Prop} (h : BuR T B b r bs w) (k : Keeps S w w') (h1 : ¬ S b) (h2 : ∀ i, r = some i → ¬ S i) : BuR T B b r bs w' := by
  obtain ⟨p, v, hp, hb, hown, hne, hr⟩ := h
  refine ⟨p, v, hp, k.heap hb h1, ⟨hown.1, ?_⟩, hne, hr⟩
  rcases hown.2 with hn | ⟨g, cap, cur, fz, rfl, hbg, hg, rest⟩
  · exact .inl hn
  · exact .inr ⟨g, cap, cur, fz, rfl, hbg, k.heap hg (h2 g (by rw [← hr]; rfl)), rest⟩

theorem sbString_r (T B b : Nat) (r : Option Nat) (bs : List UInt8) (w : World) (h : BuR T B b r bs w) (hlen : bs.length ≤ 1000000000) :
    Calls Tryz.prog 79 #[.pointer (some ⟨b, 0, none⟩)] w fun e w' => e = .returned (.string ⟨bs.toArray⟩) ∧ BuR T B b r bs w' ∧ Keeps (fun k => r = some k) w w' := by
  have h0 := h
  obtain ⟨p, v, hp, hb, hown, hne, hr⟩ := h
  rcases hown.2 with ⟨rfl, h1⟩ | ⟨g, cap, cur, fz, rfl, hbg, hg, hfz, hnc, hcm, hcs, htake⟩
  · obtain rfl : bs = [] := List.eq_nil_of_length_eq_zero h1
    refine (sbString_nil T b p w hb).mono ?_
    rintro e w' ⟨rfl, rfl⟩
    exact ⟨rfl, h0, (Keeps.refl _ w).drew⟩
  · by_cases h1 : bs = []
    · subst h1
      by_cases h2 : cap = 0
      · subst h2
        refine (sbString_noroom T b g p cur fz w hb hg).mono ?_
        rintro e w' ⟨rfl, hk⟩
        exact ⟨rfl, h0.keeps hk id (fun _ _ x => x), hk.any _⟩
      · refine (sbString_room T b g cap p w h2 hb).mono ?_
        rintro e w' ⟨rfl, rfl⟩
        exact ⟨rfl, h0, (Keeps.refl _ w).drew⟩
    · have hgb : g ≠ b := fun e => hne (by simp [Value.ownBlock, e])
      refine (sbString_some T b g cap p bs cur fz w h1 hlen hb hg hnc (by omega) (hown.cells rfl)).mono ?_
      rintro e w' ⟨rfl, rfl⟩
      refine ⟨rfl, ?_, ((Keeps.refl _ w).drew).freeze _ _ (fun _ => hr.symm)⟩
      have hbs : bs.length ≠ 0 := by simpa using h1
      unfold World.freeze
      rw [if_neg hbs]
      refine ⟨p, _, hp, ?_, ⟨hown.1, .inr ⟨g, cap, cur, (if fz.1 == fz.2 then (0, 0 + bs.length) else (min fz.1 0, max fz.2 (0 + bs.length))), rfl, hbg, ?_, ?_, hnc, hcm, hcs, htake⟩⟩, hne, hr⟩
      · simp only [Array.getElem?_modify]
        rw [if_neg hgb]
        exact hb
      · have hg' : w.drew.heap[g]? = some (.cells cur 5 fz) := hg
        simp [Array.getElem?_modify, hg']
      · split <;> simp <;> omega

end Go.Proofs.YtdoenmokahbeaaaGreatDoor
