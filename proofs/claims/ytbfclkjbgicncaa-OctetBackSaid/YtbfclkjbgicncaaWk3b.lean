/- OctetOne, walked. -/
import Derived.Test.YtbfclkjbgicncaaWk3
namespace Go.Proofs.Ytbfclkjbgicncaa
open Go.RowKit
set_option linter.unusedVariables false
attribute [local go_sem] str_get str_cut run_str1 str_app str_app1 str_app0

theorem str_of (s : ByteArray) : ∃ l : List UInt8, s = ⟨l.toArray⟩ := ⟨s.data.toList, by cases s; rfl⟩

theorem beb_len_mono (b : Nat) : ∀ a, a ≤ b → (beb a).length ≤ (beb b).length := by
  induction b using Nat.strongRecOn with
  | ind b ih =>
    intro a h
    by_cases h0 : a = 0
    · subst h0; rw [beb_zero]; simp
    · rw [beb_pos h0, beb_pos (by omega : b ≠ 0), List.length_append, List.length_append]
      have := ih (b / 256) (by omega) (a / 256) (by omega)
      simp; omega

theorem BuR.rebase {T B b : Nat} {bs : List UInt8} {w : World} (h : BuR T B b none bs w) (B' : Nat) : BuAt T B' b bs w := by
  obtain ⟨p, v, hp, hb, hown, hne, hr⟩ := h
  refine ⟨p, v, hp, hb, ⟨hown.1, ?_⟩, hne⟩
  rcases hown.2 with hn | ⟨g, cap, cur, fz, rfl, _⟩
  · exact .inl hn
  · simp [Value.ownBlock] at hr

theorem BuR.new (T B : Nat) (w : World) : BuR T B w.heap.size none [] (w.alloc (.cells #[.pointer none, .slice none 0 0] T)) :=
  ⟨_, _, .inl rfl, heap_alloc_new' w _, World.ownsRowF_nil _ _ _ _, by simp [Value.ownBlock], rfl⟩

/-- The first half of OctetOne: what is known when x and y are made. -/
theorem rdNum_all {l t : List UInt8} {n : Nat} (h : rdNum 18446744073709551615 (some l) = (n, some t)) : l = encNum n ++ t ∧ n < 18446744073709551616 := by
  simp only [rdNum] at h
  cases hd : decNum 18446744073709551615 l with
  | none => rw [hd] at h; cases h
  | some x =>
    obtain ⟨m, u⟩ := x
    rw [hd] at h
    simp only [Prod.mk.injEq, Option.some.injEq] at h
    obtain ⟨rfl, rfl⟩ := h
    have := decNum_some hd
    exact ⟨this.1, this.2.2⟩

set_option maxRecDepth 100000 in
set_option maxHeartbeats 2000000 in
theorem OctetOne_walk (x0 : ByteArray) (x1 : Int) (x2 : Int) (w : World) (h0 : IsStr [.string x0]) (h1 : IsInt .u64 [.int .u64 x1]) (h2 : IsInt .u64 [.int .u64 x2]) :
    Calls Try.prog 4 #[.string x0, .int .u64 x1, .int .u64 x2] w fun e w' => e = .returned (.bool true) ∧ Below w.heap.size w w' := by
  obtain ⟨l0, rfl⟩ := str_of x0
  obtain ⟨a, rfl, ha⟩ := nat_u64 h1
  obtain ⟨b, rfl, hb⟩ := nat_u64 h2
  clear h0 h1 h2
  have hl : (l0.take 20).length ≤ 20 := by rw [List.length_take]; omega
  go_enter Try.func4, Try.ntmps4
  go_wp2_with fail
  refine (l03awake_any _).mono ?_
  rintro e w1 ⟨rfl, K1⟩
  go_wp2_with fail
  refine (l03short_any l0 20 _ rfl _).mono ?_
  rintro e w1' ⟨rfl, rfl⟩
  generalize l0.take 20 = l at *
  go_wp2_with fail
  refine (oRead_any _ _).mono ?_
  rintro e w2 ⟨rfl, r2, k2⟩
  have K2 := K1.trans k2
  have hrb : w.heap.size ≤ w1.heap.size := K1.size
  have s2 := r2.lt
  replace r2 : RdAt w1.heap.size (some l) w2 := r2
  clear k2 K1
  generalize w1.heap.size = rb at *
  go_wp2_with fail
  refine (rNum_any rb _ (by simp only [stLen]; omega) 18446744073709551615 _ rfl (by omega) _ r2).mono ?_
  rintro e w3 ⟨rfl, r3, k3⟩
  have K3 := K2.trans' k3 (fun i hi h => by omega)
  have s3 := k3.size
  have hn := rdNum_le 18446744073709551615 (some l)
  have hst := rdNum_len 18446744073709551615 (some l)
  cases hr : rdNum 18446744073709551615 (some l) with
  | mk n st =>
  rw [hr] at r3 hn hst
  replace r3 : RdAt rb st w3 := r3
  replace hn : n ≤ 18446744073709551615 := hn
  replace hst : stLen st ≤ l.length := hst
  have Hr := Lib.hid hr
  clear hr k3 K2 r2
  go_wp2_with fail
  refine (wNum_any (w3.heap.size + 1) w3.heap.size [] n _ rfl (by omega) _ (BuAt.new _ _ w3) (by simp) (by simp)).mono ?_
  rintro e w4 ⟨rfl, h4, k4⟩
  have s4 := k4.size
  rw [List.nil_append] at h4
  have hen := encNum_len n (by omega)
  have r4 := (r3.keeps ((Keeps.refl (fun _ => False) w3).alloc (.cells #[.pointer none, .slice none 0 0] 32)) id).keeps k4 (by rintro (h | h) <;> omega)
  have K4 : Adds w w4 := (K3.alloc _).trans' k4 (fun i hi h => by have := K3.size; rcases h with h | h <;> omega)
  obtain ⟨r, h4⟩ := h4.r
  have hlt := h4.lt
  have hs3 := K3.size
  clear k4 K3 r3
  go_wp2_with fail
  refine (wString_r (w3.heap.size + 1) w3.heap.size r _ _ h4 (by omega)).mono ?_
  rintro e w5 ⟨rfl, h5, k5⟩
  have s5 := k5.size
  have r5 := r4.keeps k5 (fun h => by have := hlt _ h; omega)
  have K5 : Adds w w5 := K4.trans' k5 (fun i hi h => by have := hlt _ h; omega)
  clear k5 K4 r4 h4 h5 hlt hs3 s3 s4 s2 hrb
  go_wp2_with fail
  refine (rGood_any rb st _ r5).mono ?_
  rintro e w5' ⟨rfl, rfl⟩
  cases st
  case' none =>
    clear Hr hn hst h4 hen hl
    go_wp2_with fail
  case' some t =>
    obtain ⟨rfl, _⟩ := rdNum_all Hr.out
    clear Hr
    generalize encNum n = en at *
    clear hn h4 hst
    have hT : List.take en.length (en ++ t) = en := List.take_left
    go_wp2_with fail
    refine (rLeft_any rb (some t) (by rw [List.length_append] at hl; simp only [stLen]; omega) _ r5).mono ?_
    rintro e w5' ⟨rfl, rfl⟩
    simp only [stLen]
    go_wp2_with fail
    clear hT hen hl
  all_goals
    clear r5 s5
    have Hx : BuR 32 (w5.heap.size + 2) w5.heap.size none [] ((w5.alloc (.cells #[.pointer none, .slice none 0 0] 32)).alloc (.cells #[.pointer none, .slice none 0 0] 32)) :=
      (BuR.new _ _ w5).keeps ((Keeps.refl (fun _ => False) _).alloc _) id (fun _ _ x => x)
    have Hy : BuR 32 (w5.heap.size + 2) (w5.heap.size + 1) none [] ((w5.alloc (.cells #[.pointer none, .slice none 0 0] 32)).alloc (.cells #[.pointer none, .slice none 0 0] 32)) := by
      have := BuR.new 32 (w5.heap.size + 2) (w5.alloc (.cells #[.pointer none, .slice none 0 0] 32))
      simpa using this
    have K6 : Adds w ((w5.alloc (.cells #[.pointer none, .slice none 0 0] 32)).alloc (.cells #[.pointer none, .slice none 0 0] 32)) := (K5.alloc _).alloc _
    have hsz : w5.heap.size + 2 ≤ ((w5.alloc (.cells #[.pointer none, .slice none 0 0] 32)).alloc (.cells #[.pointer none, .slice none 0 0] 32)).heap.size := by simp
    have hs5 := K5.size
    clear K5
    generalize hW : (w5.alloc (.cells #[.pointer none, .slice none 0 0] 32)).alloc (.cells #[.pointer none, .slice none 0 0] 32) = w6 at *
    clear hW
    generalize w5.heap.size = xb at *
    refine (wNum_any (xb + 2) xb [] a _ rfl ha _ Hx.at (by simp) hsz).mono ?_
    rintro e w7 ⟨rfl, Hx7, k7⟩
    rw [List.nil_append] at Hx7
    have Hy7 := (Hy.keeps k7 (by rintro (h | h) <;> omega) (by intro i h; cases h)).rebase w7.heap.size
    have K7 : Adds w w7 := K6.trans' k7 (fun i hi h => by rcases h with h | h <;> omega)
    have s7 := k7.size
    obtain ⟨rx, Hx7⟩ := Hx7.r
    have hrx := Hx7.lt
    clear k7 K6 Hx Hy
    go_wp2_with fail
    refine (wNum_any w7.heap.size (xb + 1) [] b _ rfl hb _ Hy7 (by simp) (Nat.le_refl _)).mono ?_
    rintro e w8 ⟨rfl, Hy8, k8⟩
    rw [List.nil_append] at Hy8
    have Hx8 := Hx7.keeps k8 (by rintro (h | h) <;> omega) (by intro i h; have := hrx i h; rintro (h | h) <;> omega)
    have K8 : Adds w w8 := K7.trans' k8 (fun i hi h => by rcases h with h | h <;> omega)
    obtain ⟨ry, Hy8⟩ := Hy8.r
    have hry := Hy8.lt
    have s8 := k8.size
    have hxy : ∀ i, rx = some i → ry ≠ some i := fun i h1 h2 => by have := hrx i h1; have := hry i h2; omega
    clear k8 K7 Hx7 Hy7
    have la := encNum_len a ha
    have lb := encNum_len b hb
    have hlen : a ≤ b → (encNum a).length ≤ (encNum b).length := fun h => by have := beb_len_mono b a h; simp [encNum]; omega
    have hinj : encNum a = encNum b → a = b := fun h => (encNum_inj (s := []) (t := []) ha hb (by rw [h])).1
    have q1 : ∀ W, BuR 32 (xb + 2) xb rx (encNum a) W → BuR 32 w7.heap.size (xb + 1) ry (encNum b) W → Adds w W → Calls Try.prog 18 #[.pointer (some ⟨xb, 0, none⟩)] W fun e w' => e = .returned (.string ⟨(encNum a).toArray⟩) ∧ BuR 32 (xb + 2) xb rx (encNum a) w' ∧ BuR 32 w7.heap.size (xb + 1) ry (encNum b) w' ∧ Adds w w' := by
      intro W hx hy hK
      refine (wString_r (xb + 2) xb rx _ W hx (by omega)).mono ?_
      rintro e w' ⟨rfl, hx', k'⟩
      exact ⟨rfl, hx', hy.keeps k' (fun h => by have := hrx _ h; omega) (fun i h h2 => hxy i h2 h), hK.trans' k' (fun i hi h => by have := hrx _ h; omega)⟩
    have q2 : ∀ W, BuR 32 (xb + 2) xb rx (encNum a) W → BuR 32 w7.heap.size (xb + 1) ry (encNum b) W → Adds w W → Calls Try.prog 18 #[.pointer (some ⟨xb + 1, 0, none⟩)] W fun e w' => e = .returned (.string ⟨(encNum b).toArray⟩) ∧ BuR 32 (xb + 2) xb rx (encNum a) w' ∧ BuR 32 w7.heap.size (xb + 1) ry (encNum b) w' ∧ Adds w w' := by
      intro W hx hy hK
      refine (wString_r w7.heap.size (xb + 1) ry _ W hy (by omega)).mono ?_
      rintro e w' ⟨rfl, hy', k'⟩
      exact ⟨rfl, hx.keeps k' (fun h => by have := hry _ h; omega) (fun i h h2 => hxy i h h2), hy', hK.trans' k' (fun i hi h => by have := hry _ h; omega)⟩
    have Q1 := Lib.hid q1
    have Q2 := Lib.hid q2
    clear q1 q2 hxy hry hrx
    by_cases hab : a = b
    · subst hab
      have hgt : decide ((a : Int) < a) = false := by simp
      clear hlen hinj
      go_wp2_with fail
      refine (Q1.out _ Hx8 Hy8 K8).mono ?_
      rintro e W1 ⟨rfl, X1, Y1, KK1⟩
      go_wp2_with fail
      refine (Q2.out _ X1 Y1 KK1).mono ?_
      rintro e W2 ⟨rfl, X2, Y2, KK2⟩
      go_wp2_with fail
      refine (Q1.out _ X2 Y2 KK2).mono ?_
      rintro e W3 ⟨rfl, X3, Y3, KK3⟩
      go_wp2_with fail
      refine (Q2.out _ X3 Y3 KK3).mono ?_
      rintro e W4 ⟨rfl, X4, Y4, KK4⟩
      go_wp2
      go_ret
      exact ⟨rfl, Adds.below KK4⟩
    · have he1 : ((a : Int) == b) = false := by simp; omega
      have he2 : @BEq.beq (List UInt8) List.instBEq (encNum a) (encNum b) = false := by simp; exact fun h => hab (hinj h)
      clear hinj
      by_cases hlt : b < a
      · have hgt : decide ((b : Int) < a) = true := by simp; omega
        clear hlen
        go_wp2_with fail
        refine (Q1.out _ Hx8 Hy8 K8).mono ?_
        rintro e W1 ⟨rfl, X1, Y1, KK1⟩
        go_wp2_with fail
        refine (Q2.out _ X1 Y1 KK1).mono ?_
        rintro e W2 ⟨rfl, X2, Y2, KK2⟩
        go_wp2
        go_ret
        exact ⟨rfl, Adds.below KK2⟩
      · have hgt : decide ((b : Int) < a) = false := by simp; omega
        have hle := hlen (by omega)
        clear hlen
        go_wp2_with fail
        refine (Q1.out _ Hx8 Hy8 K8).mono ?_
        rintro e W1 ⟨rfl, X1, Y1, KK1⟩
        go_wp2_with fail
        refine (Q2.out _ X1 Y1 KK1).mono ?_
        rintro e W2 ⟨rfl, X2, Y2, KK2⟩
        go_wp2_with fail
        refine (Q1.out _ X2 Y2 KK2).mono ?_
        rintro e W3 ⟨rfl, X3, Y3, KK3⟩
        go_wp2_with fail
        refine (Q2.out _ X3 Y3 KK3).mono ?_
        rintro e W4 ⟨rfl, X4, Y4, KK4⟩
        go_wp2
        go_ret
        exact ⟨rfl, Adds.below KK4⟩

end Go.Proofs.Ytbfclkjbgicncaa
