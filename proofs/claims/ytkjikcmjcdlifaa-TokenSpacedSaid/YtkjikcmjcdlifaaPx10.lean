/- Written by a program of this place (mk.py: the kit's print, turned). Proved here: each function of this text, called, computes what its plain function of Lean tells, wherever that tells something. -/
import Derived.Test.YtkjikcmjcdlifaaPx0
import Derived.Test.YtkjikcmjcdlifaaPx5
namespace Go.Proofs.Ytkjikcmjcdlifaa.P
open Go.RowKit Go.Proofs.YtkjikcmjcdlifaaW.PrintWords Go.Proofs.YtkjikcmjcdlifaaW.PrintLast Go.Proofs.YtkjikcmjcdlifaaW.PrintMore
attribute [local go_sem] max2_int min2_int max_two min_two max_three min_three max_four min_four   -- for this text's walks alone
set_option linter.unusedVariables false
set_option linter.unusedSimpArgs false

/-! ### scarfjointref01_Same: function 21 -/
def scarfjointref01_Same.l0 : Nat → List (S46) → List (S46) → Int → Option (Bool)
  | 0, _, _, _ => none
  | k + 1, x0, x1, x5 => if x5 < (x0.length : Int) then (if 0 ≤ x5 then (if x5 < (x1.length : Int) then (if ((rd_T46 x0 x5).f0) = ((rd_T46 x1 x5).f0) then (if ((rd_T46 x0 x5).f1).toList = ((rd_T46 x1 x5).f1).toList then (scarfjointref01_Same.l0 k x0 x1 (wrap64 (x5 + 1))) else (some false)) else (some false)) else (none)) else (none)) else (some true)
def scarfjointref01_Same.f (k : Nat) (l0 : List (S46)) (l1 : List (S46)) : Option (Bool) := if (l0.length : Int) = (l1.length : Int) then (scarfjointref01_Same.l0 k l0 l1 0) else (some false)
theorem scarfjointref01_Same.mono_l : ∀ k, (∀ y0 y1 y2, LeO (scarfjointref01_Same.l0 k y0 y1 y2) (scarfjointref01_Same.l0 (k + 1) y0 y1 y2))
  | 0 => fun _ _ _ r h => by simp [scarfjointref01_Same.l0] at h
  | k + 1 => by
    have ih0 := scarfjointref01_Same.mono_l k
    · intro y0 y1 y2
      unfold scarfjointref01_Same.l0
      repeat' first
      | (with_reducible exact ih0 _ _ _)
      | (with_reducible exact LeO.refl _)
      | (with_reducible exact LeO.none _)
      | (with_reducible refine LeO.ite ?_ ?_)
      | (with_reducible refine LeO.bind ?_ (fun _ => ?_))
      | exact ih0 _ _ _
      | exact LeO.none _
      | refine LeO.ite ?_ ?_
      | refine LeO.bind ?_ (fun _ => ?_)
theorem scarfjointref01_Same.mono : ∀ a0 a1 k, LeO (scarfjointref01_Same.f k a0 a1) (scarfjointref01_Same.f (k + 1) a0 a1) := by
  intro a0 a1 k
  have ih0 := scarfjointref01_Same.mono_l k
  unfold scarfjointref01_Same.f
  repeat' first
      | (with_reducible exact ih0 _ _ _)
      | (with_reducible exact LeO.refl _)
      | (with_reducible exact LeO.none _)
      | (with_reducible refine LeO.ite ?_ ?_)
      | (with_reducible refine LeO.bind ?_ (fun _ => ?_))
      | exact ih0 _ _ _
      | exact LeO.none _
      | refine LeO.ite ?_ ?_
      | refine LeO.bind ?_ (fun _ => ?_)
set_option maxHeartbeats 8000000 in
set_option maxRecDepth 100000 in
theorem scarfjointref01_Same.calls (k : Nat) (A0 : Option Addr) (c0 : Nat) (l0 : List (S46)) (A1 : Option Addr) (c1 : Nat) (l1 : List (S46)) (r : Bool) (w : World) (hr0 : Kd.C k46 w A0 l0.length l0) (hc0 : l0.length ≤ c0) (hr1 : Kd.C k46 w A1 l1.length l1) (hc1 : l1.length ≤ c1) (h : scarfjointref01_Same.f k l0 l1 = some r) :
    Calls Try.prog 21 #[.slice A0 l0.length c0, .slice A1 l1.length c1] w fun e w' => e = .returned (.bool r) ∧ Drawn0 w w' := by
  have HR0 := Aside0.mk hr0
  have HC0 := Aside0.mk hc0
  clear hr0 hc0
  have HR1 := Aside0.mk hr1
  have HC1 := Aside0.mk hc1
  clear hr1 hc1
  have H : (if (l0.length : Int) = (l1.length : Int) then (scarfjointref01_Same.l0 k l0 l1 0) else (some false)) = some r := h
  clear h
  by_cases c3 : (l0.length : Int) = (l1.length : Int)
  · rw [if_pos c3] at H
    have c3b0 : ((l0.length : Int) == (l1.length : Int)) = true := beq_iff_eq.mpr c3
    have c3b1 : ((l0.length : Int) != (l1.length : Int)) = false := bne_eq_false_iff_eq.mpr c3
    have c3b2 : (l0.length == l1.length) = true := by first | simpa using c3 | (simp at c3 ⊢; omega)
    clear c3
    have H' := Aside0.mk H
    clear H
    go_enter Try.func21, Try.ntmps21
    go_wp2
    repeat (go_quiet (fail); try go_wp2)
    go_loopg [5] k (fun kq v5 w' => ∃ (x5_1 : Int), v5 = .int .i64 x5_1 ∧ Aside0 (scarfjointref01_Same.l0 kq l0 l1 x5_1 = some r) ∧ Aside0 (kq ≤ k) ∧ Drawn0 w w')
    case atStart => exact ⟨(0), (by first | rfl | (simp; done) | (simp [*]; done)), H', ⟨Nat.le_refl _⟩, by repeat (first | exact Drawn0.refl _ | apply Drawn0.step)⟩
    case round =>
      clear H'
      try clear c1
      try clear c2
      try clear p2
      try clear c3
      try clear c3b0
      try clear c3b1
      try clear c3b2
      obtain ⟨x5_1, rfl, HA, HK1, ⟨m1, rfl⟩⟩ := hrel
      cases gk with
      | zero => exact absurd HA.out (by simp [scarfjointref01_Same.l0])
      | succ k1 =>
        have H := HA.out
        clear HA
        simp only [scarfjointref01_Same.l0] at H
        by_cases c4 : x5_1 < (l0.length : Int)
        · rw [if_pos c4] at H
          have c4b0 : decide (x5_1 < (l0.length : Int)) = true := decide_eq_true c4
          clear c4
          by_cases c5 : 0 ≤ x5_1
          · rw [if_pos c5] at H
            have c5b0 : decide (0 ≤ x5_1) = true := decide_eq_true c5
            clear c5
            by_cases c6 : x5_1 < (l1.length : Int)
            · rw [if_pos c6] at H
              have c6b0 : decide (x5_1 < (l1.length : Int)) = true := decide_eq_true c6
              clear c6
              by_cases c7 : ((rd_T46 l0 x5_1).f0) = ((rd_T46 l1 x5_1).f0)
              · rw [if_pos c7] at H
                have c7b0 : (((rd_T46 l0 x5_1).f0) == ((rd_T46 l1 x5_1).f0)) = true := beq_iff_eq.mpr c7
                have c7b1 : (((rd_T46 l0 x5_1).f0) != ((rd_T46 l1 x5_1).f0)) = false := bne_eq_false_iff_eq.mpr c7
                clear c7
                by_cases c8 : ((rd_T46 l0 x5_1).f1).toList = ((rd_T46 l1 x5_1).f1).toList
                · rw [if_pos c8] at H
                  have c8b0 : (((rd_T46 l0 x5_1).f1).toList == ((rd_T46 l1 x5_1).f1).toList) = true := beq_iff_eq.mpr c8
                  have c8b1 : (((rd_T46 l0 x5_1).f1).toList != ((rd_T46 l1 x5_1).f1).toList) = false := bne_eq_false_iff_eq.mpr c8
                  clear c8
                  have H' := Aside0.mk H
                  clear H
                  have p204 : 0 ≤ (x5_1 : Int) := of_decide_eq_true (by first | (with_reducible assumption) | assumption)
                  have q204 : x5_1 < (l0.length : Int) := of_decide_eq_true (by first | (with_reducible assumption) | assumption)
                  obtain ⟨ad204, e204, hx204_0, hx204_1, hx204_2⟩ := at_T46 HR0.out x5_1 p204 q204
                  cases e204
                  replace p204 := eq_true p204
                  replace q204 := eq_true q204
                  have p205 : 0 ≤ (x5_1 : Int) := of_decide_eq_true (by first | (with_reducible assumption) | assumption)
                  have q205 : x5_1 < (l1.length : Int) := of_decide_eq_true (by first | (with_reducible assumption) | assumption)
                  obtain ⟨ad205, e205, hx205_0, hx205_1, hx205_2⟩ := at_T46 HR1.out x5_1 p205 q205
                  cases e205
                  replace p205 := eq_true p205
                  replace q205 := eq_true q205
                  have p206 : 0 ≤ (x5_1 : Int) := of_decide_eq_true (by first | (with_reducible assumption) | assumption)
                  have q206 : x5_1 < (l0.length : Int) := of_decide_eq_true (by first | (with_reducible assumption) | assumption)
                  obtain ⟨ad206, e206, hx206_0, hx206_1, hx206_2⟩ := at_T46 HR0.out x5_1 p206 q206
                  obtain rfl : ad204 = ad206 := (by injection e206)
                  replace p206 := eq_true p206
                  replace q206 := eq_true q206
                  have p207 : 0 ≤ (x5_1 : Int) := of_decide_eq_true (by first | (with_reducible assumption) | assumption)
                  have q207 : x5_1 < (l1.length : Int) := of_decide_eq_true (by first | (with_reducible assumption) | assumption)
                  obtain ⟨ad207, e207, hx207_0, hx207_1, hx207_2⟩ := at_T46 HR1.out x5_1 p207 q207
                  obtain rfl : ad205 = ad207 := (by injection e207)
                  replace p207 := eq_true p207
                  replace q207 := eq_true q207
                  go_wp2
                  repeat (go_quiet (fail); try go_wp2)
                  go_roundg k1
                  case measure => have := HK1.out; omega
                  case rel => exact ⟨(wrap64 (x5_1 + 1)), (by first | rfl | (simp; done) | (simp [*]; done)), H', ⟨by have := HK1.out; omega⟩, by repeat (first | exact Drawn0.refl _ | apply Drawn0.step)⟩
                · rw [if_neg c8] at H
                  have c8b0 : (((rd_T46 l0 x5_1).f1).toList == ((rd_T46 l1 x5_1).f1).toList) = false := beq_eq_false_iff_ne.mpr c8
                  have c8b1 : (((rd_T46 l0 x5_1).f1).toList != ((rd_T46 l1 x5_1).f1).toList) = true := bne_iff_ne.mpr c8
                  obtain rfl := Option.some.inj H
                  have p204 : 0 ≤ (x5_1 : Int) := of_decide_eq_true (by first | (with_reducible assumption) | assumption)
                  have q204 : x5_1 < (l0.length : Int) := of_decide_eq_true (by first | (with_reducible assumption) | assumption)
                  obtain ⟨ad204, e204, hx204_0, hx204_1, hx204_2⟩ := at_T46 HR0.out x5_1 p204 q204
                  cases e204
                  replace p204 := eq_true p204
                  replace q204 := eq_true q204
                  have p205 : 0 ≤ (x5_1 : Int) := of_decide_eq_true (by first | (with_reducible assumption) | assumption)
                  have q205 : x5_1 < (l1.length : Int) := of_decide_eq_true (by first | (with_reducible assumption) | assumption)
                  obtain ⟨ad205, e205, hx205_0, hx205_1, hx205_2⟩ := at_T46 HR1.out x5_1 p205 q205
                  cases e205
                  replace p205 := eq_true p205
                  replace q205 := eq_true q205
                  have p206 : 0 ≤ (x5_1 : Int) := of_decide_eq_true (by first | (with_reducible assumption) | assumption)
                  have q206 : x5_1 < (l0.length : Int) := of_decide_eq_true (by first | (with_reducible assumption) | assumption)
                  obtain ⟨ad206, e206, hx206_0, hx206_1, hx206_2⟩ := at_T46 HR0.out x5_1 p206 q206
                  obtain rfl : ad204 = ad206 := (by injection e206)
                  replace p206 := eq_true p206
                  replace q206 := eq_true q206
                  have p207 : 0 ≤ (x5_1 : Int) := of_decide_eq_true (by first | (with_reducible assumption) | assumption)
                  have q207 : x5_1 < (l1.length : Int) := of_decide_eq_true (by first | (with_reducible assumption) | assumption)
                  obtain ⟨ad207, e207, hx207_0, hx207_1, hx207_2⟩ := at_T46 HR1.out x5_1 p207 q207
                  obtain rfl : ad205 = ad207 := (by injection e207)
                  replace p207 := eq_true p207
                  replace q207 := eq_true q207
                  go_wp2
                  repeat (go_quiet (fail); try go_wp2)
                  go_ret
                  exact ⟨by first | rfl | (simp; done) | (simp [*]; done), by repeat (first | exact Drawn0.refl _ | apply Drawn0.step)⟩
              · rw [if_neg c7] at H
                have c7b0 : (((rd_T46 l0 x5_1).f0) == ((rd_T46 l1 x5_1).f0)) = false := beq_eq_false_iff_ne.mpr c7
                have c7b1 : (((rd_T46 l0 x5_1).f0) != ((rd_T46 l1 x5_1).f0)) = true := bne_iff_ne.mpr c7
                obtain rfl := Option.some.inj H
                have p204 : 0 ≤ (x5_1 : Int) := of_decide_eq_true (by first | (with_reducible assumption) | assumption)
                have q204 : x5_1 < (l0.length : Int) := of_decide_eq_true (by first | (with_reducible assumption) | assumption)
                obtain ⟨ad204, e204, hx204_0, hx204_1, hx204_2⟩ := at_T46 HR0.out x5_1 p204 q204
                cases e204
                replace p204 := eq_true p204
                replace q204 := eq_true q204
                have p205 : 0 ≤ (x5_1 : Int) := of_decide_eq_true (by first | (with_reducible assumption) | assumption)
                have q205 : x5_1 < (l1.length : Int) := of_decide_eq_true (by first | (with_reducible assumption) | assumption)
                obtain ⟨ad205, e205, hx205_0, hx205_1, hx205_2⟩ := at_T46 HR1.out x5_1 p205 q205
                cases e205
                replace p205 := eq_true p205
                replace q205 := eq_true q205
                go_wp2
                repeat (go_quiet (fail); try go_wp2)
                go_ret
                exact ⟨by first | rfl | (simp; done) | (simp [*]; done), by repeat (first | exact Drawn0.refl _ | apply Drawn0.step)⟩
            · rw [if_neg c6] at H
              exact absurd H (by simp)
          · rw [if_neg c5] at H
            exact absurd H (by simp)
        · rw [if_neg c4] at H
          have c4b0 : decide (x5_1 < (l0.length : Int)) = false := decide_eq_false c4
          clear c4
          obtain rfl := Option.some.inj H
          go_wp2
          repeat (go_quiet (fail); try go_wp2)
          go_ret
          exact ⟨by first | rfl | (simp; done) | (simp [*]; done), by repeat (first | exact Drawn0.refl _ | apply Drawn0.step)⟩
  · rw [if_neg c3] at H
    have c3b0 : ((l0.length : Int) == (l1.length : Int)) = false := beq_eq_false_iff_ne.mpr c3
    have c3b1 : ((l0.length : Int) != (l1.length : Int)) = true := bne_iff_ne.mpr c3
    have c3b2 : (l0.length == l1.length) = false := by first | simpa using c3 | (simp at c3 ⊢; omega)
    obtain rfl := Option.some.inj H
    go_enter Try.func21, Try.ntmps21
    go_wp2
    repeat (go_quiet (fail); try go_wp2)
    go_ret
    exact ⟨by first | rfl | (simp; done) | (simp [*]; done), by repeat (first | exact Drawn0.refl _ | apply Drawn0.step)⟩

theorem all2_gen {α : Type} (e : α → α → Bool) (lf : Nat → Int → Option Bool) (xs ys : List α) (hl : xs.length = ys.length)
    (hlf : ∀ (k i : Nat) (hi : i < xs.length) (hj : i < ys.length), lf (k + 1) (i : Int) = if e xs[i] ys[i] = true then lf k ((i + 1 : Nat) : Int) else some false)
    (hend : ∀ k, lf (k + 1) (xs.length : Int) = some true) : ∀ (d k i : Nat), xs.length - i = d → i ≤ xs.length → d < k → lf k (i : Int) = some (((xs.drop i).zip (ys.drop i)).all fun p => e p.1 p.2) := by
  intro d
  induction d with
  | zero =>
    intro k i hd hi hk
    obtain ⟨k, rfl⟩ : ∃ m, k = m + 1 := ⟨k - 1, by omega⟩
    obtain rfl : i = xs.length := by omega
    rw [hend, List.drop_of_length_le (l := xs) (Nat.le_refl _)]
    rfl
  | succ d ih =>
    intro k i hd hi hk
    obtain ⟨k, rfl⟩ : ∃ m, k = m + 1 := ⟨k - 1, by omega⟩
    have h1 : i < xs.length := by omega
    have h2 : i < ys.length := by omega
    rw [hlf k i h1 h2, ih k (i + 1) (by omega) (by omega) (by omega), List.drop_eq_getElem_cons h1, List.drop_eq_getElem_cons h2]
    simp only [List.zip_cons_cons, List.all_cons]
    by_cases h : e xs[i] ys[i] = true
    · rw [if_pos h, h, Bool.true_and]
    · rw [if_neg h, Bool.eq_false_iff.2 h, Bool.false_and]
theorem all2_map {α β : Type} [DecidableEq β] (f : α → β) (e : α → α → Bool) (he : ∀ x y, e x y = decide (f x = f y)) : ∀ (xs ys : List α), xs.length = ys.length → ((xs.zip ys).all fun p => e p.1 p.2) = decide (xs.map f = ys.map f)
  | [], [], _ => rfl
  | x :: xs, y :: ys, h => by
    rw [List.zip_cons_cons, List.all_cons, all2_map f e he xs ys (by simpa using h), he, List.map_cons, List.map_cons, Bool.eq_iff_iff]
    simp only [Bool.and_eq_true, decide_eq_true_eq, List.cons.injEq]
def keyS (x : S46) : Int × List UInt8 := (x.f0, L x.f1)
def nSame.f (l0 l1 : List S46) : Option Bool := if l0.length ≤ 140737488355000 then some (decide (l0.map keyS = l1.map keyS)) else none
def nrSame.f := nSame.f
theorem nrSame.ev (l0 l1 : List S46) (r : Bool) (h : nrSame.f l0 l1 = some r) : ∃ k, scarfjointref01_Same.f k l0 l1 = some r := by
  unfold nrSame.f nSame.f at h
  by_cases hs : l0.length ≤ 140737488355000
  · rw [if_pos hs] at h
    rw [← h]
    refine ⟨l0.length + 1, ?_⟩
    unfold scarfjointref01_Same.f
    by_cases hl : l0.length = l1.length
    · rw [if_pos (by omega)]
      have := all2_gen (fun x y => decide (keyS x = keyS y)) (fun k i => scarfjointref01_Same.l0 k l0 l1 i) l0 l1 hl (fun k i hi hj => by
        simp only [scarfjointref01_Same.l0]
        rw [if_pos (by omega), if_pos (by omega), if_pos (by omega), rdT_at l0 i hi, rdT_at l1 i hj, w64 (by omega) (by omega), L_toList, L_toList]
        simp only [keyS, decide_eq_true_eq, Prod.mk.injEq]
        generalize L l0[i].f1 = p_; generalize L l1[i].f1 = q_; by_cases h1 : l0[i].f0 = l1[i].f0 <;> by_cases h2 : p_ = q_ <;> simp [h1, h2]) (fun k => by simp only [scarfjointref01_Same.l0]; rw [if_neg (by omega)]) l0.length (l0.length + 1) 0 (by omega) (by omega) (by omega)
      rw [all2_map keyS _ (fun _ _ => rfl) _ _ (by simpa using hl)] at this
      simpa using this
    · rw [if_neg (by omega), decide_eq_false]
      intro h
      have := congrArg List.length h
      simp at this
      exact hl this
  · rw [if_neg hs] at h; cases h

theorem nrSame.calls (A0 : Option Addr) (c0 : Nat) (l0 : List (S46)) (A1 : Option Addr) (c1 : Nat) (l1 : List (S46)) (r : Bool) (w : World) (hr0 : Kd.C k46 w A0 l0.length l0) (hc0 : l0.length ≤ c0) (hr1 : Kd.C k46 w A1 l1.length l1) (hc1 : l1.length ≤ c1) (h : nrSame.f l0 l1 = some r) :
    Calls Try.prog 21 #[.slice A0 l0.length c0, .slice A1 l1.length c1] w fun e w' => e = .returned (.bool r) ∧ Drawn0 w w' := by
  obtain ⟨k, hk⟩ := nrSame.ev l0 l1 r h
  exact scarfjointref01_Same.calls k A0 c0 l0 A1 c1 l1 r w hr0 hc0 hr1 hc1 hk

/-! ### scarfjointref01_white: function 37 -/
def scarfjointref01_white.f (a0 : Int) : Option (Bool) := if a0 = 32 then (some true) else (if a0 = 9 then (some true) else (if a0 = 13 then (some true) else (some (a0 == 10))))
set_option maxHeartbeats 8000000 in
set_option maxRecDepth 100000 in
theorem scarfjointref01_white.calls (a0 : Int) (r : Bool) (w : World) (h : scarfjointref01_white.f a0 = some r) :
    Calls Try.prog 37 #[.int .u8 a0] w fun e w' => e = .returned (.bool r) ∧ Drawn0 w w' := by
  have H : (if a0 = 32 then (some true) else (if a0 = 9 then (some true) else (if a0 = 13 then (some true) else (some (a0 == 10))))) = some r := h
  clear h
  by_cases c2 : a0 = 32
  · rw [if_pos c2] at H
    have c2b0 : (a0 == 32) = true := beq_iff_eq.mpr c2
    have c2b1 : (a0 != 32) = false := bne_eq_false_iff_eq.mpr c2
    clear c2
    obtain rfl := Option.some.inj H
    go_enter Try.func37, Try.ntmps37
    go_wp2
    go_ret
    exact ⟨by first | rfl | (simp; done) | (simp [*]; done), by repeat (first | exact Drawn0.refl _ | apply Drawn0.step)⟩
  · rw [if_neg c2] at H
    have c2b0 : (a0 == 32) = false := beq_eq_false_iff_ne.mpr c2
    have c2b1 : (a0 != 32) = true := bne_iff_ne.mpr c2
    by_cases c3 : a0 = 9
    · rw [if_pos c3] at H
      have c3b0 : (a0 == 9) = true := beq_iff_eq.mpr c3
      have c3b1 : (a0 != 9) = false := bne_eq_false_iff_eq.mpr c3
      clear c3
      obtain rfl := Option.some.inj H
      go_enter Try.func37, Try.ntmps37
      go_wp2
      go_ret
      exact ⟨by first | rfl | (simp; done) | (simp [*]; done), by repeat (first | exact Drawn0.refl _ | apply Drawn0.step)⟩
    · rw [if_neg c3] at H
      have c3b0 : (a0 == 9) = false := beq_eq_false_iff_ne.mpr c3
      have c3b1 : (a0 != 9) = true := bne_iff_ne.mpr c3
      by_cases c4 : a0 = 13
      · rw [if_pos c4] at H
        have c4b0 : (a0 == 13) = true := beq_iff_eq.mpr c4
        have c4b1 : (a0 != 13) = false := bne_eq_false_iff_eq.mpr c4
        clear c4
        obtain rfl := Option.some.inj H
        go_enter Try.func37, Try.ntmps37
        go_wp2
        go_ret
        exact ⟨by first | rfl | (simp; done) | (simp [*]; done), by repeat (first | exact Drawn0.refl _ | apply Drawn0.step)⟩
      · rw [if_neg c4] at H
        have c4b0 : (a0 == 13) = false := beq_eq_false_iff_ne.mpr c4
        have c4b1 : (a0 != 13) = true := bne_iff_ne.mpr c4
        obtain rfl := Option.some.inj H
        go_enter Try.func37, Try.ntmps37
        go_wp2
        go_ret
        exact ⟨by first | rfl | (simp; done) | (simp [*]; done), by repeat (first | exact Drawn0.refl _ | apply Drawn0.step)⟩

end Go.Proofs.Ytkjikcmjcdlifaa.P
