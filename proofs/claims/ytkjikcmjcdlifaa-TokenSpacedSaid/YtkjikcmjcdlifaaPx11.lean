/- Written by a program of this place (mk.py: the kit's print, turned). Proved here: each function of this text, called, computes what its plain function of Lean tells, wherever that tells something. -/
import Derived.Test.YtkjikcmjcdlifaaPx0
import Derived.Test.YtkjikcmjcdlifaaPx1
import Derived.Test.YtkjikcmjcdlifaaPx3
import Derived.Test.YtkjikcmjcdlifaaPx4
import Derived.Test.YtkjikcmjcdlifaaPx5
import Derived.Test.YtkjikcmjcdlifaaPx7
import Derived.Test.YtkjikcmjcdlifaaPx8
import Derived.Test.YtkjikcmjcdlifaaPx10
namespace Go.Proofs.Ytkjikcmjcdlifaa.P
open Go.RowKit Go.Proofs.YtkjikcmjcdlifaaW.PrintWords Go.Proofs.YtkjikcmjcdlifaaW.PrintLast Go.Proofs.YtkjikcmjcdlifaaW.PrintMore
attribute [local go_sem] max2_int min2_int max_two min_two max_three min_three max_four min_four   -- for this text's walks alone
set_option linter.unusedVariables false
set_option linter.unusedSimpArgs false

attribute [local go_sem high] eqA46
/-! ### scarfjointref01_Tokens: function 22 -/
mutual
def scarfjointref01_Tokens.l0 : Nat → ByteArray → List (S46) → Int → Int → Option ((List (S46)) × Int × Int)
  | 0, _, _, _, _ => none
  | k + 1, x0, x5, x6, x7 => if x7 < (x0.size : Int) then (if 0 ≤ x7 then (if (bt x0 x7) = 35 then (scarfjointref01_Tokens.l1 k x0 x5 x6 x7) else ((scarfjointref01_white.f (bt x0 x7)).bind fun t224 => (if t224 = true then (if (bt x0 x7) = 10 then (scarfjointref01_Tokens.l0 k x0 x5 (wrap64 (x6 + 1)) (wrap64 (x7 + 1))) else (scarfjointref01_Tokens.l0 k x0 x5 x6 (wrap64 (x7 + 1)))) else ((nOne.f x0 x7).bind fun bt225 => (if bt225.2.2.2.2 = 0 then (scarfjointref01_Tokens.j2 k x0 x5 x6 x7 bt225.2.2.2.1 bt225.2.2.2.2 ((x5.length : Int) == 4000) bt225.1 bt225.2.1 bt225.2.2.1) else (scarfjointref01_Tokens.j2 k x0 x5 x6 x7 bt225.2.2.2.1 bt225.2.2.2.2 false bt225.1 bt225.2.1 bt225.2.2.1)))))) else (none)) else (some (x5, 0, 0))
def scarfjointref01_Tokens.l1 : Nat → ByteArray → List (S46) → Int → Int → Option ((List (S46)) × Int × Int)
  | 0, _, _, _, _ => none
  | k + 1, x0, x5, x6, x7 => if x7 < (x0.size : Int) then (if 0 ≤ x7 then (if (bt x0 x7) = 10 then (scarfjointref01_Tokens.l0 k x0 x5 x6 x7) else (scarfjointref01_Tokens.l1 k x0 x5 x6 (wrap64 (x7 + 1)))) else (none)) else (scarfjointref01_Tokens.l0 k x0 x5 x6 x7)
def scarfjointref01_Tokens.j2 : Nat → ByteArray → List (S46) → Int → Int → Int → Int → Bool → Int → ByteArray → Int → Option ((List (S46)) × Int × Int)
  | 0, _, _, _, _, _, _, _, _, _, _ => none
  | k + 1, x0, x5, x6, x7, x9, x10, x59, x231000, x231001, x231002 => if x59 = true then (some (([] : List (S46)), x6, 3)) else (if x10 = 0 then (if x5.length < 4398046511104 then (scarfjointref01_Tokens.l0 k x0 (x5 ++ [(⟨x231000, x231001, x6⟩ : S46)]) x6 (wrap64 (x7 + x9))) else (none)) else (some (([] : List (S46)), x6, x10)))
end
def scarfjointref01_Tokens.f (k : Nat) (a0 : ByteArray) : Option ((List (S46)) × Int × Int) := if (a0.size : Int) > 20000 then (some (([] : List (S46)), 0, 3)) else (scarfjointref01_Tokens.l0 k a0 ([] : List (S46)) 1 0)
theorem scarfjointref01_Tokens.mono_l : ∀ k, (∀ y0 y1 y2 y3, LeO (scarfjointref01_Tokens.l0 k y0 y1 y2 y3) (scarfjointref01_Tokens.l0 (k + 1) y0 y1 y2 y3)) ∧ (∀ y0 y1 y2 y3, LeO (scarfjointref01_Tokens.l1 k y0 y1 y2 y3) (scarfjointref01_Tokens.l1 (k + 1) y0 y1 y2 y3)) ∧ (∀ y0 y1 y2 y3 y4 y5 y6 y7 y8 y9, LeO (scarfjointref01_Tokens.j2 k y0 y1 y2 y3 y4 y5 y6 y7 y8 y9) (scarfjointref01_Tokens.j2 (k + 1) y0 y1 y2 y3 y4 y5 y6 y7 y8 y9))
  | 0 => ⟨fun _ _ _ _ r h => by simp [scarfjointref01_Tokens.l0] at h, fun _ _ _ _ r h => by simp [scarfjointref01_Tokens.l1] at h, fun _ _ _ _ _ _ _ _ _ _ r h => by simp [scarfjointref01_Tokens.j2] at h⟩
  | k + 1 => by
    obtain ⟨ih0, ih1, ih2⟩ := scarfjointref01_Tokens.mono_l k
    refine ⟨?_, ?_, ?_⟩
    · intro y0 y1 y2 y3
      unfold scarfjointref01_Tokens.l0
      repeat' first
      | (with_reducible exact ih0 _ _ _ _)
      | (with_reducible exact ih1 _ _ _ _)
      | (with_reducible exact ih2 _ _ _ _ _ _ _ _ _ _)
      | (with_reducible exact LeO.refl _)
      | (with_reducible exact LeO.none _)
      | (with_reducible refine LeO.ite ?_ ?_)
      | (with_reducible refine LeO.bind ?_ (fun _ => ?_))
      | exact ih0 _ _ _ _
      | exact ih1 _ _ _ _
      | exact ih2 _ _ _ _ _ _ _ _ _ _
      | exact LeO.none _
      | refine LeO.ite ?_ ?_
      | refine LeO.bind ?_ (fun _ => ?_)
    · intro y0 y1 y2 y3
      unfold scarfjointref01_Tokens.l1
      repeat' first
      | (with_reducible exact ih0 _ _ _ _)
      | (with_reducible exact ih1 _ _ _ _)
      | (with_reducible exact ih2 _ _ _ _ _ _ _ _ _ _)
      | (with_reducible exact LeO.refl _)
      | (with_reducible exact LeO.none _)
      | (with_reducible refine LeO.ite ?_ ?_)
      | (with_reducible refine LeO.bind ?_ (fun _ => ?_))
      | exact ih0 _ _ _ _
      | exact ih1 _ _ _ _
      | exact ih2 _ _ _ _ _ _ _ _ _ _
      | exact LeO.none _
      | refine LeO.ite ?_ ?_
      | refine LeO.bind ?_ (fun _ => ?_)
    · intro y0 y1 y2 y3 y4 y5 y6 y7 y8 y9
      unfold scarfjointref01_Tokens.j2
      repeat' first
      | (with_reducible exact ih0 _ _ _ _)
      | (with_reducible exact ih1 _ _ _ _)
      | (with_reducible exact ih2 _ _ _ _ _ _ _ _ _ _)
      | (with_reducible exact LeO.refl _)
      | (with_reducible exact LeO.none _)
      | (with_reducible refine LeO.ite ?_ ?_)
      | (with_reducible refine LeO.bind ?_ (fun _ => ?_))
      | exact ih0 _ _ _ _
      | exact ih1 _ _ _ _
      | exact ih2 _ _ _ _ _ _ _ _ _ _
      | exact LeO.none _
      | refine LeO.ite ?_ ?_
      | refine LeO.bind ?_ (fun _ => ?_)
theorem scarfjointref01_Tokens.mono : ∀ a0 k, LeO (scarfjointref01_Tokens.f k a0) (scarfjointref01_Tokens.f (k + 1) a0) := by
  intro a0 k
  obtain ⟨ih0, ih1, ih2⟩ := scarfjointref01_Tokens.mono_l k
  unfold scarfjointref01_Tokens.f
  repeat' first
      | (with_reducible exact ih0 _ _ _ _)
      | (with_reducible exact ih1 _ _ _ _)
      | (with_reducible exact ih2 _ _ _ _ _ _ _ _ _ _)
      | (with_reducible exact LeO.refl _)
      | (with_reducible exact LeO.none _)
      | (with_reducible refine LeO.ite ?_ ?_)
      | (with_reducible refine LeO.bind ?_ (fun _ => ?_))
      | exact ih0 _ _ _ _
      | exact ih1 _ _ _ _
      | exact ih2 _ _ _ _ _ _ _ _ _ _
      | exact LeO.none _
      | refine LeO.ite ?_ ?_
      | refine LeO.bind ?_ (fun _ => ?_)
set_option maxHeartbeats 8000000 in
set_option maxRecDepth 100000 in
theorem scarfjointref01_Tokens.calls (k : Nat) (a0 : ByteArray) (r1 : List (S46)) (r2 : Int) (r3 : Int) (w : World) (h : scarfjointref01_Tokens.f k a0 = some (r1, r2, r3)) :
    Calls Try.prog 22 #[.string a0] w fun e w' => ∃ v0_ : Value, e = .returned (.tuple #[v0_, .int .i64 r2, .int .i64 r3]) ∧ Kd.R k46 46 w' w.heap.size (fun _ => True) v0_ r1 ∧ Below w.heap.size w w' := by
  have hu46 := Try.underlying46
  have HB := Aside0.mk (Below.refl w.heap.size w)
  have H : (if (a0.size : Int) > 20000 then (some (([] : List (S46)), 0, 3)) else (scarfjointref01_Tokens.l0 k a0 ([] : List (S46)) 1 0)) = some (r1, r2, r3) := h
  clear h
  by_cases c2 : (a0.size : Int) > 20000
  · rw [if_pos c2] at H
    have c2b0 : decide (20000 < (a0.size : Int)) = true := decide_eq_true c2
    have c2b1 : decide (20000 < a0.size) = true := decide_eq_true (by omega)
    clear c2
    simp only [Option.some.injEq, Prod.mk.injEq] at H
    obtain ⟨rfl, rfl, rfl⟩ := H
    go_enter Try.func22, Try.ntmps22
    go_wp2
    go_ret3
    exact ⟨_, by first | rfl | (simp [errW_none, errW_some] <;> rfl) | (simp [*, errW_none, errW_some] <;> rfl), by first | exact Kd.R_nil _ _ _ _ _ | exact Kd.N_nil _ _ _ _ _ | exact Kd.V_nil _ _ _ _ _ | exact Kd.Q_nil _ _ _ _ _ | exact Kd.S_nil _ _ _ _ _, by repeat (first | (with_reducible first | exact HB.out | apply below_alloc | apply pw_below_drewN | apply below_drew1) | exact HB.out)⟩
  · rw [if_neg c2] at H
    have c2b0 : decide (20000 < (a0.size : Int)) = false := decide_eq_false c2
    have c2b1 : decide (20000 < a0.size) = false := decide_eq_false (by omega)
    clear c2
    have H' := Aside0.mk H
    clear H
    go_enter Try.func22, Try.ntmps22
    go_wp2
    go_loopg [5, 6, 7] k (fun kq v5 v6 v7 w' => ∃ (x5_1 : List (S46)) (x6_1 : Int) (x7_1 : Int), v6 = .int .i64 x6_1 ∧ v7 = .int .i64 x7_1 ∧ Aside0 (scarfjointref01_Tokens.l0 kq a0 x5_1 x6_1 x7_1 = some (r1, r2, r3)) ∧ Aside0 (kq ≤ k) ∧ Aside0 (Kd.R k46 46 w' w.heap.size (fun _ => True) v5 x5_1) ∧ Aside0 (Below w.heap.size w w'))
    case atStart => exact ⟨(([] : List (S46))), (1), (0), (by first | rfl | (simp; done) | (simp [*]; done)), (by first | rfl | (simp; done) | (simp [*]; done)), H', ⟨Nat.le_refl _⟩, ⟨by first | exact Kd.R_nil _ _ _ _ _ | exact Kd.N_nil _ _ _ _ _ | exact Kd.V_nil _ _ _ _ _ | exact Kd.Q_nil _ _ _ _ _ | exact Kd.S_nil _ _ _ _ _⟩, ⟨by repeat (first | (with_reducible first | exact HB.out | apply below_alloc | apply pw_below_drewN | apply below_drew1) | exact HB.out)⟩⟩
    case round =>
      clear H'
      try clear c2
      try clear c2b0
      try clear c2b1
      try clear p2
      obtain ⟨x5_1, x6_1, x7_1, rfl, rfl, HA, HK1, HO_5, HB⟩ := hrel
      cases gk with
      | zero => exact absurd HA.out (by simp [scarfjointref01_Tokens.l0])
      | succ k1 =>
        have H := HA.out
        clear HA
        simp only [scarfjointref01_Tokens.l0] at H
        by_cases c3 : x7_1 < (a0.size : Int)
        · rw [if_pos c3] at H
          have c3b0 : decide (x7_1 < (a0.size : Int)) = true := decide_eq_true c3
          clear c3
          by_cases c4 : 0 ≤ x7_1
          · rw [if_pos c4] at H
            have c4b0 : decide (0 ≤ x7_1) = true := decide_eq_true c4
            clear c4
            by_cases c6 : (bt a0 x7_1) = 35
            · rw [if_pos c6] at H
              have c6b0 : ((bt a0 x7_1) == 35) = true := beq_iff_eq.mpr c6
              have c6b1 : ((bt a0 x7_1) != 35) = false := bne_eq_false_iff_eq.mpr c6
              clear c6
              have H' := Aside0.mk H
              clear H
              have p5 : 0 ≤ (x7_1 : Int) := of_decide_eq_true (by first | (with_reducible assumption) | assumption)
              have q5 : x7_1 < (a0.size : Int) := of_decide_eq_true (by first | (with_reducible assumption) | assumption)
              have hx5 := bt_at a0 x7_1
              replace p5 := eq_true p5
              replace q5 := eq_true q5
              go_wp2
              go_loopg [7] k1 (fun kq v7 w' => ∃ (x7_2 : Int), v7 = .int .i64 x7_2 ∧ Aside0 (scarfjointref01_Tokens.l1 kq a0 x5_1 x6_1 x7_2 = some (r1, r2, r3)) ∧ Aside0 (kq ≤ k1) ∧ Aside0 (Kd.R k46 46 w' w.heap.size (fun _ => True) u5 x5_1) ∧ Aside0 (Below w.heap.size w w'))
              case atStart => exact ⟨(x7_1), (by first | rfl | (simp; done) | (simp [*]; done)), H', ⟨Nat.le_refl _⟩, ⟨by (with_reducible repeat (first | apply Kd.R_alloc | apply Kd.R_drewN | apply Kd.R_drew)); exact HO_5.out⟩, ⟨by repeat (first | (with_reducible first | exact HB.out | apply below_alloc | apply pw_below_drewN | apply below_drew1) | exact HB.out)⟩⟩
              case round =>
                clear H'
                try clear c2
                try clear c2b0
                try clear c2b1
                try clear p2
                try clear c3
                try clear c3b0
                try clear c4
                try clear c4b0
                try clear p5
                try clear q5
                try clear hx5
                try clear c6
                try clear c6b0
                try clear c6b1
                try clear p2
                try clear p5
                try clear q5
                obtain ⟨x7_2, rfl, HA, HK2, HO_5, HB⟩ := hrel
                cases gk with
                | zero => exact absurd HA.out (by simp [scarfjointref01_Tokens.l1])
                | succ k2 =>
                  have H := HA.out
                  clear HA
                  simp only [scarfjointref01_Tokens.l1] at H
                  by_cases c7 : x7_2 < (a0.size : Int)
                  · rw [if_pos c7] at H
                    have c7b0 : decide (x7_2 < (a0.size : Int)) = true := decide_eq_true c7
                    clear c7
                    by_cases c8 : 0 ≤ x7_2
                    · rw [if_pos c8] at H
                      have c8b0 : decide (0 ≤ x7_2) = true := decide_eq_true c8
                      clear c8
                      by_cases c10 : (bt a0 x7_2) = 10
                      · rw [if_pos c10] at H
                        have c10b0 : ((bt a0 x7_2) == 10) = true := beq_iff_eq.mpr c10
                        have c10b1 : ((bt a0 x7_2) != 10) = false := bne_eq_false_iff_eq.mpr c10
                        clear c10
                        have H' := Aside0.mk H
                        clear H
                        have p9 : 0 ≤ (x7_2 : Int) := of_decide_eq_true (by first | (with_reducible assumption) | assumption)
                        have q9 : x7_2 < (a0.size : Int) := of_decide_eq_true (by first | (with_reducible assumption) | assumption)
                        have hx9 := bt_at a0 x7_2
                        replace p9 := eq_true p9
                        replace q9 := eq_true q9
                        go_wp2
                        go_roundg k2
                        case measure => have := HK1.out; have := HK2.out; omega
                        case rel => exact ⟨(x5_1), (x6_1), (x7_2), (by first | rfl | (simp; done) | (simp [*]; done)), (by first | rfl | (simp; done) | (simp [*]; done)), H', ⟨by have := HK1.out; have := HK2.out; omega⟩, ⟨by (with_reducible repeat (first | apply Kd.R_alloc | apply Kd.R_drewN | apply Kd.R_drew)); exact HO_5.out⟩, ⟨by repeat (first | (with_reducible first | exact HB.out | apply below_alloc | apply pw_below_drewN | apply below_drew1) | exact HB.out)⟩⟩
                      · rw [if_neg c10] at H
                        have c10b0 : ((bt a0 x7_2) == 10) = false := beq_eq_false_iff_ne.mpr c10
                        have c10b1 : ((bt a0 x7_2) != 10) = true := bne_iff_ne.mpr c10
                        have H' := Aside0.mk H
                        clear H
                        have p9 : 0 ≤ (x7_2 : Int) := of_decide_eq_true (by first | (with_reducible assumption) | assumption)
                        have q9 : x7_2 < (a0.size : Int) := of_decide_eq_true (by first | (with_reducible assumption) | assumption)
                        have hx9 := bt_at a0 x7_2
                        replace p9 := eq_true p9
                        replace q9 := eq_true q9
                        go_wp2
                        go_roundg k2
                        case measure => have := HK1.out; have := HK2.out; omega
                        case rel => exact ⟨(wrap64 (x7_2 + 1)), (by first | rfl | (simp; done) | (simp [*]; done)), H', ⟨by have := HK1.out; have := HK2.out; omega⟩, ⟨by (with_reducible repeat (first | apply Kd.R_alloc | apply Kd.R_drewN | apply Kd.R_drew)); exact HO_5.out⟩, ⟨by repeat (first | (with_reducible first | exact HB.out | apply below_alloc | apply pw_below_drewN | apply below_drew1) | exact HB.out)⟩⟩
                    · rw [if_neg c8] at H
                      exact absurd H (by simp)
                  · rw [if_neg c7] at H
                    have c7b0 : decide (x7_2 < (a0.size : Int)) = false := decide_eq_false c7
                    clear c7
                    have H' := Aside0.mk H
                    clear H
                    go_wp2
                    go_roundg k2
                    case measure => have := HK1.out; have := HK2.out; omega
                    case rel => exact ⟨(x5_1), (x6_1), (x7_2), (by first | rfl | (simp; done) | (simp [*]; done)), (by first | rfl | (simp; done) | (simp [*]; done)), H', ⟨by have := HK1.out; have := HK2.out; omega⟩, ⟨by (with_reducible repeat (first | apply Kd.R_alloc | apply Kd.R_drewN | apply Kd.R_drew)); exact HO_5.out⟩, ⟨by repeat (first | (with_reducible first | exact HB.out | apply below_alloc | apply pw_below_drewN | apply below_drew1) | exact HB.out)⟩⟩
            · rw [if_neg c6] at H
              have c6b0 : ((bt a0 x7_1) == 35) = false := beq_eq_false_iff_ne.mpr c6
              have c6b1 : ((bt a0 x7_1) != 35) = true := bne_iff_ne.mpr c6
              replace H := Option.bind_eq_some_iff.mp H
              obtain ⟨t224, A120, H⟩ := H
              replace H : (if t224 = true then (if (bt a0 x7_1) = 10 then (scarfjointref01_Tokens.l0 k1 a0 x5_1 (wrap64 (x6_1 + 1)) (wrap64 (x7_1 + 1))) else (scarfjointref01_Tokens.l0 k1 a0 x5_1 x6_1 (wrap64 (x7_1 + 1)))) else ((nOne.f a0 x7_1).bind fun bt225 => (if bt225.2.2.2.2 = 0 then (scarfjointref01_Tokens.j2 k1 a0 x5_1 x6_1 x7_1 bt225.2.2.2.1 bt225.2.2.2.2 ((x5_1.length : Int) == 4000) bt225.1 bt225.2.1 bt225.2.2.1) else (scarfjointref01_Tokens.j2 k1 a0 x5_1 x6_1 x7_1 bt225.2.2.2.1 bt225.2.2.2.2 false bt225.1 bt225.2.1 bt225.2.2.1)))) = some (r1, r2, r3) := H
              have A12 := Aside0.mk A120
              clear A120
              by_cases c13 : t224 = true
              · subst c13
                have H1 : (if (bt a0 x7_1) = 10 then (scarfjointref01_Tokens.l0 k1 a0 x5_1 (wrap64 (x6_1 + 1)) (wrap64 (x7_1 + 1))) else (scarfjointref01_Tokens.l0 k1 a0 x5_1 x6_1 (wrap64 (x7_1 + 1)))) = some (r1, r2, r3) := by rw [if_pos rfl] at H; exact H
                clear H
                have H := H1
                clear H1
                by_cases c15 : (bt a0 x7_1) = 10
                · rw [if_pos c15] at H
                  have c15b0 : ((bt a0 x7_1) == 10) = true := beq_iff_eq.mpr c15
                  have c15b1 : ((bt a0 x7_1) != 10) = false := bne_eq_false_iff_eq.mpr c15
                  clear c15
                  have H' := Aside0.mk H
                  clear H
                  have p5 : 0 ≤ (x7_1 : Int) := of_decide_eq_true (by first | (with_reducible assumption) | assumption)
                  have q5 : x7_1 < (a0.size : Int) := of_decide_eq_true (by first | (with_reducible assumption) | assumption)
                  have hx5 := bt_at a0 x7_1
                  replace p5 := eq_true p5
                  replace q5 := eq_true q5
                  have p11 : 0 ≤ (x7_1 : Int) := of_decide_eq_true (by first | (with_reducible assumption) | assumption)
                  have q11 : x7_1 < (a0.size : Int) := of_decide_eq_true (by first | (with_reducible assumption) | assumption)
                  have hx11 := bt_at a0 x7_1
                  replace p11 := eq_true p11
                  replace q11 := eq_true q11
                  go_wp2_with (first | ((with_reducible refine gate_callee (f := 37) rfl ?_); refine goesL_  (some 37) rfl rfl Try.func37 (by kernel_rfl) rfl #[.int .u8 (bt a0 x7_1)] rfl (by (try simp only [List.map_toArray, List.map_cons, List.map_nil]); first | done | rfl | (simp only [List.length_drop, List.length_take]; rfl)) ?_; (with_reducible refine (scarfjointref01_white.calls (bt a0 x7_1) true _ A12.out).mono ?_); rintro e w' ⟨rfl, ⟨nd, rfl⟩⟩; refine ⟨_, rfl, ?_⟩; have p14 : 0 ≤ (x7_1 : Int) := of_decide_eq_true (by first | (with_reducible assumption) | assumption); have q14 : x7_1 < (a0.size : Int) := of_decide_eq_true (by first | (with_reducible assumption) | assumption); have hx14 := bt_at a0 x7_1; replace p14 := eq_true p14; replace q14 := eq_true q14))
                  go_roundg k1
                  case measure => have := HK1.out; omega
                  case rel => exact ⟨(x5_1), (wrap64 (x6_1 + 1)), (wrap64 (x7_1 + 1)), (by first | rfl | (simp; done) | (simp [*]; done)), (by first | rfl | (simp; done) | (simp [*]; done)), H', ⟨by have := HK1.out; omega⟩, ⟨by (with_reducible repeat (first | apply Kd.R_alloc | apply Kd.R_drewN | apply Kd.R_drew)); exact HO_5.out⟩, ⟨by repeat (first | (with_reducible first | exact HB.out | apply below_alloc | apply pw_below_drewN | apply below_drew1) | exact HB.out)⟩⟩
                · rw [if_neg c15] at H
                  have c15b0 : ((bt a0 x7_1) == 10) = false := beq_eq_false_iff_ne.mpr c15
                  have c15b1 : ((bt a0 x7_1) != 10) = true := bne_iff_ne.mpr c15
                  have H' := Aside0.mk H
                  clear H
                  have p5 : 0 ≤ (x7_1 : Int) := of_decide_eq_true (by first | (with_reducible assumption) | assumption)
                  have q5 : x7_1 < (a0.size : Int) := of_decide_eq_true (by first | (with_reducible assumption) | assumption)
                  have hx5 := bt_at a0 x7_1
                  replace p5 := eq_true p5
                  replace q5 := eq_true q5
                  have p11 : 0 ≤ (x7_1 : Int) := of_decide_eq_true (by first | (with_reducible assumption) | assumption)
                  have q11 : x7_1 < (a0.size : Int) := of_decide_eq_true (by first | (with_reducible assumption) | assumption)
                  have hx11 := bt_at a0 x7_1
                  replace p11 := eq_true p11
                  replace q11 := eq_true q11
                  go_wp2_with (first | ((with_reducible refine gate_callee (f := 37) rfl ?_); refine goesL_  (some 37) rfl rfl Try.func37 (by kernel_rfl) rfl #[.int .u8 (bt a0 x7_1)] rfl (by (try simp only [List.map_toArray, List.map_cons, List.map_nil]); first | done | rfl | (simp only [List.length_drop, List.length_take]; rfl)) ?_; (with_reducible refine (scarfjointref01_white.calls (bt a0 x7_1) true _ A12.out).mono ?_); rintro e w' ⟨rfl, ⟨nd, rfl⟩⟩; refine ⟨_, rfl, ?_⟩; have p14 : 0 ≤ (x7_1 : Int) := of_decide_eq_true (by first | (with_reducible assumption) | assumption); have q14 : x7_1 < (a0.size : Int) := of_decide_eq_true (by first | (with_reducible assumption) | assumption); have hx14 := bt_at a0 x7_1; replace p14 := eq_true p14; replace q14 := eq_true q14))
                  go_roundg k1
                  case measure => have := HK1.out; omega
                  case rel => exact ⟨(x5_1), (x6_1), (wrap64 (x7_1 + 1)), (by first | rfl | (simp; done) | (simp [*]; done)), (by first | rfl | (simp; done) | (simp [*]; done)), H', ⟨by have := HK1.out; omega⟩, ⟨by (with_reducible repeat (first | apply Kd.R_alloc | apply Kd.R_drewN | apply Kd.R_drew)); exact HO_5.out⟩, ⟨by repeat (first | (with_reducible first | exact HB.out | apply below_alloc | apply pw_below_drewN | apply below_drew1) | exact HB.out)⟩⟩
              · replace c13 := Bool.eq_false_iff.mpr c13
                subst c13
                have H1 : ((nOne.f a0 x7_1).bind fun bt225 => (if bt225.2.2.2.2 = 0 then (scarfjointref01_Tokens.j2 k1 a0 x5_1 x6_1 x7_1 bt225.2.2.2.1 bt225.2.2.2.2 ((x5_1.length : Int) == 4000) bt225.1 bt225.2.1 bt225.2.2.1) else (scarfjointref01_Tokens.j2 k1 a0 x5_1 x6_1 x7_1 bt225.2.2.2.1 bt225.2.2.2.2 false bt225.1 bt225.2.1 bt225.2.2.1))) = some (r1, r2, r3) := by rw [if_neg (show ¬ (false = true) by decide)] at H; exact H
                clear H
                have H := H1
                clear H1
                replace H := Option.bind_eq_some_iff.mp H
                obtain ⟨⟨t225, t226, t227, t228, t229⟩, A160, H⟩ := H
                replace H : (if t229 = 0 then (scarfjointref01_Tokens.j2 k1 a0 x5_1 x6_1 x7_1 t228 t229 ((x5_1.length : Int) == 4000) t225 t226 t227) else (scarfjointref01_Tokens.j2 k1 a0 x5_1 x6_1 x7_1 t228 t229 false t225 t226 t227)) = some (r1, r2, r3) := H
                have A16 := Aside0.mk A160
                clear A160
                have HC17 := Aside0.mk H
                clear H
                have p5 : 0 ≤ (x7_1 : Int) := of_decide_eq_true (by first | (with_reducible assumption) | assumption)
                have q5 : x7_1 < (a0.size : Int) := of_decide_eq_true (by first | (with_reducible assumption) | assumption)
                have hx5 := bt_at a0 x7_1
                replace p5 := eq_true p5
                replace q5 := eq_true q5
                have p11 : 0 ≤ (x7_1 : Int) := of_decide_eq_true (by first | (with_reducible assumption) | assumption)
                have q11 : x7_1 < (a0.size : Int) := of_decide_eq_true (by first | (with_reducible assumption) | assumption)
                have hx11 := bt_at a0 x7_1
                replace p11 := eq_true p11
                replace q11 := eq_true q11
                go_upto_region 15 with (first | ((with_reducible refine gate_callee (f := 37) rfl ?_); refine goesL_  (some 37) rfl rfl Try.func37 (by kernel_rfl) rfl #[.int .u8 (bt a0 x7_1)] rfl (by (try simp only [List.map_toArray, List.map_cons, List.map_nil]); first | done | rfl | (simp only [List.length_drop, List.length_take]; rfl)) ?_; (with_reducible refine (scarfjointref01_white.calls (bt a0 x7_1) false _ A12.out).mono ?_); rintro e w' ⟨rfl, ⟨nd, rfl⟩⟩; refine ⟨_, rfl, ?_⟩; (try (rw [drewN_self wr]; generalize hq_ : World.drewN wr _ = wr; have n0_ : Aside0 (Kd.R k46 46 wr w.heap.size (fun _ => True) u5 x5_1) := ⟨by rw [← hq_]; exact (by (with_reducible repeat (first | apply Kd.R_alloc | apply Kd.R_drewN | apply Kd.R_drew)); exact HO_5.out)⟩; have n1_ : Aside0 (Below w.heap.size w wr) := ⟨by rw [← hq_]; exact (by repeat (first | (with_reducible first | exact HB.out | apply below_alloc | apply pw_below_drewN | apply below_drew1) | exact HB.out))⟩; clear HO_5 HB hq_; have HO_5 := n0_; have HB := n1_; clear n0_ n1_))) | ((with_reducible refine gate_callee (f := 38) rfl ?_); refine goesL_  (some 49) rfl rfl Try.func38 (by kernel_rfl) rfl #[.string a0, .int .i64 x7_1] rfl (by (try simp only [List.map_toArray, List.map_cons, List.map_nil]); first | done | rfl | (simp only [List.length_drop, List.length_take]; rfl)) ?_; (with_reducible refine (nOne.calls a0 x7_1 t225 t226 t227 t228 t229 _ A16.out).mono ?_); rintro e w18 ⟨rfl, hb⟩; refine ⟨_, rfl, ?_⟩; have n0_ := Aside0.mk (Kd.R_below (by (with_reducible repeat (first | apply Kd.R_alloc | apply Kd.R_drewN | apply Kd.R_drew)); exact HO_5.out) hb); have n1_ := Aside0.mk (below_step (by repeat (first | (with_reducible first | exact HB.out | apply below_alloc | apply pw_below_drewN | apply below_drew1) | exact HB.out)) hb); clear HO_5; clear HB; have HO_5 := n0_; have HB := n1_; clear n0_ n1_; (try clear hb); (try clear hb2); (try clear hk); (try clear hi)) | ((with_reducible refine gate_dst (N := 8) rfl ?_); (try (refine gate_guard (by rfl) ?_; dsimp only)); refine box_event ?hg (N := 8) ?hd (cs := #[.int .i64 0, .string (⟨#[]⟩ : ByteArray), .int .i64 0]) (t := 46) ?hr ?_; (case hd => rfl); (case hg => rfl); (case hr => first | (go_simp; done) | (go_simp; rfl)); intro gb230 hg w19 hbox hb; have n0_ := Aside0.mk (Kd.R_below (Kd.R_elderB (by (with_reducible repeat (first | apply Kd.R_alloc | apply Kd.R_drewN | apply Kd.R_drew)); exact HO_5.out) gb230 (Nat.le_of_eq hg.symm)) hb); have n1_ := Aside0.mk (below_step (by repeat (first | (with_reducible first | exact HB.out | apply below_alloc | apply pw_below_drewN | apply below_drew1) | exact HB.out)) hb); have n2_ := Aside0.mk (hbox); have n3_ := Aside0.mk ((by rw [hg]; exact (below_size (by repeat (first | (with_reducible first | exact HB.out | apply below_alloc | apply pw_below_drewN | apply below_drew1) | exact HB.out))) : w.heap.size ≤ gb230)); have n4_ := Aside0.mk ((by rw [hg]; exact (below_size (by repeat (first | (with_reducible first | exact HB.out | apply below_alloc | apply pw_below_drewN | apply below_drew1) | exact HB.out))) : w.heap.size ≤ gb230)); clear HO_5; clear HB; have HO_5 := n0_; have HB := n1_; have BK230 := n2_; have GW230 := n3_; have GE230 := n4_; clear n0_ n1_ n2_ n3_ n4_; clear hb hbox hg; have hcz20_0 : w19.cell? ⟨gb230, 0, none⟩ = some (.int .i64 0) := (blk_cell BK230.out 0).trans rfl; have hcz20_1 : w19.cell? ⟨gb230, 1, none⟩ = some (.string (⟨#[]⟩ : ByteArray)) := (blk_cell BK230.out 1).trans rfl; have hcz20_2 : w19.cell? ⟨gb230, 2, none⟩ = some (.int .i64 0) := (blk_cell BK230.out 2).trans rfl; have hfz20_0 := blk_frozen BK230.out 0; have hfz20_1 := blk_frozen BK230.out 1; have hfz20_2 := blk_frozen BK230.out 2))
                (try simp only [Act.put, List.setIfInBounds_toArray, List.set_cons_zero, List.set_cons_succ])
                go_cut [59] (fun v59 wc => ∃ (kq : Nat) (x59_16 : Bool), v59 = .bool x59_16 ∧ Aside0 (scarfjointref01_Tokens.j2 kq a0 x5_1 x6_1 x7_1 t228 t229 x59_16 t225 t226 t227 = some (r1, r2, r3)) ∧ Aside0 (kq ≤ k1) ∧ Aside0 (Kd.R k46 46 wc w.heap.size (fun k_ => k_ ≠ gb230) u5 x5_1) ∧ Aside0 (wc.heap[gb230]? = some (.cells #[.int .i64 t225, .string t226, .int .i64 t227] 46 (0, 0))) ∧ Aside0 (Below w.heap.size w wc))
                case first =>
                  have H := HC17.out
                  clear HC17
                  by_cases c21 : t229 = 0
                  · rw [if_pos c21] at H
                    have c21b0 : (t229 == 0) = true := beq_iff_eq.mpr c21
                    have c21b1 : (t229 != 0) = false := bne_eq_false_iff_eq.mpr c21
                    clear c21
                    (first | rw [c21b0] | (simp only [i64_w, i32_w]; rw [c21b0]) | skip)
                    have H' := Aside0.mk H
                    clear H
                    obtain ⟨Ao22, co22, eo22⟩ := Kd.R_slice HO_5.out
                    subst eo22
                    go_wp2
                    go_meet
                    case rel => exact ⟨_, (((x5_1.length : Int) == 4000)), (by first | rfl | (simp; done) | (simp [*]; done)), H', ⟨by have := HK1.out; first | omega | exact Nat.le_refl _⟩, ⟨by (with_reducible repeat (first | apply Kd.R_alloc | apply Kd.R_drewN | apply Kd.R_drew)); exact Kd.R_mono (Kd.R_far (p := ⟨gb230, 2, none⟩) (Kd.R_far (p := ⟨gb230, 1, none⟩) (Kd.R_far (p := ⟨gb230, 0, none⟩) (Kd.R_mono HO_5.out (fun k_ hk => (⟨hk, hk.2⟩ : _ ∧ k_ ≠ gb230))) (fun _ hk => hk.2) (.int .i64 t225)) (fun _ hk => hk.2) (.string t226)) (fun _ hk => hk.2) (.int .i64 t227)) (fun _ hk => hk.1.2)⟩, ⟨by (with_reducible repeat (first | refine blk_drewN ?_ _ | refine blk_drew ?_ | refine blk_alloc ?_ _)); refine blk_put (cs := #[.int .i64 t225, .string t226, .int .i64 0]) ?_ 2 _ rfl; (with_reducible repeat (first | refine blk_drewN ?_ _ | refine blk_drew ?_ | refine blk_alloc ?_ _)); refine blk_put (cs := #[.int .i64 t225, .string (⟨#[]⟩ : ByteArray), .int .i64 0]) ?_ 1 _ rfl; (with_reducible repeat (first | refine blk_drewN ?_ _ | refine blk_drew ?_ | refine blk_alloc ?_ _)); refine blk_put (cs := #[.int .i64 0, .string (⟨#[]⟩ : ByteArray), .int .i64 0]) ?_ 0 _ rfl; (with_reducible repeat (first | refine blk_drewN ?_ _ | refine blk_drew ?_ | refine blk_alloc ?_ _)); exact BK230.out⟩, ⟨by repeat (first | (with_reducible first | exact HB.out | apply below_alloc | apply pw_below_drewN | apply below_drew1 | refine below_set ?_ GE230.out) | exact HB.out)⟩⟩
                  · rw [if_neg c21] at H
                    have c21b0 : (t229 == 0) = false := beq_eq_false_iff_ne.mpr c21
                    have c21b1 : (t229 != 0) = true := bne_iff_ne.mpr c21
                    (first | rw [c21b0] | (simp only [i64_w, i32_w]; rw [c21b0]) | skip)
                    have H' := Aside0.mk H
                    clear H
                    go_wp2
                    go_meet
                    case rel => exact ⟨_, (false), (by first | rfl | (simp; done) | (simp [*]; done)), H', ⟨by have := HK1.out; first | omega | exact Nat.le_refl _⟩, ⟨by (with_reducible repeat (first | apply Kd.R_alloc | apply Kd.R_drewN | apply Kd.R_drew)); exact Kd.R_mono (Kd.R_far (p := ⟨gb230, 2, none⟩) (Kd.R_far (p := ⟨gb230, 1, none⟩) (Kd.R_far (p := ⟨gb230, 0, none⟩) (Kd.R_mono HO_5.out (fun k_ hk => (⟨hk, hk.2⟩ : _ ∧ k_ ≠ gb230))) (fun _ hk => hk.2) (.int .i64 t225)) (fun _ hk => hk.2) (.string t226)) (fun _ hk => hk.2) (.int .i64 t227)) (fun _ hk => hk.1.2)⟩, ⟨by (with_reducible repeat (first | refine blk_drewN ?_ _ | refine blk_drew ?_ | refine blk_alloc ?_ _)); refine blk_put (cs := #[.int .i64 t225, .string t226, .int .i64 0]) ?_ 2 _ rfl; (with_reducible repeat (first | refine blk_drewN ?_ _ | refine blk_drew ?_ | refine blk_alloc ?_ _)); refine blk_put (cs := #[.int .i64 t225, .string (⟨#[]⟩ : ByteArray), .int .i64 0]) ?_ 1 _ rfl; (with_reducible repeat (first | refine blk_drewN ?_ _ | refine blk_drew ?_ | refine blk_alloc ?_ _)); refine blk_put (cs := #[.int .i64 0, .string (⟨#[]⟩ : ByteArray), .int .i64 0]) ?_ 0 _ rfl; (with_reducible repeat (first | refine blk_drewN ?_ _ | refine blk_drew ?_ | refine blk_alloc ?_ _)); exact BK230.out⟩, ⟨by repeat (first | (with_reducible first | exact HB.out | apply below_alloc | apply pw_below_drewN | apply below_drew1 | refine below_set ?_ GE230.out) | exact HB.out)⟩⟩
                case rest =>
                  clear HC17
                  try clear c1
                  try clear p1
                  try clear q1
                  try clear hx1
                  try clear c2
                  try clear c2b0
                  try clear c2b1
                  try clear p2
                  try clear c3
                  try clear c3b0
                  try clear c4
                  try clear c4b0
                  try clear p5
                  try clear q5
                  try clear hx5
                  try clear c6
                  try clear c6b0
                  try clear c6b1
                  try clear p6
                  try clear c7
                  try clear c7b0
                  try clear c8
                  try clear c8b0
                  try clear p9
                  try clear q9
                  try clear hx9
                  try clear c10
                  try clear c10b0
                  try clear c10b1
                  try clear p11
                  try clear q11
                  try clear hx11
                  try clear c13
                  try clear p14
                  try clear q14
                  try clear hx14
                  try clear c15
                  try clear c15b0
                  try clear c15b1
                  try clear c21
                  try clear c21b0
                  try clear c21b1
                  try clear c22
                  try clear hcz20_0
                  try clear hcz20_1
                  try clear hcz20_2
                  try clear hfz20_0
                  try clear hfz20_1
                  try clear hfz20_2
                  try clear p11
                  try clear p14
                  try clear p2
                  try clear p5
                  try clear p9
                  try clear q11
                  try clear q14
                  try clear q5
                  try clear q9
                  obtain ⟨kq, x59_16, rfl, HA, HJ16, HO_5, BK230, HB⟩ := hcut
                  cases kq with
                  | zero => exact absurd HA.out (by simp [scarfjointref01_Tokens.j2])
                  | succ kj16 =>
                    have H := HA.out
                    clear HA
                    simp only [scarfjointref01_Tokens.j2] at H
                    by_cases c23 : x59_16 = true
                    · subst c23
                      have H1 : (some (([] : List (S46)), x6_1, 3)) = some (r1, r2, r3) := by rw [if_pos rfl] at H; exact H
                      clear H
                      have H := H1
                      clear H1
                      simp only [Option.some.injEq, Prod.mk.injEq] at H
                      obtain ⟨rfl, rfl, rfl⟩ := H
                      go_wp2
                      go_ret3
                      exact ⟨_, by first | rfl | (simp [errW_none, errW_some] <;> rfl) | (simp [*, errW_none, errW_some] <;> rfl), by first | exact Kd.R_nil _ _ _ _ _ | exact Kd.N_nil _ _ _ _ _ | exact Kd.V_nil _ _ _ _ _ | exact Kd.Q_nil _ _ _ _ _ | exact Kd.S_nil _ _ _ _ _, by repeat (first | (with_reducible first | exact HB.out | apply below_alloc | apply pw_below_drewN | apply below_drew1 | refine below_set ?_ GE230.out) | exact HB.out)⟩
                    · replace c23 := Bool.eq_false_iff.mpr c23
                      subst c23
                      have H1 : (if t229 = 0 then (if x5_1.length < 4398046511104 then (scarfjointref01_Tokens.l0 kj16 a0 (x5_1 ++ [(⟨t225, t226, x6_1⟩ : S46)]) x6_1 (wrap64 (x7_1 + t228))) else (none)) else (some (([] : List (S46)), x6_1, t229))) = some (r1, r2, r3) := by rw [if_neg (show ¬ (false = true) by decide)] at H; exact H
                      clear H
                      have H := H1
                      clear H1
                      by_cases c24 : t229 = 0
                      · rw [if_pos c24] at H
                        have c24b0 : (t229 == 0) = true := beq_iff_eq.mpr c24
                        have c24b1 : (t229 != 0) = false := bne_eq_false_iff_eq.mpr c24
                        clear c24
                        by_cases c25 : x5_1.length < 4398046511104
                        · rw [if_pos c25] at H
                          have LMc25 := Aside0.mk c25
                          clear c25
                          obtain ⟨y231, hy231⟩ : ∃ y_ : List (S46), y_ = (x5_1 ++ [(⟨t225, t226, x6_1⟩ : S46)]) := ⟨_, rfl⟩
                          replace H : (scarfjointref01_Tokens.l0 kj16 a0 y231 x6_1 (wrap64 (x7_1 + t228))) = some (r1, r2, r3) := by first | (rw [hy231]; with_reducible exact H) | (have H2_ := (Option.bind_some _ _).symm.trans H; rw [hy231]; with_reducible exact H2_) | (have H2_ := (Option.bind_some _ _).symm.trans H; with_reducible exact H2_) | with_reducible exact H | (rw [hy231]; exact H) | exact H
                          have Ny231 := Aside0.mk hy231
                          clear hy231
                          have H' := Aside0.mk H
                          clear H
                          have hcz26_0 : wc.cell? ⟨gb230, 0, none⟩ = some (.int .i64 t225) := (blk_cell BK230.out 0).trans rfl
                          have hcz26_1 : wc.cell? ⟨gb230, 1, none⟩ = some (.string t226) := (blk_cell BK230.out 1).trans rfl
                          have hcz26_2 : wc.cell? ⟨gb230, 2, none⟩ = some (.int .i64 t227) := (blk_cell BK230.out 2).trans rfl
                          have hfz26_0 := blk_frozen BK230.out 0
                          have hfz26_1 := blk_frozen BK230.out 1
                          have hfz26_2 := blk_frozen BK230.out 2
                          go_wp2_with (first | ((with_reducible refine gate_builtin (b := .append) (xs := #[.tmp 66, .tmp 68]) rfl ?_); (try (refine gate_guard (by rfl) ?_; dsimp only)); at_builtin; refine Kd.R_append k46 (w0 := w) w.heap.size rfl (.tmp 66) (.tmp 68) 36 46 (.agg #[(.int .i64 0), (.string ⟨#[]⟩), (.int .i64 0)]) 32 rfl Try.underlying36 info46 rfl (by decide) (by omega) u5 x5_1 (⟨t225, t226, x6_1⟩ : S46) [.int .i64 t225, .string t226, .int .i64 x6_1] (fun k_ => k_ ≠ gb230) (fun _ => False) rfl (by first | (go_simp; done) | (go_simp; rfl)) ?aP (fun _ hk => hk.elim) ?aF ?aO ?aB ?aS ?aL ?_; (case aP => exact k46_mkM _ _ _ (⟨t225, t226, x6_1⟩ : S46)); (case aB => exact (by repeat (first | (with_reducible first | exact HB.out | apply below_alloc | apply pw_below_drewN | apply below_drew1 | refine below_set ?_ GE230.out) | exact HB.out))); (case aF => exact (fun k_ hk => Kd.freshB (g := gb230) (o := .cells #[.int .i64 t225, .string t226, .int .i64 x6_1] 46 (0, 0)) (by (with_reducible repeat (first | refine blk_drewN ?_ _ | refine blk_drew ?_ | refine blk_alloc ?_ _)); refine blk_put (cs := #[.int .i64 t225, .string t226, .int .i64 t227]) ?_ 2 _ rfl; (with_reducible repeat (first | refine blk_drewN ?_ _ | refine blk_drew ?_ | refine blk_alloc ?_ _)); exact BK230.out) k_ hk)); (case aO => exact (by (with_reducible repeat (first | apply Kd.R_alloc | apply Kd.R_drewN | apply Kd.R_drew)); exact Kd.R_mono (Kd.R_far (p := ⟨gb230, 2, none⟩) (Kd.R_mono HO_5.out (fun k_ hk => (⟨hk, hk⟩ : _ ∧ k_ ≠ gb230))) (fun _ hk => hk.2) (.int .i64 x6_1)) (fun _ hk => hk.1))); (case aS => exact (below_size (by repeat (first | (with_reducible first | exact HB.out | apply below_alloc | apply pw_below_drewN | apply below_drew1 | refine below_set ?_ GE230.out) | exact HB.out)))); (case aL => have := LMc25.out; omega); intro v232 w27 ho hb hg hat; rw [← Ny231.out] at ho; have n0_ := Aside0.mk (blk_grown (g := gb230) (o := .cells #[.int .i64 t225, .string t226, .int .i64 x6_1] 46 (0, 0)) (by (with_reducible repeat (first | refine blk_drewN ?_ _ | refine blk_drew ?_ | refine blk_alloc ?_ _)); refine blk_put (cs := #[.int .i64 t225, .string t226, .int .i64 t227]) ?_ 2 _ rfl; (with_reducible repeat (first | refine blk_drewN ?_ _ | refine blk_drew ?_ | refine blk_alloc ?_ _)); exact BK230.out) hg (Kd.R_away HO_5.out (fun _ hk => hk))); have n1_ := Aside0.mk (hb); have n2_ := Aside0.mk (ho); clear BK230; clear HB; clear HO_5; have BK230 := n0_; have HB := n1_; have HO233 := n2_; clear n0_ n1_ n2_; clear ho hb hg hat))
                          go_roundg kj16
                          case measure => have := HK1.out; have := HJ16.out; omega
                          case rel => exact ⟨(y231), (x6_1), (wrap64 (x7_1 + t228)), (by first | rfl | (simp; done) | (simp [*]; done)), (by first | rfl | (simp; done) | (simp [*]; done)), H', ⟨by have := HK1.out; have := HJ16.out; omega⟩, ⟨by (with_reducible repeat (first | apply Kd.R_alloc | apply Kd.R_drewN | apply Kd.R_drew)); exact Kd.R_mono HO233.out (fun _ hk => trivial)⟩, ⟨by repeat (first | (with_reducible first | exact HB.out | apply below_alloc | apply pw_below_drewN | apply below_drew1 | refine below_set ?_ GE230.out) | exact HB.out)⟩⟩
                        · rw [if_neg c25] at H
                          exact absurd H (by simp)
                      · rw [if_neg c24] at H
                        have c24b0 : (t229 == 0) = false := beq_eq_false_iff_ne.mpr c24
                        have c24b1 : (t229 != 0) = true := bne_iff_ne.mpr c24
                        simp only [Option.some.injEq, Prod.mk.injEq] at H
                        obtain ⟨rfl, rfl, rfl⟩ := H
                        go_wp2
                        go_ret3
                        exact ⟨_, by first | rfl | (simp [errW_none, errW_some] <;> rfl) | (simp [*, errW_none, errW_some] <;> rfl), by first | exact Kd.R_nil _ _ _ _ _ | exact Kd.N_nil _ _ _ _ _ | exact Kd.V_nil _ _ _ _ _ | exact Kd.Q_nil _ _ _ _ _ | exact Kd.S_nil _ _ _ _ _, by repeat (first | (with_reducible first | exact HB.out | apply below_alloc | apply pw_below_drewN | apply below_drew1 | refine below_set ?_ GE230.out) | exact HB.out)⟩
          · rw [if_neg c4] at H
            exact absurd H (by simp)
        · rw [if_neg c3] at H
          have c3b0 : decide (x7_1 < (a0.size : Int)) = false := decide_eq_false c3
          clear c3
          simp only [Option.some.injEq, Prod.mk.injEq] at H
          obtain ⟨rfl, rfl, rfl⟩ := H
          go_wp2
          go_ret3
          exact ⟨_, by first | rfl | (simp [errW_none, errW_some] <;> rfl) | (simp [*, errW_none, errW_some] <;> rfl), by (with_reducible repeat (first | apply Kd.R_alloc | apply Kd.R_drewN | apply Kd.R_drew)); exact HO_5.out, by repeat (first | (with_reducible first | exact HB.out | apply below_alloc | apply pw_below_drewN | apply below_drew1) | exact HB.out)⟩

open Sj in
theorem rwhite_u8 (c : UInt8) : scarfjointref01_white.f (c.toNat : Int) = some (decide (c = 32 ∨ c = 9 ∨ c = 13 ∨ c = 10)) := by
  have e32 : ((c.toNat : Int) = 32) ↔ c = 32 := u8_eq c 32 (by decide)
  have e9 : ((c.toNat : Int) = 9) ↔ c = 9 := u8_eq c 9 (by decide)
  have e13 : ((c.toNat : Int) = 13) ↔ c = 13 := u8_eq c 13 (by decide)
  have e10 : ((c.toNat : Int) == 10) = decide (c = 10) := by
    rw [Bool.eq_iff_iff, beq_iff_eq, decide_eq_true_eq]; exact u8_eq c 10 (by decide)
  unfold scarfjointref01_white.f
  simp only [e32, e9, e13, e10]
  by_cases h1 : c = 32 <;> by_cases h2 : c = 9 <;> by_cases h3 : c = 13 <;> simp [h1, h2, h3]
open Sj in
/-- The comment's loop: on to the end of the line. -/
theorem rskip (s : ByteArray) (hs : s.size ≤ 20000) (out : List S46) (line : Int) (r : List S46 × Int × Int) : ∀ (d a : Nat), s.size - a = d → a ≤ s.size →
    Ev (fun k => scarfjointref01_Tokens.l0 k s out line ((a + runB (fun x => x != 10) ((L s).drop a) : Nat) : Int)) r → Ev (fun k => scarfjointref01_Tokens.l1 k s out line (a : Int)) r := by
  intro d
  induction d with
  | zero =>
    intro a hd ha h
    rw [List.drop_of_length_le (by rw [L_len]; omega)] at h
    exact Ev.step (f := fun k => scarfjointref01_Tokens.l0 k s out line (a : Int)) (fun k => by rw [scarfjointref01_Tokens.l1, if_neg (by omega)]) h
  | succ d ih =>
    intro a hd ha h
    have hlt : a < (L s).length := by rw [L_len]; omega
    rw [List.drop_eq_getElem_cons hlt, runB] at h
    have hb := bt_nat s a hlt
    have e10 : (((L s)[a].toNat : Int) = 10) ↔ (L s)[a] = 10 := u8_eq _ 10 (by decide)
    generalize (L s)[a] = c at hb e10 h
    by_cases hc : c = 10
    · rw [if_neg (by simp [hc])] at h
      exact Ev.step (f := fun k => scarfjointref01_Tokens.l0 k s out line (a : Int)) (fun k => by rw [scarfjointref01_Tokens.l1, if_pos (by omega), if_pos (by omega), hb, if_pos (e10.2 hc)]) h
    · rw [if_pos (by simp [hc])] at h
      refine Ev.step (f := fun k => scarfjointref01_Tokens.l1 k s out line ((a + 1 : Nat) : Int)) (fun k => by rw [scarfjointref01_Tokens.l1, if_pos (by omega), if_pos (by omega), hb, if_neg (fun h => hc (e10.1 h)), w64 (by omega) (by omega)]; rfl) (ih (a + 1) (by omega) (by omega) ?_)
      rw [show a + 1 + runB (fun x => x != 10) ((L s).drop (a + 1)) = a + (runB (fun x => x != 10) ((L s).drop (a + 1)) + 1) by omega]
      exact h
open Sj in
theorem rtokens_ev (s : ByteArray) (hs : s.size ≤ 20000) : ∀ (f a : Nat) (line : Int) (out : List Tok), s.size - a < f → a ≤ s.size → 0 ≤ line → line + (s.size - a : Nat) ≤ 100000 → out.length ≤ 4000 →
    Ev (fun k => scarfjointref01_Tokens.l0 k s (out.map mkS) line (a : Int)) (mkR (lexF f ((L s).drop a) line out)) := by
  intro f
  induction f with
  | zero => intro a line out h; omega
  | succ f ih =>
    intro a line out hf ha hl0 hl1 hout
    rcases Nat.lt_or_ge a s.size with hlt0 | hge
    · have hlt : a < (L s).length := by rw [L_len]; omega
      obtain ⟨c, hc⟩ : ∃ c, c = (L s)[a] := ⟨_, rfl⟩
      obtain ⟨t, ht⟩ : ∃ t, t = (L s).drop (a + 1) := ⟨_, rfl⟩
      have hD : (L s).drop a = c :: t := by rw [List.drop_eq_getElem_cons hlt, hc, ht]
      have htl : t.length = s.size - (a + 1) := by rw [ht, List.length_drop, L_len]
      have hb : bt s (a : Int) = (c.toNat : Int) := by rw [bt_nat s a hlt, hc]
      have e10 : ((c.toNat : Int) = 10) ↔ c = 10 := u8_eq c 10 (by decide)
      have e35 : ((c.toNat : Int) = 35) ↔ c = 35 := u8_eq c 35 (by decide)
      have hDD : ∀ n, (L s).drop (a + n) = (c :: t).drop n := fun n => by rw [← hD, List.drop_drop]
      rw [hD]
      by_cases h35 : c = 35
      · have hrl := runB_le (fun x => x != 10) (c :: t)
        have hr1 : 1 ≤ runB (fun x => x != 10) (c :: t) := by subst h35; simp [runB]
        simp only [List.length_cons] at hrl
        refine Ev.step (f := fun k => scarfjointref01_Tokens.l1 k s (out.map mkS) line (a : Int)) (fun k => by rw [scarfjointref01_Tokens.l0, if_pos (by omega), if_pos (by omega), hb, if_pos (e35.2 h35)]) ?_
        refine rskip s hs _ _ _ (s.size - a) a rfl ha ?_
        rw [hD]
        have := ih (a + runB (fun x => x != 10) (c :: t)) line out (by omega) (by omega) hl0 (by omega) hout
        rw [hDD] at this
        simp only [lexF, if_pos h35]
        rw [if_neg (by subst h35; decide), if_neg (by subst h35; decide)]
        exact this
      · by_cases h10 : c = 10
        · refine Ev.step (f := fun k => scarfjointref01_Tokens.l0 k s (out.map mkS) (line + 1) ((a + 1 : Nat) : Int)) (fun k => ?_) ?_
          · rw [scarfjointref01_Tokens.l0, if_pos (by omega), if_pos (by omega), hb, if_neg (fun h => h35 (e35.1 h)), rwhite_u8, Option.bind_some, if_pos (by simp [h10]), if_pos (e10.2 h10), w64 (by omega) (by omega), w64 (by omega) (by omega)]
            rfl
          · have := ih (a + 1) (line + 1) out (by omega) (by omega) (by omega) (by omega) hout
            rw [← ht] at this
            simp only [lexF, if_pos h10]
            exact this
        · by_cases hw : c = 32 ∨ c = 9 ∨ c = 13
          · have hw' : c = 32 ∨ c = 9 ∨ c = 13 ∨ c = 10 := by
              rcases hw with h | h | h
              · exact .inl h
              · exact .inr (.inl h)
              · exact .inr (.inr (.inl h))
            refine Ev.step (f := fun k => scarfjointref01_Tokens.l0 k s (out.map mkS) line ((a + 1 : Nat) : Int)) (fun k => ?_) ?_
            · rw [scarfjointref01_Tokens.l0, if_pos (by omega), if_pos (by omega), hb, if_neg (fun h => h35 (e35.1 h)), rwhite_u8, Option.bind_some, if_pos (by simpa using hw'), if_neg (fun h => h10 (e10.1 h)), w64 (by omega) (by omega)]
              rfl
            · have := ih (a + 1) line out (by omega) (by omega) (by omega) (by omega) hout
              rw [← ht] at this
              simp only [lexF, if_neg h10, if_pos hw]
              exact this
          · have hw' : ¬ (c = 32 ∨ c = 9 ∨ c = 13 ∨ c = 10) := by
              rintro (h | h | h | h)
              · exact hw (.inl h)
              · exact hw (.inr (.inl h))
              · exact hw (.inr (.inr h))
              · exact h10 h
            have hbd := nxt_bound (c :: t)
            have hnf : nOne.f s (a : Int) = some (oneR (c :: t)) := by
              unfold nOne.f; rw [if_pos ⟨by unfold okT; omega, by omega, by omega⟩, Int.toNat_natCast, hD]
            simp only [lexF, if_neg h10, if_neg hw, if_neg h35]
            have hstep : ∀ k, scarfjointref01_Tokens.l0 (k + 1) s (out.map mkS) line (a : Int) = if (oneR (c :: t)).2.2.2.2 = 0 then (scarfjointref01_Tokens.j2 k s (out.map mkS) line (a : Int) (oneR (c :: t)).2.2.2.1 (oneR (c :: t)).2.2.2.2 (((out.map mkS).length : Int) == 4000) (oneR (c :: t)).1 (oneR (c :: t)).2.1 (oneR (c :: t)).2.2.1) else (scarfjointref01_Tokens.j2 k s (out.map mkS) line (a : Int) (oneR (c :: t)).2.2.2.1 (oneR (c :: t)).2.2.2.2 false (oneR (c :: t)).1 (oneR (c :: t)).2.1 (oneR (c :: t)).2.2.1) := fun k => by
              rw [scarfjointref01_Tokens.l0, if_pos (by omega), if_pos (by omega), hb, if_neg (fun h => h35 (e35.1 h)), rwhite_u8, Option.bind_some, if_neg (by simpa using hw'), hnf, Option.bind_some]
            by_cases h0 : (nxt (c :: t)).2.2 = 0
            · have hbd := hbd h0
              simp only [List.length_cons] at hbd
              rw [if_pos h0]
              have ho : oneR (c :: t) = ((nxt (c :: t)).1, ⟨(txt (nxt (c :: t)).1 (nxt (c :: t)).2.1 (c :: t)).toArray⟩, 0, (((nxt (c :: t)).2.1 : Nat) : Int), 0) := by unfold oneR; rw [if_pos h0]
              rw [ho] at hstep
              simp only [if_true] at hstep
              refine Ev.step hstep ?_
              by_cases h4 : out.length = 4000
              · rw [if_pos h4]
                refine Ev.step (f := fun k => some (([] : List S46), line, 3)) (fun k => ?_) (Ev.now _)
                rw [scarfjointref01_Tokens.j2, if_pos (by simp [h4])]
              · rw [if_neg h4]
                refine Ev.step (f := fun k => scarfjointref01_Tokens.l0 k s ((out ++ [(⟨(nxt (c :: t)).1, txt (nxt (c :: t)).1 (nxt (c :: t)).2.1 (c :: t), line⟩ : Tok)]).map mkS) line ((a + (nxt (c :: t)).2.1 : Nat) : Int)) (fun k => ?_) ?_
                · rw [scarfjointref01_Tokens.j2, if_neg (by simp; omega), if_pos rfl, if_pos (by simp; omega), w64 (by omega) (by omega), List.map_append]
                  rfl
                · have := ih (a + (nxt (c :: t)).2.1) line (out ++ [(⟨(nxt (c :: t)).1, txt (nxt (c :: t)).1 (nxt (c :: t)).2.1 (c :: t), line⟩ : Tok)]) (by omega) (by omega) hl0 (by omega) (by simp; omega)
                  rw [hDD] at this
                  exact this
            · rw [if_neg h0]
              have ho : oneR (c :: t) = (0, (⟨#[]⟩ : ByteArray), 0, 0, (nxt (c :: t)).2.2) := by unfold oneR; rw [if_neg h0]
              rw [ho] at hstep
              simp only [if_neg h0] at hstep
              refine Ev.step hstep ?_
              refine Ev.step (f := fun k => some (([] : List S46), line, (nxt (c :: t)).2.2)) (fun k => ?_) (Ev.now _)
              rw [scarfjointref01_Tokens.j2, if_neg (by simp), if_neg h0]
    · rw [List.drop_of_length_le (by rw [L_len]; omega)]
      refine Ev.step (f := fun _ => some (out.map mkS, 0, 0)) (fun k => ?_) (by simp [lexF, mkR]; exact Ev.now _)
      rw [scarfjointref01_Tokens.l0, if_neg (by omega)]
open Sj in
def nrTokens.f (a0 : ByteArray) : Option (List S46 × Int × Int) := some (mkR (lex (L a0)))
open Sj in
theorem nrTokens.ev (a0 : ByteArray) (r : List S46 × Int × Int) (h : nrTokens.f a0 = some r) : ∃ k, scarfjointref01_Tokens.f k a0 = some r := by
  obtain rfl := Option.some.inj h
  unfold lex
  by_cases hs : 20000 < (L a0).length
  · rw [if_pos hs]
    rw [L_len] at hs
    exact ⟨0, by unfold scarfjointref01_Tokens.f; rw [if_pos (by omega)]; rfl⟩
  · rw [if_neg hs]
    rw [L_len] at hs ⊢
    obtain ⟨k, hk⟩ := (rtokens_ev a0 (by omega) (a0.size + 1) 0 1 [] (by omega) (by omega) (by omega) (by omega) (by simp)).rounds
    exact ⟨k, by unfold scarfjointref01_Tokens.f; rw [if_neg (by omega)]; exact hk⟩

theorem nrTokens.calls (a0 : ByteArray) (r1 : List (S46)) (r2 : Int) (r3 : Int) (w : World) (h : nrTokens.f a0 = some (r1, r2, r3)) :
    Calls Try.prog 22 #[.string a0] w fun e w' => ∃ v0_ : Value, e = .returned (.tuple #[v0_, .int .i64 r2, .int .i64 r3]) ∧ Kd.R k46 46 w' w.heap.size (fun _ => True) v0_ r1 ∧ Below w.heap.size w w' := by
  obtain ⟨k, hk⟩ := nrTokens.ev a0 (r1, r2, r3) h
  exact scarfjointref01_Tokens.calls k a0 r1 r2 r3 w hk

/-! ### api_Token_23: function 23 -/
def api_Token_23.l0 : Nat → List (S46) → List (S46) → Int → Int → Option (Bool)
  | 0, _, _, _, _ => none
  | k + 1, x0, x1, x12, x13 => if x13 < x12 then (if 0 ≤ x13 then (if x13 < (x0.length : Int) then (if x13 < (x1.length : Int) then (if (!(((rd_T46 x0 x13).f0) == ((rd_T46 x1 x13).f0)) || (!((((rd_T46 x0 x13).f1).toList) == (((rd_T46 x1 x13).f1).toList)) || (!(((rd_T46 x0 x13).f2) == ((rd_T46 x1 x13).f2))))) = true then (some false) else (api_Token_23.l0 k x0 x1 x12 (wrap64 (x13 + 1)))) else (none)) else (none)) else (none)) else (some true)
def api_Token_23.f (k : Nat) (l0 : List (S46)) (l1 : List (S46)) : Option (Bool) := if (l0.length : Int) = (l1.length : Int) then (api_Token_23.l0 k l0 l1 (l0.length : Int) 0) else (some false)
theorem api_Token_23.mono_l : ∀ k, (∀ y0 y1 y2 y3, LeO (api_Token_23.l0 k y0 y1 y2 y3) (api_Token_23.l0 (k + 1) y0 y1 y2 y3))
  | 0 => fun _ _ _ _ r h => by simp [api_Token_23.l0] at h
  | k + 1 => by
    have ih0 := api_Token_23.mono_l k
    · intro y0 y1 y2 y3
      unfold api_Token_23.l0
      repeat' first
      | (with_reducible exact ih0 _ _ _ _)
      | (with_reducible exact LeO.refl _)
      | (with_reducible exact LeO.none _)
      | (with_reducible refine LeO.ite ?_ ?_)
      | (with_reducible refine LeO.bind ?_ (fun _ => ?_))
      | exact ih0 _ _ _ _
      | exact LeO.none _
      | refine LeO.ite ?_ ?_
      | refine LeO.bind ?_ (fun _ => ?_)
theorem api_Token_23.mono : ∀ a0 a1 k, LeO (api_Token_23.f k a0 a1) (api_Token_23.f (k + 1) a0 a1) := by
  intro a0 a1 k
  have ih0 := api_Token_23.mono_l k
  unfold api_Token_23.f
  repeat' first
      | (with_reducible exact ih0 _ _ _ _)
      | (with_reducible exact LeO.refl _)
      | (with_reducible exact LeO.none _)
      | (with_reducible refine LeO.ite ?_ ?_)
      | (with_reducible refine LeO.bind ?_ (fun _ => ?_))
      | exact ih0 _ _ _ _
      | exact LeO.none _
      | refine LeO.ite ?_ ?_
      | refine LeO.bind ?_ (fun _ => ?_)
set_option maxHeartbeats 8000000 in
set_option maxRecDepth 100000 in
theorem api_Token_23.calls (k : Nat) (A0 : Option Addr) (c0 : Nat) (l0 : List (S46)) (A1 : Option Addr) (c1 : Nat) (l1 : List (S46)) (r : Bool) (w : World) (hr0 : Kd.C k46 w A0 l0.length l0) (hc0 : l0.length ≤ c0) (hr1 : Kd.C k46 w A1 l1.length l1) (hc1 : l1.length ≤ c1) (h : api_Token_23.f k l0 l1 = some r) :
    Calls Try.prog 23 #[.slice A0 l0.length c0, .slice A1 l1.length c1] w fun e w' => e = .returned (.bool r) ∧ Drawn0 w w' := by
  have hu46 := Try.underlying46
  have HR0 := Aside0.mk hr0
  have HC0 := Aside0.mk hc0
  clear hr0 hc0
  have HR1 := Aside0.mk hr1
  have HC1 := Aside0.mk hc1
  clear hr1 hc1
  have H : (if (l0.length : Int) = (l1.length : Int) then (api_Token_23.l0 k l0 l1 (l0.length : Int) 0) else (some false)) = some r := h
  clear h
  by_cases c3 : (l0.length : Int) = (l1.length : Int)
  · rw [if_pos c3] at H
    have c3b0 : ((l0.length : Int) == (l1.length : Int)) = true := beq_iff_eq.mpr c3
    have c3b1 : ((l0.length : Int) != (l1.length : Int)) = false := bne_eq_false_iff_eq.mpr c3
    have c3b2 : (l0.length == l1.length) = true := by first | simpa using c3 | (simp at c3 ⊢; omega)
    clear c3
    have H' := Aside0.mk H
    clear H
    go_enter Try.func23, Try.ntmps23
    go_wp2
    repeat (go_quiet (fail); try go_wp2)
    go_loopg [13] k (fun kq v13 w' => ∃ (x13_1 : Int), v13 = .int .i64 x13_1 ∧ Aside0 (api_Token_23.l0 kq l0 l1 (l0.length : Int) x13_1 = some r) ∧ Aside0 (kq ≤ k) ∧ Drawn0 w w')
    case atStart => exact ⟨(0), (by first | rfl | (simp; done) | (simp [*]; done)), H', ⟨Nat.le_refl _⟩, by repeat (first | exact Drawn0.refl _ | apply Drawn0.step)⟩
    case round =>
      clear H'
      try clear c1
      try clear c2
      try clear p2
      try clear c3
      try clear c3b0
      try clear c3b1
      try clear c3b2
      obtain ⟨x13_1, rfl, HA, HK1, ⟨m1, rfl⟩⟩ := hrel
      cases gk with
      | zero => exact absurd HA.out (by simp [api_Token_23.l0])
      | succ k1 =>
        have H := HA.out
        clear HA
        simp only [api_Token_23.l0] at H
        by_cases c4 : x13_1 < (l0.length : Int)
        · rw [if_pos c4] at H
          have c4b0 : decide (x13_1 < (l0.length : Int)) = true := decide_eq_true c4
          clear c4
          by_cases c5 : 0 ≤ x13_1
          · rw [if_pos c5] at H
            have c5b0 : decide (0 ≤ x13_1) = true := decide_eq_true c5
            clear c5
            by_cases c6 : x13_1 < (l0.length : Int)
            · rw [if_pos c6] at H
              have c6b0 : decide (x13_1 < (l0.length : Int)) = true := decide_eq_true c6
              clear c6
              by_cases c7 : x13_1 < (l1.length : Int)
              · rw [if_pos c7] at H
                have c7b0 : decide (x13_1 < (l1.length : Int)) = true := decide_eq_true c7
                clear c7
                by_cases c8 : (!(((rd_T46 l0 x13_1).f0) == ((rd_T46 l1 x13_1).f0)) || (!((((rd_T46 l0 x13_1).f1).toList) == (((rd_T46 l1 x13_1).f1).toList)) || (!(((rd_T46 l0 x13_1).f2) == ((rd_T46 l1 x13_1).f2))))) = true
                · rw [if_pos c8] at H
                  have c8b0 : (!(((rd_T46 l0 x13_1).f0) == ((rd_T46 l1 x13_1).f0)) || (!((((rd_T46 l0 x13_1).f1).toList) == (((rd_T46 l1 x13_1).f1).toList)) || (!(((rd_T46 l0 x13_1).f2) == ((rd_T46 l1 x13_1).f2))))) = true := c8
                  clear c8
                  obtain rfl := Option.some.inj H
                  have p234 : 0 ≤ (x13_1 : Int) := of_decide_eq_true (by first | (with_reducible assumption) | assumption)
                  have q234 : x13_1 < (l0.length : Int) := of_decide_eq_true (by first | (with_reducible assumption) | assumption)
                  obtain ⟨ad234, e234, hx234_0, hx234_1, hx234_2⟩ := at_T46 HR0.out x13_1 p234 q234
                  cases e234
                  replace p234 := eq_true p234
                  replace q234 := eq_true q234
                  have p235 : 0 ≤ (x13_1 : Int) := of_decide_eq_true (by first | (with_reducible assumption) | assumption)
                  have q235 : x13_1 < (l1.length : Int) := of_decide_eq_true (by first | (with_reducible assumption) | assumption)
                  obtain ⟨ad235, e235, hx235_0, hx235_1, hx235_2⟩ := at_T46 HR1.out x13_1 p235 q235
                  cases e235
                  replace p235 := eq_true p235
                  replace q235 := eq_true q235
                  go_wp2
                  repeat (go_quiet (fail); try go_wp2)
                  go_ret
                  exact ⟨by first | rfl | (simp; done) | (simp [*]; done), by repeat (first | exact Drawn0.refl _ | apply Drawn0.step)⟩
                · rw [if_neg c8] at H
                  have c8b0 : (!(((rd_T46 l0 x13_1).f0) == ((rd_T46 l1 x13_1).f0)) || (!((((rd_T46 l0 x13_1).f1).toList) == (((rd_T46 l1 x13_1).f1).toList)) || (!(((rd_T46 l0 x13_1).f2) == ((rd_T46 l1 x13_1).f2))))) = false := by simpa using c8
                  clear c8
                  have H' := Aside0.mk H
                  clear H
                  have p234 : 0 ≤ (x13_1 : Int) := of_decide_eq_true (by first | (with_reducible assumption) | assumption)
                  have q234 : x13_1 < (l0.length : Int) := of_decide_eq_true (by first | (with_reducible assumption) | assumption)
                  obtain ⟨ad234, e234, hx234_0, hx234_1, hx234_2⟩ := at_T46 HR0.out x13_1 p234 q234
                  cases e234
                  replace p234 := eq_true p234
                  replace q234 := eq_true q234
                  have p235 : 0 ≤ (x13_1 : Int) := of_decide_eq_true (by first | (with_reducible assumption) | assumption)
                  have q235 : x13_1 < (l1.length : Int) := of_decide_eq_true (by first | (with_reducible assumption) | assumption)
                  obtain ⟨ad235, e235, hx235_0, hx235_1, hx235_2⟩ := at_T46 HR1.out x13_1 p235 q235
                  cases e235
                  replace p235 := eq_true p235
                  replace q235 := eq_true q235
                  go_wp2
                  repeat (go_quiet (fail); try go_wp2)
                  go_roundg k1
                  case measure => have := HK1.out; omega
                  case rel => exact ⟨(wrap64 (x13_1 + 1)), (by first | rfl | (simp; done) | (simp [*]; done)), H', ⟨by have := HK1.out; omega⟩, by repeat (first | exact Drawn0.refl _ | apply Drawn0.step)⟩
              · rw [if_neg c7] at H
                exact absurd H (by simp)
            · rw [if_neg c6] at H
              exact absurd H (by simp)
          · rw [if_neg c5] at H
            exact absurd H (by simp)
        · rw [if_neg c4] at H
          have c4b0 : decide (x13_1 < (l0.length : Int)) = false := decide_eq_false c4
          clear c4
          obtain rfl := Option.some.inj H
          go_wp2
          repeat (go_quiet (fail); try go_wp2)
          go_ret
          exact ⟨by first | rfl | (simp; done) | (simp [*]; done), by repeat (first | exact Drawn0.refl _ | apply Drawn0.step)⟩
  · rw [if_neg c3] at H
    have c3b0 : ((l0.length : Int) == (l1.length : Int)) = false := beq_eq_false_iff_ne.mpr c3
    have c3b1 : ((l0.length : Int) != (l1.length : Int)) = true := bne_iff_ne.mpr c3
    have c3b2 : (l0.length == l1.length) = false := by first | simpa using c3 | (simp at c3 ⊢; omega)
    obtain rfl := Option.some.inj H
    go_enter Try.func23, Try.ntmps23
    go_wp2
    repeat (go_quiet (fail); try go_wp2)
    go_ret
    exact ⟨by first | rfl | (simp; done) | (simp [*]; done), by repeat (first | exact Drawn0.refl _ | apply Drawn0.step)⟩

def fullS (x : S46) : Int × List UInt8 × Int := (x.f0, L x.f1, x.f2)
def nEqual.f (l0 l1 : List S46) : Option Bool := if l0.length ≤ 140737488355000 then some (decide (l0.map fullS = l1.map fullS)) else none
theorem nEqual.ev (l0 l1 : List S46) (r : Bool) (h : nEqual.f l0 l1 = some r) : ∃ k, api_Token_23.f k l0 l1 = some r := by
  unfold nEqual.f at h
  by_cases hs : l0.length ≤ 140737488355000
  · rw [if_pos hs] at h
    rw [← h]
    refine ⟨l0.length + 1, ?_⟩
    unfold api_Token_23.f
    by_cases hl : l0.length = l1.length
    · rw [if_pos (by omega)]
      have := all2_gen (fun x y => decide (fullS x = fullS y)) (fun k i => api_Token_23.l0 k l0 l1 (l0.length : Int) i) l0 l1 hl (fun k i hi hj => by
        simp only [api_Token_23.l0]
        rw [if_pos (by omega), if_pos (by omega), if_pos (by omega), if_pos (by omega), rdT_at l0 i hi, rdT_at l1 i hj, w64 (by omega) (by omega), L_toList, L_toList]
        simp only [fullS, decide_eq_true_eq, Prod.mk.injEq]
        generalize L l0[i].f1 = p_; generalize L l1[i].f1 = q_; by_cases h1 : l0[i].f0 = l1[i].f0 <;> by_cases h2 : p_ = q_ <;> by_cases h3 : l0[i].f2 = l1[i].f2 <;> simp [h1, h2, h3]) (fun k => by simp only [api_Token_23.l0]; rw [if_neg (by omega)]) l0.length (l0.length + 1) 0 (by omega) (by omega) (by omega)
      rw [all2_map fullS _ (fun _ _ => rfl) _ _ (by simpa using hl)] at this
      simpa using this
    · rw [if_neg (by omega), decide_eq_false]
      intro h
      have := congrArg List.length h
      simp at this
      exact hl this
  · rw [if_neg hs] at h; cases h

theorem nEqual.calls (A0 : Option Addr) (c0 : Nat) (l0 : List (S46)) (A1 : Option Addr) (c1 : Nat) (l1 : List (S46)) (r : Bool) (w : World) (hr0 : Kd.C k46 w A0 l0.length l0) (hc0 : l0.length ≤ c0) (hr1 : Kd.C k46 w A1 l1.length l1) (hc1 : l1.length ≤ c1) (h : nEqual.f l0 l1 = some r) :
    Calls Try.prog 23 #[.slice A0 l0.length c0, .slice A1 l1.length c1] w fun e w' => e = .returned (.bool r) ∧ Drawn0 w w' := by
  obtain ⟨k, hk⟩ := nEqual.ev l0 l1 r h
  exact api_Token_23.calls k A0 c0 l0 A1 c1 l1 r w hr0 hc0 hr1 hc1 hk

/-! ### scarfjointref01_IsName: function 25 -/
def scarfjointref01_IsName.f (a0 : ByteArray) : Option (Bool) := (nRight.f 1 a0 0).bind fun t249 => (some t249)
set_option maxHeartbeats 8000000 in
set_option maxRecDepth 100000 in
theorem scarfjointref01_IsName.calls (a0 : ByteArray) (r : Bool) (w : World) (h : scarfjointref01_IsName.f a0 = some r) :
    Calls Try.prog 25 #[.string a0] w fun e w' => e = .returned (.bool r) ∧ Below w.heap.size w w' := by
  have hu46 := Try.underlying46
  have HB := Aside0.mk (Below.refl w.heap.size w)
  have H : ((nRight.f 1 a0 0).bind fun t249 => (some t249)) = some r := h
  clear h
  replace H := Option.bind_eq_some_iff.mp H
  obtain ⟨t249, A20, H⟩ := H
  replace H : (some t249) = some r := H
  have A2 := Aside0.mk A20
  clear A20
  obtain rfl := Option.some.inj H
  go_enter Try.func25, Try.ntmps25
  go_wp2_with (first | ((with_reducible refine gate_callee (f := 27) rfl ?_); refine goesL_  (some 5) rfl rfl Try.func27 (by kernel_rfl) rfl #[.agg #[.int .i64 1, .string a0, .int .i64 0]] rfl (by (try simp only [List.map_toArray, List.map_cons, List.map_nil]); first | done | rfl | (simp only [List.length_drop, List.length_take]; rfl)) ?_; (with_reducible refine (nRight.calls 1 a0 0 t249 _ A2.out).mono ?_); rintro e w3 ⟨rfl, hb⟩; refine ⟨_, rfl, ?_⟩; have n0_ := Aside0.mk (below_step (by repeat (first | (with_reducible first | exact HB.out | apply below_alloc | apply pw_below_drewN | apply below_drew1) | exact HB.out)) hb); clear HB; have HB := n0_; clear n0_; (try clear hb); (try clear hb2); (try clear hk); (try clear hi)))
  go_ret
  exact ⟨by first | rfl | (simp [errW_none, errW_some] <;> rfl) | (simp [*, errW_none, errW_some] <;> rfl), by repeat (first | (with_reducible first | exact HB.out | apply below_alloc | apply pw_below_drewN | apply below_drew1) | exact HB.out)⟩

open Sj in
def nrIsName.f (a0 : ByteArray) : Option Bool := if okW a0 then some (isName (L a0)) else none
open Sj in
theorem nrIsName.ev (a0 : ByteArray) (r : Bool) (h : nrIsName.f a0 = some r) : scarfjointref01_IsName.f a0 = some r := by
  unfold nrIsName.f at h
  by_cases hs : okW a0
  · rw [if_pos hs] at h
    unfold scarfjointref01_IsName.f nRight.f
    rw [if_pos hs, Option.bind_some]
    exact h
  · rw [if_neg hs] at h; cases h

theorem nrIsName.calls (a0 : ByteArray) (r : Bool) (w : World) (h : nrIsName.f a0 = some r) :
    Calls Try.prog 25 #[.string a0] w fun e w' => e = .returned (.bool r) ∧ Below w.heap.size w w' := by
  exact scarfjointref01_IsName.calls a0 r w (nrIsName.ev a0 r h)

-- NOT PRINTED: function 39 (api_Token_39)

/-! ### token_Same_1: function 40 -/
def token_Same_1.f (a0_0 : Int) (a0_1 : ByteArray) (a0_2 : Int) (a1_0 : Int) (a1_1 : ByteArray) (a1_2 : Int) : Option (Bool) := if a0_0 = a1_0 then (some (a0_1.toList == a1_1.toList)) else (some false)
set_option maxHeartbeats 8000000 in
set_option maxRecDepth 100000 in
theorem token_Same_1.calls (a0_0 : Int) (a0_1 : ByteArray) (a0_2 : Int) (a1_0 : Int) (a1_1 : ByteArray) (a1_2 : Int) (r : Bool) (w : World) (h : token_Same_1.f a0_0 a0_1 a0_2 a1_0 a1_1 a1_2 = some r) :
    Calls Try.prog 40 #[.agg #[.int .i64 a0_0, .string a0_1, .int .i64 a0_2], .agg #[.int .i64 a1_0, .string a1_1, .int .i64 a1_2]] w fun e w' => e = .returned (.bool r) ∧ Below w.heap.size w w' := by
  have hu46 := Try.underlying46
  have HB := Aside0.mk (Below.refl w.heap.size w)
  have H : (if a0_0 = a1_0 then (some (a0_1.toList == a1_1.toList)) else (some false)) = some r := h
  clear h
  by_cases c3 : a0_0 = a1_0
  · rw [if_pos c3] at H
    have c3b0 : (a0_0 == a1_0) = true := beq_iff_eq.mpr c3
    have c3b1 : (a0_0 != a1_0) = false := bne_eq_false_iff_eq.mpr c3
    clear c3
    obtain rfl := Option.some.inj H
    go_enter Try.func40, Try.ntmps40
    go_wp2_with (first | ((with_reducible refine gate_dst (N := 2) rfl ?_); refine box_event ?hg (N := 2) ?hd (cs := #[.int .i64 a0_0, .string a0_1, .int .i64 a0_2]) (t := 46) ?hr ?_; (case hd => rfl); (case hg => rfl); (case hr => first | (go_simp; done) | (go_simp; rfl)); intro gb266 hg w4 hbox hb; have n0_ := Aside0.mk (below_step (by repeat (first | (with_reducible first | exact HB.out | apply below_alloc | apply pw_below_drewN | apply below_drew1) | exact HB.out)) hb); have n1_ := Aside0.mk (hbox); have n2_ := Aside0.mk ((by rw [hg]; exact (below_size (by repeat (first | (with_reducible first | exact HB.out | apply below_alloc | apply pw_below_drewN | apply below_drew1) | exact HB.out))) : w.heap.size ≤ gb266)); have n3_ := Aside0.mk ((by rw [hg]; exact (below_size (by repeat (first | (with_reducible first | exact HB.out | apply below_alloc | apply pw_below_drewN | apply below_drew1) | exact HB.out))) : w.heap.size ≤ gb266)); clear HB; have HB := n0_; have BK266 := n1_; have GW266 := n2_; have GE266 := n3_; clear n0_ n1_ n2_ n3_; clear hb hbox hg) | ((with_reducible refine gate_dst (N := 3) rfl ?_); refine box_event ?hg (N := 3) ?hd (cs := #[.int .i64 a1_0, .string a1_1, .int .i64 a1_2]) (t := 46) ?hr ?_; (case hd => rfl); (case hg => rfl); (case hr => first | (go_simp; done) | (go_simp; rfl)); intro gb267 hg w5 hbox hb; have n0_ := Aside0.mk (blk_below (g := gb266) (o := .cells #[.int .i64 a0_0, .string a0_1, .int .i64 a0_2] 46 (0, 0)) (by (with_reducible repeat (first | refine blk_drewN ?_ _ | refine blk_drew ?_ | refine blk_alloc ?_ _)); exact BK266.out) hb); have n1_ := Aside0.mk (below_step (by repeat (first | (with_reducible first | exact HB.out | apply below_alloc | apply pw_below_drewN | apply below_drew1 | refine below_set ?_ GE266.out) | exact HB.out)) hb); have n2_ := Aside0.mk (hbox); have n3_ := Aside0.mk ((by rw [hg]; exact (below_size (by repeat (first | (with_reducible first | exact HB.out | apply below_alloc | apply pw_below_drewN | apply below_drew1 | refine below_set ?_ GE266.out) | exact HB.out))) : w.heap.size ≤ gb267)); have n4_ := Aside0.mk ((by rw [hg]; exact (below_size (by repeat (first | (with_reducible first | exact HB.out | apply below_alloc | apply pw_below_drewN | apply below_drew1 | refine below_set ?_ GE266.out) | exact HB.out))) : w.heap.size ≤ gb267)); have n5_ := Aside0.mk ((by rw [hg]; exact Nat.ne_of_lt (blk_lt (g := gb266) (o := .cells #[.int .i64 a0_0, .string a0_1, .int .i64 a0_2] 46 (0, 0)) (by (with_reducible repeat (first | refine blk_drewN ?_ _ | refine blk_drew ?_ | refine blk_alloc ?_ _)); exact BK266.out)) : gb266 ≠ gb267)); have n6_ := Aside0.mk ((by rw [hg]; exact Nat.ne_of_gt (blk_lt (g := gb266) (o := .cells #[.int .i64 a0_0, .string a0_1, .int .i64 a0_2] 46 (0, 0)) (by (with_reducible repeat (first | refine blk_drewN ?_ _ | refine blk_drew ?_ | refine blk_alloc ?_ _)); exact BK266.out)) : gb267 ≠ gb266)); clear BK266; clear HB; have BK266 := n0_; have HB := n1_; have BK267 := n2_; have GW267 := n3_; have GE267 := n4_; have NB266_267 := n5_; have NB267_266 := n6_; clear n0_ n1_ n2_ n3_ n4_ n5_ n6_; clear hb hbox hg; have hnb6 := NB266_267.out; have hnc6 := NB267_266.out; have hcz7_0 : w5.cell? ⟨gb266, 0, none⟩ = some (.int .i64 a0_0) := (blk_cell BK266.out 0).trans rfl; have hcz7_1 : w5.cell? ⟨gb266, 1, none⟩ = some (.string a0_1) := (blk_cell BK266.out 1).trans rfl; have hcz7_2 : w5.cell? ⟨gb266, 2, none⟩ = some (.int .i64 a0_2) := (blk_cell BK266.out 2).trans rfl; have hfz7_0 := blk_frozen BK266.out 0; have hfz7_1 := blk_frozen BK266.out 1; have hfz7_2 := blk_frozen BK266.out 2; have hcz8_0 : w5.cell? ⟨gb267, 0, none⟩ = some (.int .i64 a1_0) := (blk_cell BK267.out 0).trans rfl; have hcz8_1 : w5.cell? ⟨gb267, 1, none⟩ = some (.string a1_1) := (blk_cell BK267.out 1).trans rfl; have hcz8_2 : w5.cell? ⟨gb267, 2, none⟩ = some (.int .i64 a1_2) := (blk_cell BK267.out 2).trans rfl; have hfz8_0 := blk_frozen BK267.out 0; have hfz8_1 := blk_frozen BK267.out 1; have hfz8_2 := blk_frozen BK267.out 2))
    go_ret
    exact ⟨by first | rfl | (simp [errW_none, errW_some] <;> rfl) | (simp [*, errW_none, errW_some] <;> rfl), by repeat (first | (with_reducible first | exact HB.out | apply below_alloc | apply pw_below_drewN | apply below_drew1 | refine below_set ?_ GE266.out | refine below_set ?_ GE267.out) | exact HB.out)⟩
  · rw [if_neg c3] at H
    have c3b0 : (a0_0 == a1_0) = false := beq_eq_false_iff_ne.mpr c3
    have c3b1 : (a0_0 != a1_0) = true := bne_iff_ne.mpr c3
    obtain rfl := Option.some.inj H
    go_enter Try.func40, Try.ntmps40
    go_wp2_with (first | ((with_reducible refine gate_dst (N := 2) rfl ?_); refine box_event ?hg (N := 2) ?hd (cs := #[.int .i64 a0_0, .string a0_1, .int .i64 a0_2]) (t := 46) ?hr ?_; (case hd => rfl); (case hg => rfl); (case hr => first | (go_simp; done) | (go_simp; rfl)); intro gb266 hg w9 hbox hb; have n0_ := Aside0.mk (below_step (by repeat (first | (with_reducible first | exact HB.out | apply below_alloc | apply pw_below_drewN | apply below_drew1) | exact HB.out)) hb); have n1_ := Aside0.mk (hbox); have n2_ := Aside0.mk ((by rw [hg]; exact (below_size (by repeat (first | (with_reducible first | exact HB.out | apply below_alloc | apply pw_below_drewN | apply below_drew1) | exact HB.out))) : w.heap.size ≤ gb266)); have n3_ := Aside0.mk ((by rw [hg]; exact (below_size (by repeat (first | (with_reducible first | exact HB.out | apply below_alloc | apply pw_below_drewN | apply below_drew1) | exact HB.out))) : w.heap.size ≤ gb266)); clear HB; have HB := n0_; have BK266 := n1_; have GW266 := n2_; have GE266 := n3_; clear n0_ n1_ n2_ n3_; clear hb hbox hg) | ((with_reducible refine gate_dst (N := 3) rfl ?_); refine box_event ?hg (N := 3) ?hd (cs := #[.int .i64 a1_0, .string a1_1, .int .i64 a1_2]) (t := 46) ?hr ?_; (case hd => rfl); (case hg => rfl); (case hr => first | (go_simp; done) | (go_simp; rfl)); intro gb267 hg w10 hbox hb; have n0_ := Aside0.mk (blk_below (g := gb266) (o := .cells #[.int .i64 a0_0, .string a0_1, .int .i64 a0_2] 46 (0, 0)) (by (with_reducible repeat (first | refine blk_drewN ?_ _ | refine blk_drew ?_ | refine blk_alloc ?_ _)); exact BK266.out) hb); have n1_ := Aside0.mk (below_step (by repeat (first | (with_reducible first | exact HB.out | apply below_alloc | apply pw_below_drewN | apply below_drew1 | refine below_set ?_ GE266.out) | exact HB.out)) hb); have n2_ := Aside0.mk (hbox); have n3_ := Aside0.mk ((by rw [hg]; exact (below_size (by repeat (first | (with_reducible first | exact HB.out | apply below_alloc | apply pw_below_drewN | apply below_drew1 | refine below_set ?_ GE266.out) | exact HB.out))) : w.heap.size ≤ gb267)); have n4_ := Aside0.mk ((by rw [hg]; exact (below_size (by repeat (first | (with_reducible first | exact HB.out | apply below_alloc | apply pw_below_drewN | apply below_drew1 | refine below_set ?_ GE266.out) | exact HB.out))) : w.heap.size ≤ gb267)); have n5_ := Aside0.mk ((by rw [hg]; exact Nat.ne_of_lt (blk_lt (g := gb266) (o := .cells #[.int .i64 a0_0, .string a0_1, .int .i64 a0_2] 46 (0, 0)) (by (with_reducible repeat (first | refine blk_drewN ?_ _ | refine blk_drew ?_ | refine blk_alloc ?_ _)); exact BK266.out)) : gb266 ≠ gb267)); have n6_ := Aside0.mk ((by rw [hg]; exact Nat.ne_of_gt (blk_lt (g := gb266) (o := .cells #[.int .i64 a0_0, .string a0_1, .int .i64 a0_2] 46 (0, 0)) (by (with_reducible repeat (first | refine blk_drewN ?_ _ | refine blk_drew ?_ | refine blk_alloc ?_ _)); exact BK266.out)) : gb267 ≠ gb266)); clear BK266; clear HB; have BK266 := n0_; have HB := n1_; have BK267 := n2_; have GW267 := n3_; have GE267 := n4_; have NB266_267 := n5_; have NB267_266 := n6_; clear n0_ n1_ n2_ n3_ n4_ n5_ n6_; clear hb hbox hg; have hnb11 := NB266_267.out; have hnc11 := NB267_266.out; have hcz12_0 : w10.cell? ⟨gb266, 0, none⟩ = some (.int .i64 a0_0) := (blk_cell BK266.out 0).trans rfl; have hcz12_1 : w10.cell? ⟨gb266, 1, none⟩ = some (.string a0_1) := (blk_cell BK266.out 1).trans rfl; have hcz12_2 : w10.cell? ⟨gb266, 2, none⟩ = some (.int .i64 a0_2) := (blk_cell BK266.out 2).trans rfl; have hfz12_0 := blk_frozen BK266.out 0; have hfz12_1 := blk_frozen BK266.out 1; have hfz12_2 := blk_frozen BK266.out 2; have hcz13_0 : w10.cell? ⟨gb267, 0, none⟩ = some (.int .i64 a1_0) := (blk_cell BK267.out 0).trans rfl; have hcz13_1 : w10.cell? ⟨gb267, 1, none⟩ = some (.string a1_1) := (blk_cell BK267.out 1).trans rfl; have hcz13_2 : w10.cell? ⟨gb267, 2, none⟩ = some (.int .i64 a1_2) := (blk_cell BK267.out 2).trans rfl; have hfz13_0 := blk_frozen BK267.out 0; have hfz13_1 := blk_frozen BK267.out 1; have hfz13_2 := blk_frozen BK267.out 2))
    go_ret
    exact ⟨by first | rfl | (simp [errW_none, errW_some] <;> rfl) | (simp [*, errW_none, errW_some] <;> rfl), by repeat (first | (with_reducible first | exact HB.out | apply below_alloc | apply pw_below_drewN | apply below_drew1 | refine below_set ?_ GE266.out | refine below_set ?_ GE267.out) | exact HB.out)⟩

end Go.Proofs.Ytkjikcmjcdlifaa.P
