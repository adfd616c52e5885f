/- Written by a program of this place (mk.py: the kit's print, turned). Proved here: each function of this text, called, computes what its plain function of Lean tells, wherever that tells something. -/
import Derived.Test.YtkjikcmjcdlifaaPx0
import Derived.Test.YtkjikcmjcdlifaaPx3
namespace Go.Proofs.Ytkjikcmjcdlifaa.P
open Go.RowKit Go.Proofs.YtkjikcmjcdlifaaW.PrintWords Go.Proofs.YtkjikcmjcdlifaaW.PrintLast Go.Proofs.YtkjikcmjcdlifaaW.PrintMore
attribute [local go_sem] max2_int min2_int max_two min_two max_three min_three max_four min_four   -- for this text's walks alone
set_option linter.unusedVariables false
set_option linter.unusedSimpArgs false

/-! ### token_run_c32: function 31 -/
def token_run_c32.l0 : Nat → ByteArray → Int → Option (Int)
  | 0, _, _ => none
  | k + 1, x0, x5 => if x5 < (x0.size : Int) then (if 0 ≤ x5 then ((token_Tokens_1.f (bt x0 x5)).bind fun t130 => (if t130 = true then (token_run_c32.l0 k x0 (wrap64 (x5 + 1))) else (some x5))) else (none)) else (some x5)
def token_run_c32.f (k : Nat) (a0 : ByteArray)  : Option (Int) := token_run_c32.l0 k a0 0
theorem token_run_c32.mono_l : ∀ k, (∀ y0 y1, LeO (token_run_c32.l0 k y0 y1) (token_run_c32.l0 (k + 1) y0 y1))
  | 0 => fun _ _ r h => by simp [token_run_c32.l0] at h
  | k + 1 => by
    have ih0 := token_run_c32.mono_l k
    · intro y0 y1
      unfold token_run_c32.l0
      repeat' first
      | (with_reducible exact ih0 _ _)
      | (with_reducible exact LeO.refl _)
      | (with_reducible exact LeO.none _)
      | (with_reducible refine LeO.ite ?_ ?_)
      | (with_reducible refine LeO.bind ?_ (fun _ => ?_))
      | exact ih0 _ _
      | exact LeO.none _
      | refine LeO.ite ?_ ?_
      | refine LeO.bind ?_ (fun _ => ?_)
theorem token_run_c32.mono : ∀ a0 k, LeO (token_run_c32.f k a0) (token_run_c32.f (k + 1) a0) := by
  intro a0 k
  have ih0 := token_run_c32.mono_l k
  unfold token_run_c32.f
  repeat' first
      | (with_reducible exact ih0 _ _)
      | (with_reducible exact LeO.refl _)
      | (with_reducible exact LeO.none _)
      | (with_reducible refine LeO.ite ?_ ?_)
      | (with_reducible refine LeO.bind ?_ (fun _ => ?_))
      | exact ih0 _ _
      | exact LeO.none _
      | refine LeO.ite ?_ ?_
      | refine LeO.bind ?_ (fun _ => ?_)
set_option maxHeartbeats 8000000 in
set_option maxRecDepth 100000 in
theorem token_run_c32.calls (k : Nat) (a0 : ByteArray)  (r : Int) (w : World) (h : token_run_c32.f k a0 = some r) :
    Calls Try.prog 31 #[.string a0, .func (.func 32) #[] #[]] w fun e w' => e = .returned (.int .i64 r) ∧ Drawn0 w w' := by
  have H : (token_run_c32.l0 k a0 0) = some r := h
  clear h
  have H' := Aside0.mk H
  clear H
  go_enter Try.func31, Try.ntmps31
  go_wp2
  go_loopg [5] k (fun kq v5 w' => ∃ (x5_1 : Int), v5 = .int .i64 x5_1 ∧ Aside0 (token_run_c32.l0 kq a0 x5_1 = some r) ∧ Aside0 (kq ≤ k) ∧ Drawn0 w w')
  case atStart => exact ⟨(0), (by first | rfl | (simp; done) | (simp [*]; done)), H', ⟨Nat.le_refl _⟩, by repeat (first | exact Drawn0.refl _ | apply Drawn0.step)⟩
  case round =>
    clear H'
    try clear p2
    obtain ⟨x5_1, rfl, HA, HK1, ⟨m1, rfl⟩⟩ := hrel
    cases gk with
    | zero => exact absurd HA.out (by simp [token_run_c32.l0])
    | succ k1 =>
      have H := HA.out
      clear HA
      simp only [token_run_c32.l0] at H
      by_cases c3 : x5_1 < (a0.size : Int)
      · rw [if_pos c3] at H
        have c3b0 : decide (x5_1 < (a0.size : Int)) = true := decide_eq_true c3
        clear c3
        by_cases c4 : 0 ≤ x5_1
        · rw [if_pos c4] at H
          have c4b0 : decide (0 ≤ x5_1) = true := decide_eq_true c4
          clear c4
          replace H := Option.bind_eq_some_iff.mp H
          obtain ⟨t130, A60, H⟩ := H
          replace H : (if t130 = true then (token_run_c32.l0 k1 a0 (wrap64 (x5_1 + 1))) else (some x5_1)) = some r := H
          have A6 := Aside0.mk A60
          clear A60
          by_cases c7 : t130 = true
          · subst c7
            have H1 : (token_run_c32.l0 k1 a0 (wrap64 (x5_1 + 1))) = some r := by rw [if_pos rfl] at H; exact H
            clear H
            have H := H1
            clear H1
            have H' := Aside0.mk H
            clear H
            have p5 : 0 ≤ (x5_1 : Int) := of_decide_eq_true (by first | (with_reducible assumption) | assumption)
            have q5 : x5_1 < (a0.size : Int) := of_decide_eq_true (by first | (with_reducible assumption) | assumption)
            have hx5 := bt_at a0 x5_1
            replace p5 := eq_true p5
            replace q5 := eq_true q5
            go_wp2_with (first | (go_at_call 32; (with_reducible refine (token_Tokens_1.calls (bt a0 x5_1) true _ A6.out).mono ?_); rintro e w' ⟨rfl, ⟨nd, rfl⟩⟩))
            go_roundg k1
            case measure => have := HK1.out; omega
            case rel => exact ⟨(wrap64 (x5_1 + 1)), (by first | rfl | (simp; done) | (simp [*]; done)), H', ⟨by have := HK1.out; omega⟩, by repeat (first | exact Drawn0.refl _ | apply Drawn0.step)⟩
          · replace c7 := Bool.eq_false_iff.mpr c7
            subst c7
            have H1 : (some x5_1) = some r := by rw [if_neg (show ¬ (false = true) by decide)] at H; exact H
            clear H
            have H := H1
            clear H1
            obtain rfl := Option.some.inj H
            have p5 : 0 ≤ (x5_1 : Int) := of_decide_eq_true (by first | (with_reducible assumption) | assumption)
            have q5 : x5_1 < (a0.size : Int) := of_decide_eq_true (by first | (with_reducible assumption) | assumption)
            have hx5 := bt_at a0 x5_1
            replace p5 := eq_true p5
            replace q5 := eq_true q5
            go_wp2_with (first | (go_at_call 32; (with_reducible refine (token_Tokens_1.calls (bt a0 x5_1) false _ A6.out).mono ?_); rintro e w' ⟨rfl, ⟨nd, rfl⟩⟩))
            go_ret
            exact ⟨by first | rfl | (simp; done) | (simp [*]; done), by repeat (first | exact Drawn0.refl _ | apply Drawn0.step)⟩
        · rw [if_neg c4] at H
          exact absurd H (by simp)
      · rw [if_neg c3] at H
        have c3b0 : decide (x5_1 < (a0.size : Int)) = false := decide_eq_false c3
        clear c3
        obtain rfl := Option.some.inj H
        go_wp2
        go_ret
        exact ⟨by first | rfl | (simp; done) | (simp [*]; done), by repeat (first | exact Drawn0.refl _ | apply Drawn0.step)⟩

/-! ### token_Tokens: function 15 -/
mutual
def token_Tokens.l0 : Nat → ByteArray → List (S46) → Int → Option ((List (S46)) × Int × Int)
  | 0, _, _, _ => none
  | k + 1, x0, x5, x6 => if (x0.size : Int) > 0 then (if 0 < (x0.size : Int) then (if (bt x0 0) = 10 then (if 1 ≤ (x0.size : Int) then (token_Tokens.l0 k (x0.extract 1 x0.size) x5 (wrap64 (x6 + 1))) else (none)) else (if (bt x0 0) = 32 then (token_Tokens.j1 k x0 x5 x6 (bt x0 0) true) else (if (bt x0 0) = 9 then (token_Tokens.j1 k x0 x5 x6 (bt x0 0) true) else (token_Tokens.j1 k x0 x5 x6 (bt x0 0) ((bt x0 0) == 13))))) else (none)) else (some (x5, 0, 0))
def token_Tokens.j1 : Nat → ByteArray → List (S46) → Int → Int → Bool → Option ((List (S46)) × Int × Int)
  | 0, _, _, _, _, _ => none
  | k + 1, x0, x5, x6, x7, x27 => if x27 = true then (if 1 ≤ (x0.size : Int) then (token_Tokens.l0 k (x0.extract 1 x0.size) x5 x6) else (none)) else (if x7 = 35 then ((token_run_c32.f k x0).bind fun t131 => (if 0 ≤ t131 then (if t131 ≤ (x0.size : Int) then (token_Tokens.l0 k (x0.extract (t131 : Int).toNat x0.size) x5 x6) else (none)) else (none))) else ((ntok_next.f x0).bind fun bt132 => (if bt132.2.2 = 0 then (if (x5.length : Int) = 4000 then (some (([] : List (S46)), x6, 3)) else (if 0 ≤ bt132.2.1 then (if bt132.2.1 ≤ (x0.size : Int) then (if bt132.1 = 3 then (if 1 ≤ (wrap64 (bt132.2.1 - 1)) then (if (wrap64 (bt132.2.1 - 1)) ≤ (x0.size : Int) then (if x5.length < 4398046511104 then (token_Tokens.l0 k (x0.extract (bt132.2.1 : Int).toNat x0.size) (x5 ++ [(⟨bt132.1, x0.extract 1 ((wrap64 (bt132.2.1 - 1)) : Int).toNat, x6⟩ : S46)]) x6) else (none)) else (none)) else (none)) else (if x5.length < 4398046511104 then (token_Tokens.l0 k (x0.extract (bt132.2.1 : Int).toNat x0.size) (x5 ++ [(⟨bt132.1, x0.extract 0 (bt132.2.1 : Int).toNat, x6⟩ : S46)]) x6) else (none))) else (none)) else (none))) else (some (([] : List (S46)), x6, bt132.2.2)))))
end
def token_Tokens.f (k : Nat) (a0 : ByteArray) : Option ((List (S46)) × Int × Int) := if (a0.size : Int) > 20000 then (some (([] : List (S46)), 0, 3)) else (token_Tokens.l0 k a0 ([] : List (S46)) 1)
theorem token_Tokens.mono_l : ∀ k, (∀ y0 y1 y2, LeO (token_Tokens.l0 k y0 y1 y2) (token_Tokens.l0 (k + 1) y0 y1 y2)) ∧ (∀ y0 y1 y2 y3 y4, LeO (token_Tokens.j1 k y0 y1 y2 y3 y4) (token_Tokens.j1 (k + 1) y0 y1 y2 y3 y4))
  | 0 => ⟨fun _ _ _ r h => by simp [token_Tokens.l0] at h, fun _ _ _ _ _ r h => by simp [token_Tokens.j1] at h⟩
  | k + 1 => by
    obtain ⟨ih0, ih1⟩ := token_Tokens.mono_l k
    refine ⟨?_, ?_⟩
    · intro y0 y1 y2
      unfold token_Tokens.l0
      repeat' first
      | (with_reducible exact ih0 _ _ _)
      | (with_reducible exact ih1 _ _ _ _ _)
      | (with_reducible exact token_run_c32.mono _ _)
      | (with_reducible exact LeO.refl _)
      | (with_reducible exact LeO.none _)
      | (with_reducible refine LeO.ite ?_ ?_)
      | (with_reducible refine LeO.bind ?_ (fun _ => ?_))
      | exact ih0 _ _ _
      | exact ih1 _ _ _ _ _
      | exact token_run_c32.mono _ _
      | exact LeO.none _
      | refine LeO.ite ?_ ?_
      | refine LeO.bind ?_ (fun _ => ?_)
    · intro y0 y1 y2 y3 y4
      unfold token_Tokens.j1
      repeat' first
      | (with_reducible exact ih0 _ _ _)
      | (with_reducible exact ih1 _ _ _ _ _)
      | (with_reducible exact token_run_c32.mono _ _)
      | (with_reducible exact LeO.refl _)
      | (with_reducible exact LeO.none _)
      | (with_reducible refine LeO.ite ?_ ?_)
      | (with_reducible refine LeO.bind ?_ (fun _ => ?_))
      | exact ih0 _ _ _
      | exact ih1 _ _ _ _ _
      | exact token_run_c32.mono _ _
      | exact LeO.none _
      | refine LeO.ite ?_ ?_
      | refine LeO.bind ?_ (fun _ => ?_)
theorem token_Tokens.mono : ∀ a0 k, LeO (token_Tokens.f k a0) (token_Tokens.f (k + 1) a0) := by
  intro a0 k
  obtain ⟨ih0, ih1⟩ := token_Tokens.mono_l k
  unfold token_Tokens.f
  repeat' first
      | (with_reducible exact ih0 _ _ _)
      | (with_reducible exact ih1 _ _ _ _ _)
      | (with_reducible exact token_run_c32.mono _ _)
      | (with_reducible exact LeO.refl _)
      | (with_reducible exact LeO.none _)
      | (with_reducible refine LeO.ite ?_ ?_)
      | (with_reducible refine LeO.bind ?_ (fun _ => ?_))
      | exact ih0 _ _ _
      | exact ih1 _ _ _ _ _
      | exact token_run_c32.mono _ _
      | exact LeO.none _
      | refine LeO.ite ?_ ?_
      | refine LeO.bind ?_ (fun _ => ?_)
set_option maxHeartbeats 8000000 in
set_option maxRecDepth 100000 in
theorem token_Tokens.calls (k : Nat) (a0 : ByteArray) (r1 : List (S46)) (r2 : Int) (r3 : Int) (w : World) (h : token_Tokens.f k a0 = some (r1, r2, r3)) :
    Calls Try.prog 15 #[.string a0] w fun e w' => ∃ v0_ : Value, e = .returned (.tuple #[v0_, .int .i64 r2, .int .i64 r3]) ∧ Kd.R k46 46 w' w.heap.size (fun _ => True) v0_ r1 ∧ Below w.heap.size w w' := by
  have hu46 := Try.underlying46
  have HB := Aside0.mk (Below.refl w.heap.size w)
  have H : (if (a0.size : Int) > 20000 then (some (([] : List (S46)), 0, 3)) else (token_Tokens.l0 k a0 ([] : List (S46)) 1)) = some (r1, r2, r3) := h
  clear h
  by_cases c2 : (a0.size : Int) > 20000
  · rw [if_pos c2] at H
    have c2b0 : decide (20000 < (a0.size : Int)) = true := decide_eq_true c2
    have c2b1 : decide (20000 < a0.size) = true := decide_eq_true (by omega)
    clear c2
    simp only [Option.some.injEq, Prod.mk.injEq] at H
    obtain ⟨rfl, rfl, rfl⟩ := H
    go_enter Try.func15, Try.ntmps15
    go_wp2
    go_ret3
    exact ⟨_, by first | rfl | (simp [errW_none, errW_some] <;> rfl) | (simp [*, errW_none, errW_some] <;> rfl), by first | exact Kd.R_nil _ _ _ _ _ | exact Kd.N_nil _ _ _ _ _ | exact Kd.V_nil _ _ _ _ _ | exact Kd.Q_nil _ _ _ _ _ | exact Kd.S_nil _ _ _ _ _, by repeat (first | (with_reducible first | exact HB.out | apply below_alloc | apply pw_below_drewN | apply below_drew1) | exact HB.out)⟩
  · rw [if_neg c2] at H
    have c2b0 : decide (20000 < (a0.size : Int)) = false := decide_eq_false c2
    have c2b1 : decide (20000 < a0.size) = false := decide_eq_false (by omega)
    clear c2
    have H' := Aside0.mk H
    clear H
    go_enter Try.func15, Try.ntmps15
    go_wp2
    go_loopg [0, 5, 6] k (fun kq v0 v5 v6 w' => ∃ (x0_1 : ByteArray) (x5_1 : List (S46)) (x6_1 : Int), v0 = .string x0_1 ∧ v6 = .int .i64 x6_1 ∧ Aside0 (token_Tokens.l0 kq x0_1 x5_1 x6_1 = some (r1, r2, r3)) ∧ Aside0 (kq ≤ k) ∧ Aside0 (Kd.R k46 46 w' w.heap.size (fun _ => True) v5 x5_1) ∧ Aside0 (Below w.heap.size w w'))
    case atStart => exact ⟨(a0), (([] : List (S46))), (1), (by first | rfl | (simp; done) | (simp [*]; done)), (by first | rfl | (simp; done) | (simp [*]; done)), H', ⟨Nat.le_refl _⟩, ⟨by first | exact Kd.R_nil _ _ _ _ _ | exact Kd.N_nil _ _ _ _ _ | exact Kd.V_nil _ _ _ _ _ | exact Kd.Q_nil _ _ _ _ _ | exact Kd.S_nil _ _ _ _ _⟩, ⟨by repeat (first | (with_reducible first | exact HB.out | apply below_alloc | apply pw_below_drewN | apply below_drew1) | exact HB.out)⟩⟩
    case round =>
      clear H'
      try clear c1
      try clear c2
      try clear c2b0
      try clear c2b1
      try clear p2
      obtain ⟨x0_1, x5_1, x6_1, rfl, rfl, HA, HK1, HO_5, HB⟩ := hrel
      cases gk with
      | zero => exact absurd HA.out (by simp [token_Tokens.l0])
      | succ k1 =>
        have H := HA.out
        clear HA
        simp only [token_Tokens.l0] at H
        by_cases c3 : (x0_1.size : Int) > 0
        · rw [if_pos c3] at H
          have c3b0 : decide (0 < (x0_1.size : Int)) = true := decide_eq_true c3
          have c3b1 : decide (0 < x0_1.size) = true := decide_eq_true (by omega)
          clear c3
          by_cases c4 : 0 < (x0_1.size : Int)
          · rw [if_pos c4] at H
            have c4b0 : decide (0 < (x0_1.size : Int)) = true := decide_eq_true c4
            have c4b1 : decide (0 < x0_1.size) = true := decide_eq_true (by omega)
            clear c4
            by_cases c6 : (bt x0_1 0) = 10
            · rw [if_pos c6] at H
              have c6b0 : ((bt x0_1 0) == 10) = true := beq_iff_eq.mpr c6
              have c6b1 : ((bt x0_1 0) != 10) = false := bne_eq_false_iff_eq.mpr c6
              clear c6
              by_cases c7 : 1 ≤ (x0_1.size : Int)
              · rw [if_pos c7] at H
                have c7b0 := eq_true c7
                have c7b1 : decide (1 ≤ (x0_1.size : Int)) = true := decide_eq_true c7
                clear c7
                have H' := Aside0.mk H
                clear H
                have p5 : 0 ≤ (0 : Int) := (by omega)
                have q5 : 0 < x0_1.size := (by have : (0 : Int) < (x0_1.size : Int) := of_decide_eq_true (by first | (with_reducible assumption) | assumption); omega)
                have hx5 : ∀ h : 0 < x0_1.size, ((x0_1[0]'h).toNat : Int) = bt x0_1 0 := bt_at x0_1 0
                clear p5
                have qi5 : (0 < (x0_1.size : Int)) = True := eq_true (of_decide_eq_true (by first | (with_reducible assumption) | assumption))
                replace q5 := eq_true q5
                go_wp2
                go_roundg k1
                case measure => have := HK1.out; omega
                case rel => exact ⟨(x0_1.extract 1 x0_1.size), (x5_1), (wrap64 (x6_1 + 1)), (by first | rfl | (simp; done) | (simp [*]; done)), (by first | rfl | (simp; done) | (simp [*]; done)), H', ⟨by have := HK1.out; omega⟩, ⟨by (with_reducible repeat (first | apply Kd.R_alloc | apply Kd.R_drewN | apply Kd.R_drew)); exact HO_5.out⟩, ⟨by repeat (first | (with_reducible first | exact HB.out | apply below_alloc | apply pw_below_drewN | apply below_drew1) | exact HB.out)⟩⟩
              · rw [if_neg c7] at H
                exact absurd H (by simp)
            · rw [if_neg c6] at H
              have c6b0 : ((bt x0_1 0) == 10) = false := beq_eq_false_iff_ne.mpr c6
              have c6b1 : ((bt x0_1 0) != 10) = true := bne_iff_ne.mpr c6
              have HC8 := Aside0.mk H
              clear H
              have p5 : 0 ≤ (0 : Int) := (by omega)
              have q5 : 0 < x0_1.size := (by have : (0 : Int) < (x0_1.size : Int) := of_decide_eq_true (by first | (with_reducible assumption) | assumption); omega)
              have hx5 : ∀ h : 0 < x0_1.size, ((x0_1[0]'h).toNat : Int) = bt x0_1 0 := bt_at x0_1 0
              clear p5
              have qi5 : (0 < (x0_1.size : Int)) = True := eq_true (of_decide_eq_true (by first | (with_reducible assumption) | assumption))
              replace q5 := eq_true q5
              go_upto_region 10 with (fail)
              go_cut [27] (fun v27 wc => ∃ (kq : Nat) (x27_7 : Bool), v27 = .bool x27_7 ∧ Aside0 (token_Tokens.j1 kq x0_1 x5_1 x6_1 (bt x0_1 0) x27_7 = some (r1, r2, r3)) ∧ Aside0 (kq ≤ k1) ∧ Aside0 (Kd.R k46 46 wc w.heap.size (fun _ => True) u5 x5_1) ∧ Aside0 (Below w.heap.size w wc))
              case first =>
                have H := HC8.out
                clear HC8
                by_cases c9 : (bt x0_1 0) = 32
                · rw [if_pos c9] at H
                  have c9b0 : ((bt x0_1 0) == 32) = true := beq_iff_eq.mpr c9
                  have c9b1 : ((bt x0_1 0) != 32) = false := bne_eq_false_iff_eq.mpr c9
                  clear c9
                  (first | rw [c9b0] | (simp only [i64_w, i32_w]; rw [c9b0]) | skip)
                  have H' := Aside0.mk H
                  clear H
                  go_wp2
                  go_meet
                  case rel => exact ⟨_, (true), (by first | rfl | (simp; done) | (simp [*]; done)), H', ⟨by have := HK1.out; first | omega | exact Nat.le_refl _⟩, ⟨by (with_reducible repeat (first | apply Kd.R_alloc | apply Kd.R_drewN | apply Kd.R_drew)); exact HO_5.out⟩, ⟨by repeat (first | (with_reducible first | exact HB.out | apply below_alloc | apply pw_below_drewN | apply below_drew1) | exact HB.out)⟩⟩
                · rw [if_neg c9] at H
                  have c9b0 : ((bt x0_1 0) == 32) = false := beq_eq_false_iff_ne.mpr c9
                  have c9b1 : ((bt x0_1 0) != 32) = true := bne_iff_ne.mpr c9
                  (first | rw [c9b0] | (simp only [i64_w, i32_w]; rw [c9b0]) | skip)
                  by_cases c10 : (bt x0_1 0) = 9
                  · rw [if_pos c10] at H
                    have c10b0 : ((bt x0_1 0) == 9) = true := beq_iff_eq.mpr c10
                    have c10b1 : ((bt x0_1 0) != 9) = false := bne_eq_false_iff_eq.mpr c10
                    clear c10
                    have H' := Aside0.mk H
                    clear H
                    go_wp2
                    go_meet
                    case rel => exact ⟨_, (true), (by first | rfl | (simp; done) | (simp [*]; done)), H', ⟨by have := HK1.out; first | omega | exact Nat.le_refl _⟩, ⟨by (with_reducible repeat (first | apply Kd.R_alloc | apply Kd.R_drewN | apply Kd.R_drew)); exact HO_5.out⟩, ⟨by repeat (first | (with_reducible first | exact HB.out | apply below_alloc | apply pw_below_drewN | apply below_drew1) | exact HB.out)⟩⟩
                  · rw [if_neg c10] at H
                    have c10b0 : ((bt x0_1 0) == 9) = false := beq_eq_false_iff_ne.mpr c10
                    have c10b1 : ((bt x0_1 0) != 9) = true := bne_iff_ne.mpr c10
                    have H' := Aside0.mk H
                    clear H
                    go_wp2
                    go_meet
                    case rel => exact ⟨_, (((bt x0_1 0) == 13)), (by first | rfl | (simp; done) | (simp [*]; done)), H', ⟨by have := HK1.out; first | omega | exact Nat.le_refl _⟩, ⟨by (with_reducible repeat (first | apply Kd.R_alloc | apply Kd.R_drewN | apply Kd.R_drew)); exact HO_5.out⟩, ⟨by repeat (first | (with_reducible first | exact HB.out | apply below_alloc | apply pw_below_drewN | apply below_drew1) | exact HB.out)⟩⟩
              case rest =>
                clear HC8
                try clear c1
                try clear c2
                try clear c2b0
                try clear c2b1
                try clear p2
                try clear c3
                try clear c3b0
                try clear c3b1
                try clear c4
                try clear c4b0
                try clear c4b1
                try clear p5
                try clear q5
                try clear hx5
                try clear qi5
                try clear c6
                try clear c6b0
                try clear c6b1
                try clear p6
                try clear c7
                try clear c7b0
                try clear c7b1
                try clear c9
                try clear c9b0
                try clear c9b1
                try clear c10
                try clear c10b0
                try clear c10b1
                try clear p2
                try clear p5
                try clear q5
                obtain ⟨kq, x27_7, rfl, HA, HJ7, HO_5, HB⟩ := hcut
                cases kq with
                | zero => exact absurd HA.out (by simp [token_Tokens.j1])
                | succ kj7 =>
                  have H := HA.out
                  clear HA
                  simp only [token_Tokens.j1] at H
                  by_cases c11 : x27_7 = true
                  · subst c11
                    have H1 : (if 1 ≤ (x0_1.size : Int) then (token_Tokens.l0 kj7 (x0_1.extract 1 x0_1.size) x5_1 x6_1) else (none)) = some (r1, r2, r3) := by rw [if_pos rfl] at H; exact H
                    clear H
                    have H := H1
                    clear H1
                    by_cases c12 : 1 ≤ (x0_1.size : Int)
                    · rw [if_pos c12] at H
                      have c12b0 := eq_true c12
                      have c12b1 : decide (1 ≤ (x0_1.size : Int)) = true := decide_eq_true c12
                      clear c12
                      have H' := Aside0.mk H
                      clear H
                      go_wp2
                      go_roundg kj7
                      case measure => have := HK1.out; have := HJ7.out; omega
                      case rel => exact ⟨(x0_1.extract 1 x0_1.size), (x5_1), (x6_1), (by first | rfl | (simp; done) | (simp [*]; done)), (by first | rfl | (simp; done) | (simp [*]; done)), H', ⟨by have := HK1.out; have := HJ7.out; omega⟩, ⟨by (with_reducible repeat (first | apply Kd.R_alloc | apply Kd.R_drewN | apply Kd.R_drew)); exact HO_5.out⟩, ⟨by repeat (first | (with_reducible first | exact HB.out | apply below_alloc | apply pw_below_drewN | apply below_drew1) | exact HB.out)⟩⟩
                    · rw [if_neg c12] at H
                      exact absurd H (by simp)
                  · replace c11 := Bool.eq_false_iff.mpr c11
                    subst c11
                    have H1 : (if (bt x0_1 0) = 35 then ((token_run_c32.f kj7 x0_1).bind fun t131 => (if 0 ≤ t131 then (if t131 ≤ (x0_1.size : Int) then (token_Tokens.l0 kj7 (x0_1.extract (t131 : Int).toNat x0_1.size) x5_1 x6_1) else (none)) else (none))) else ((ntok_next.f x0_1).bind fun bt132 => (if bt132.2.2 = 0 then (if (x5_1.length : Int) = 4000 then (some (([] : List (S46)), x6_1, 3)) else (if 0 ≤ bt132.2.1 then (if bt132.2.1 ≤ (x0_1.size : Int) then (if bt132.1 = 3 then (if 1 ≤ (wrap64 (bt132.2.1 - 1)) then (if (wrap64 (bt132.2.1 - 1)) ≤ (x0_1.size : Int) then (if x5_1.length < 4398046511104 then (token_Tokens.l0 kj7 (x0_1.extract (bt132.2.1 : Int).toNat x0_1.size) (x5_1 ++ [(⟨bt132.1, x0_1.extract 1 ((wrap64 (bt132.2.1 - 1)) : Int).toNat, x6_1⟩ : S46)]) x6_1) else (none)) else (none)) else (none)) else (if x5_1.length < 4398046511104 then (token_Tokens.l0 kj7 (x0_1.extract (bt132.2.1 : Int).toNat x0_1.size) (x5_1 ++ [(⟨bt132.1, x0_1.extract 0 (bt132.2.1 : Int).toNat, x6_1⟩ : S46)]) x6_1) else (none))) else (none)) else (none))) else (some (([] : List (S46)), x6_1, bt132.2.2))))) = some (r1, r2, r3) := by rw [if_neg (show ¬ (false = true) by decide)] at H; exact H
                    clear H
                    have H := H1
                    clear H1
                    by_cases c13 : (bt x0_1 0) = 35
                    · rw [if_pos c13] at H
                      have c13b0 : ((bt x0_1 0) == 35) = true := beq_iff_eq.mpr c13
                      have c13b1 : ((bt x0_1 0) != 35) = false := bne_eq_false_iff_eq.mpr c13
                      clear c13
                      replace H := Option.bind_eq_some_iff.mp H
                      obtain ⟨t131, A140, H⟩ := H
                      replace H : (if 0 ≤ t131 then (if t131 ≤ (x0_1.size : Int) then (token_Tokens.l0 kj7 (x0_1.extract (t131 : Int).toNat x0_1.size) x5_1 x6_1) else (none)) else (none)) = some (r1, r2, r3) := H
                      have A14 := Aside0.mk A140
                      clear A140
                      by_cases c15 : 0 ≤ t131
                      · rw [if_pos c15] at H
                        have c15b0 := eq_true c15
                        have c15b1 : decide (0 ≤ t131) = true := decide_eq_true c15
                        clear c15
                        by_cases c16 : t131 ≤ (x0_1.size : Int)
                        · rw [if_pos c16] at H
                          have c16b0 := eq_true c16
                          have c16b1 : decide (t131 ≤ (x0_1.size : Int)) = true := decide_eq_true c16
                          clear c16
                          have H' := Aside0.mk H
                          clear H
                          go_wp2_with (first | ((with_reducible refine gate_callee (f := 31) rfl ?_); refine goesL_  (some 45) rfl rfl Try.func31 (by kernel_rfl) rfl #[.string x0_1, .func (.func 32) #[] #[]] rfl (by (try simp only [List.map_toArray, List.map_cons, List.map_nil]); first | done | rfl | (simp only [List.length_drop, List.length_take]; rfl)) ?_; (with_reducible refine (token_run_c32.calls kj7 x0_1  t131 _ A14.out).mono ?_); rintro e w' ⟨rfl, ⟨nd, rfl⟩⟩; refine ⟨_, rfl, ?_⟩))
                          go_roundg kj7
                          case measure => have := HK1.out; have := HJ7.out; omega
                          case rel => exact ⟨(x0_1.extract (t131 : Int).toNat x0_1.size), (x5_1), (x6_1), (by first | rfl | (simp; done) | (simp [*]; done)), (by first | rfl | (simp; done) | (simp [*]; done)), H', ⟨by have := HK1.out; have := HJ7.out; omega⟩, ⟨by (with_reducible repeat (first | apply Kd.R_alloc | apply Kd.R_drewN | apply Kd.R_drew)); exact HO_5.out⟩, ⟨by repeat (first | (with_reducible first | exact HB.out | apply below_alloc | apply pw_below_drewN | apply below_drew1) | exact HB.out)⟩⟩
                        · rw [if_neg c16] at H
                          exact absurd H (by simp)
                      · rw [if_neg c15] at H
                        exact absurd H (by simp)
                    · rw [if_neg c13] at H
                      have c13b0 : ((bt x0_1 0) == 35) = false := beq_eq_false_iff_ne.mpr c13
                      have c13b1 : ((bt x0_1 0) != 35) = true := bne_iff_ne.mpr c13
                      replace H := Option.bind_eq_some_iff.mp H
                      obtain ⟨⟨t132, t133, t134⟩, A170, H⟩ := H
                      replace H : (if t134 = 0 then (if (x5_1.length : Int) = 4000 then (some (([] : List (S46)), x6_1, 3)) else (if 0 ≤ t133 then (if t133 ≤ (x0_1.size : Int) then (if t132 = 3 then (if 1 ≤ (wrap64 (t133 - 1)) then (if (wrap64 (t133 - 1)) ≤ (x0_1.size : Int) then (if x5_1.length < 4398046511104 then (token_Tokens.l0 kj7 (x0_1.extract (t133 : Int).toNat x0_1.size) (x5_1 ++ [(⟨t132, x0_1.extract 1 ((wrap64 (t133 - 1)) : Int).toNat, x6_1⟩ : S46)]) x6_1) else (none)) else (none)) else (none)) else (if x5_1.length < 4398046511104 then (token_Tokens.l0 kj7 (x0_1.extract (t133 : Int).toNat x0_1.size) (x5_1 ++ [(⟨t132, x0_1.extract 0 (t133 : Int).toNat, x6_1⟩ : S46)]) x6_1) else (none))) else (none)) else (none))) else (some (([] : List (S46)), x6_1, t134))) = some (r1, r2, r3) := H
                      have A17 := Aside0.mk A170
                      clear A170
                      by_cases c18 : t134 = 0
                      · rw [if_pos c18] at H
                        have c18b0 : (t134 == 0) = true := beq_iff_eq.mpr c18
                        have c18b1 : (t134 != 0) = false := bne_eq_false_iff_eq.mpr c18
                        clear c18
                        by_cases c19 : (x5_1.length : Int) = 4000
                        · rw [if_pos c19] at H
                          have c19b0 : ((x5_1.length : Int) == 4000) = true := beq_iff_eq.mpr c19
                          have c19b1 : ((x5_1.length : Int) != 4000) = false := bne_eq_false_iff_eq.mpr c19
                          clear c19
                          simp only [Option.some.injEq, Prod.mk.injEq] at H
                          obtain ⟨rfl, rfl, rfl⟩ := H
                          go_wp2_with (first | ((with_reducible refine gate_callee (f := 33) rfl ?_); refine goesL_  (some 49) rfl rfl Try.func33 (by kernel_rfl) rfl #[.string x0_1] rfl (by (try simp only [List.map_toArray, List.map_cons, List.map_nil]); first | done | rfl | (simp only [List.length_drop, List.length_take]; rfl)) ?_; (with_reducible refine (ntok_next.calls x0_1 t132 t133 t134 _ A17.out).mono ?_); rintro e w20 ⟨rfl, hb⟩; refine ⟨_, rfl, ?_⟩; have n0_ := Aside0.mk (Kd.R_below (by (with_reducible repeat (first | apply Kd.R_alloc | apply Kd.R_drewN | apply Kd.R_drew)); exact HO_5.out) hb); have n1_ := Aside0.mk (below_step (by repeat (first | (with_reducible first | exact HB.out | apply below_alloc | apply pw_below_drewN | apply below_drew1) | exact HB.out)) hb); clear HO_5; clear HB; have HO_5 := n0_; have HB := n1_; clear n0_ n1_; (try clear hb); (try clear hb2); (try clear hk); (try clear hi); obtain ⟨Ao21, co21, eo21⟩ := Kd.R_slice HO_5.out; subst eo21))
                          go_ret3
                          exact ⟨_, by first | rfl | (simp [errW_none, errW_some] <;> rfl) | (simp [*, errW_none, errW_some] <;> rfl), by first | exact Kd.R_nil _ _ _ _ _ | exact Kd.N_nil _ _ _ _ _ | exact Kd.V_nil _ _ _ _ _ | exact Kd.Q_nil _ _ _ _ _ | exact Kd.S_nil _ _ _ _ _, by repeat (first | (with_reducible first | exact HB.out | apply below_alloc | apply pw_below_drewN | apply below_drew1) | exact HB.out)⟩
                        · rw [if_neg c19] at H
                          have c19b0 : ((x5_1.length : Int) == 4000) = false := beq_eq_false_iff_ne.mpr c19
                          have c19b1 : ((x5_1.length : Int) != 4000) = true := bne_iff_ne.mpr c19
                          by_cases c22 : 0 ≤ t133
                          · rw [if_pos c22] at H
                            have c22b0 := eq_true c22
                            have c22b1 : decide (0 ≤ t133) = true := decide_eq_true c22
                            clear c22
                            by_cases c23 : t133 ≤ (x0_1.size : Int)
                            · rw [if_pos c23] at H
                              have c23b0 := eq_true c23
                              have c23b1 : decide (t133 ≤ (x0_1.size : Int)) = true := decide_eq_true c23
                              clear c23
                              by_cases c24 : t132 = 3
                              · rw [if_pos c24] at H
                                have c24b0 : (t132 == 3) = true := beq_iff_eq.mpr c24
                                have c24b1 : (t132 != 3) = false := bne_eq_false_iff_eq.mpr c24
                                clear c24
                                by_cases c25 : 1 ≤ (wrap64 (t133 - 1))
                                · rw [if_pos c25] at H
                                  have c25b0 := eq_true c25
                                  have c25b1 : decide (1 ≤ (wrap64 (t133 - 1))) = true := decide_eq_true c25
                                  clear c25
                                  by_cases c26 : (wrap64 (t133 - 1)) ≤ (x0_1.size : Int)
                                  · rw [if_pos c26] at H
                                    have c26b0 := eq_true c26
                                    have c26b1 : decide ((wrap64 (t133 - 1)) ≤ (x0_1.size : Int)) = true := decide_eq_true c26
                                    clear c26
                                    by_cases c27 : x5_1.length < 4398046511104
                                    · rw [if_pos c27] at H
                                      have LMc27 := Aside0.mk c27
                                      clear c27
                                      obtain ⟨y135, hy135⟩ : ∃ y_ : List (S46), y_ = (x5_1 ++ [(⟨t132, x0_1.extract 1 ((wrap64 (t133 - 1)) : Int).toNat, x6_1⟩ : S46)]) := ⟨_, rfl⟩
                                      replace H : (token_Tokens.l0 kj7 (x0_1.extract (t133 : Int).toNat x0_1.size) y135 x6_1) = some (r1, r2, r3) := by first | (rw [hy135]; with_reducible exact H) | (have H2_ := (Option.bind_some _ _).symm.trans H; rw [hy135]; with_reducible exact H2_) | (have H2_ := (Option.bind_some _ _).symm.trans H; with_reducible exact H2_) | with_reducible exact H | (rw [hy135]; exact H) | exact H
                                      have Ny135 := Aside0.mk hy135
                                      clear hy135
                                      have c28b0 := eq_true (of_decide_eq_true (by first | (with_reducible assumption) | assumption) : 0 ≤ t133)
                                      have c29b0 := eq_true (of_decide_eq_true (by first | (with_reducible assumption) | assumption) : t133 ≤ (x0_1.size : Int))
                                      have H' := Aside0.mk H
                                      clear H
                                      go_wp2_with (first | ((with_reducible refine gate_callee (f := 33) rfl ?_); refine goesL_  (some 49) rfl rfl Try.func33 (by kernel_rfl) rfl #[.string x0_1] rfl (by (try simp only [List.map_toArray, List.map_cons, List.map_nil]); first | done | rfl | (simp only [List.length_drop, List.length_take]; rfl)) ?_; (with_reducible refine (ntok_next.calls x0_1 t132 t133 t134 _ A17.out).mono ?_); rintro e w30 ⟨rfl, hb⟩; refine ⟨_, rfl, ?_⟩; have n0_ := Aside0.mk (Kd.R_below (by (with_reducible repeat (first | apply Kd.R_alloc | apply Kd.R_drewN | apply Kd.R_drew)); exact HO_5.out) hb); have n1_ := Aside0.mk (below_step (by repeat (first | (with_reducible first | exact HB.out | apply below_alloc | apply pw_below_drewN | apply below_drew1) | exact HB.out)) hb); clear HO_5; clear HB; have HO_5 := n0_; have HB := n1_; clear n0_ n1_; (try clear hb); (try clear hb2); (try clear hk); (try clear hi); obtain ⟨Ao31, co31, eo31⟩ := Kd.R_slice HO_5.out; subst eo31) | ((with_reducible refine gate_builtin (b := .append) (xs := #[.tmp 70, .tmp 75]) rfl ?_); at_builtin; refine Kd.R_append k46 (w0 := w) w.heap.size rfl (.tmp 70) (.tmp 75) 36 46 (.agg #[(.int .i64 0), (.string ⟨#[]⟩), (.int .i64 0)]) 32 rfl Try.underlying36 info46 rfl (by decide) (by omega) (.slice Ao31 x5_1.length co31) x5_1 (⟨t132, x0_1.extract 1 ((wrap64 (t133 - 1)) : Int).toNat, x6_1⟩ : S46) [.int .i64 t132, .string (x0_1.extract 1 ((wrap64 (t133 - 1)) : Int).toNat), .int .i64 x6_1] (fun _ => True) (fun _ => False) rfl rfl ?aP (fun _ hk => hk.elim) ?aF ?aO ?aB ?aS ?aL ?_; (case aP => exact k46_mkM _ _ _ (⟨t132, x0_1.extract 1 ((wrap64 (t133 - 1)) : Int).toNat, x6_1⟩ : S46)); (case aB => exact (by repeat (first | (with_reducible first | exact HB.out | apply below_alloc | apply pw_below_drewN | apply below_drew1) | exact HB.out))); (case aF => exact (fun _ _ => trivial)); (case aO => exact (by (with_reducible repeat (first | apply Kd.R_alloc | apply Kd.R_drewN | apply Kd.R_drew)); exact HO_5.out)); (case aS => exact (below_size (by repeat (first | (with_reducible first | exact HB.out | apply below_alloc | apply pw_below_drewN | apply below_drew1) | exact HB.out)))); (case aL => have := LMc27.out; omega); intro v136 w32 ho hb hg hat; rw [← Ny135.out] at ho; have n0_ := Aside0.mk (hb); have n1_ := Aside0.mk (ho); clear HB; clear HO_5; have HB := n0_; have HO137 := n1_; clear n0_ n1_; clear ho hb hg hat))
                                      go_roundg kj7
                                      case measure => have := HK1.out; have := HJ7.out; omega
                                      case rel => exact ⟨(x0_1.extract (t133 : Int).toNat x0_1.size), (y135), (x6_1), (by first | rfl | (simp; done) | (simp [*]; done)), (by first | rfl | (simp; done) | (simp [*]; done)), H', ⟨by have := HK1.out; have := HJ7.out; omega⟩, ⟨by (with_reducible repeat (first | apply Kd.R_alloc | apply Kd.R_drewN | apply Kd.R_drew)); exact HO137.out⟩, ⟨by repeat (first | (with_reducible first | exact HB.out | apply below_alloc | apply pw_below_drewN | apply below_drew1) | exact HB.out)⟩⟩
                                    · rw [if_neg c27] at H
                                      exact absurd H (by simp)
                                  · rw [if_neg c26] at H
                                    exact absurd H (by simp)
                                · rw [if_neg c25] at H
                                  exact absurd H (by simp)
                              · rw [if_neg c24] at H
                                have c24b0 : (t132 == 3) = false := beq_eq_false_iff_ne.mpr c24
                                have c24b1 : (t132 != 3) = true := bne_iff_ne.mpr c24
                                by_cases c33 : x5_1.length < 4398046511104
                                · rw [if_pos c33] at H
                                  have LMc33 := Aside0.mk c33
                                  clear c33
                                  obtain ⟨y138, hy138⟩ : ∃ y_ : List (S46), y_ = (x5_1 ++ [(⟨t132, x0_1.extract 0 (t133 : Int).toNat, x6_1⟩ : S46)]) := ⟨_, rfl⟩
                                  replace H : (token_Tokens.l0 kj7 (x0_1.extract (t133 : Int).toNat x0_1.size) y138 x6_1) = some (r1, r2, r3) := by first | (rw [hy138]; with_reducible exact H) | (have H2_ := (Option.bind_some _ _).symm.trans H; rw [hy138]; with_reducible exact H2_) | (have H2_ := (Option.bind_some _ _).symm.trans H; with_reducible exact H2_) | with_reducible exact H | (rw [hy138]; exact H) | exact H
                                  have Ny138 := Aside0.mk hy138
                                  clear hy138
                                  have c34b0 := eq_true (of_decide_eq_true (by first | (with_reducible assumption) | assumption) : 0 ≤ t133)
                                  have c35b0 := eq_true (of_decide_eq_true (by first | (with_reducible assumption) | assumption) : t133 ≤ (x0_1.size : Int))
                                  have H' := Aside0.mk H
                                  clear H
                                  go_wp2_with (first | ((with_reducible refine gate_callee (f := 33) rfl ?_); refine goesL_  (some 49) rfl rfl Try.func33 (by kernel_rfl) rfl #[.string x0_1] rfl (by (try simp only [List.map_toArray, List.map_cons, List.map_nil]); first | done | rfl | (simp only [List.length_drop, List.length_take]; rfl)) ?_; (with_reducible refine (ntok_next.calls x0_1 t132 t133 t134 _ A17.out).mono ?_); rintro e w36 ⟨rfl, hb⟩; refine ⟨_, rfl, ?_⟩; have n0_ := Aside0.mk (Kd.R_below (by (with_reducible repeat (first | apply Kd.R_alloc | apply Kd.R_drewN | apply Kd.R_drew)); exact HO_5.out) hb); have n1_ := Aside0.mk (below_step (by repeat (first | (with_reducible first | exact HB.out | apply below_alloc | apply pw_below_drewN | apply below_drew1) | exact HB.out)) hb); clear HO_5; clear HB; have HO_5 := n0_; have HB := n1_; clear n0_ n1_; (try clear hb); (try clear hb2); (try clear hk); (try clear hi); obtain ⟨Ao37, co37, eo37⟩ := Kd.R_slice HO_5.out; subst eo37) | ((with_reducible refine gate_builtin (b := .append) (xs := #[.tmp 70, .tmp 75]) rfl ?_); at_builtin; refine Kd.R_append k46 (w0 := w) w.heap.size rfl (.tmp 70) (.tmp 75) 36 46 (.agg #[(.int .i64 0), (.string ⟨#[]⟩), (.int .i64 0)]) 32 rfl Try.underlying36 info46 rfl (by decide) (by omega) (.slice Ao37 x5_1.length co37) x5_1 (⟨t132, x0_1.extract 0 (t133 : Int).toNat, x6_1⟩ : S46) [.int .i64 t132, .string (x0_1.extract 0 (t133 : Int).toNat), .int .i64 x6_1] (fun _ => True) (fun _ => False) rfl rfl ?aP (fun _ hk => hk.elim) ?aF ?aO ?aB ?aS ?aL ?_; (case aP => exact k46_mkM _ _ _ (⟨t132, x0_1.extract 0 (t133 : Int).toNat, x6_1⟩ : S46)); (case aB => exact (by repeat (first | (with_reducible first | exact HB.out | apply below_alloc | apply pw_below_drewN | apply below_drew1) | exact HB.out))); (case aF => exact (fun _ _ => trivial)); (case aO => exact (by (with_reducible repeat (first | apply Kd.R_alloc | apply Kd.R_drewN | apply Kd.R_drew)); exact HO_5.out)); (case aS => exact (below_size (by repeat (first | (with_reducible first | exact HB.out | apply below_alloc | apply pw_below_drewN | apply below_drew1) | exact HB.out)))); (case aL => have := LMc33.out; omega); intro v139 w38 ho hb hg hat; rw [← Ny138.out] at ho; have n0_ := Aside0.mk (hb); have n1_ := Aside0.mk (ho); clear HB; clear HO_5; have HB := n0_; have HO140 := n1_; clear n0_ n1_; clear ho hb hg hat))
                                  go_roundg kj7
                                  case measure => have := HK1.out; have := HJ7.out; omega
                                  case rel => exact ⟨(x0_1.extract (t133 : Int).toNat x0_1.size), (y138), (x6_1), (by first | rfl | (simp; done) | (simp [*]; done)), (by first | rfl | (simp; done) | (simp [*]; done)), H', ⟨by have := HK1.out; have := HJ7.out; omega⟩, ⟨by (with_reducible repeat (first | apply Kd.R_alloc | apply Kd.R_drewN | apply Kd.R_drew)); exact HO140.out⟩, ⟨by repeat (first | (with_reducible first | exact HB.out | apply below_alloc | apply pw_below_drewN | apply below_drew1) | exact HB.out)⟩⟩
                                · rw [if_neg c33] at H
                                  exact absurd H (by simp)
                            · rw [if_neg c23] at H
                              exact absurd H (by simp)
                          · rw [if_neg c22] at H
                            exact absurd H (by simp)
                      · rw [if_neg c18] at H
                        have c18b0 : (t134 == 0) = false := beq_eq_false_iff_ne.mpr c18
                        have c18b1 : (t134 != 0) = true := bne_iff_ne.mpr c18
                        simp only [Option.some.injEq, Prod.mk.injEq] at H
                        obtain ⟨rfl, rfl, rfl⟩ := H
                        go_wp2_with (first | ((with_reducible refine gate_callee (f := 33) rfl ?_); refine goesL_  (some 49) rfl rfl Try.func33 (by kernel_rfl) rfl #[.string x0_1] rfl (by (try simp only [List.map_toArray, List.map_cons, List.map_nil]); first | done | rfl | (simp only [List.length_drop, List.length_take]; rfl)) ?_; (with_reducible refine (ntok_next.calls x0_1 t132 t133 t134 _ A17.out).mono ?_); rintro e w39 ⟨rfl, hb⟩; refine ⟨_, rfl, ?_⟩; have n0_ := Aside0.mk (Kd.R_below (by (with_reducible repeat (first | apply Kd.R_alloc | apply Kd.R_drewN | apply Kd.R_drew)); exact HO_5.out) hb); have n1_ := Aside0.mk (below_step (by repeat (first | (with_reducible first | exact HB.out | apply below_alloc | apply pw_below_drewN | apply below_drew1) | exact HB.out)) hb); clear HO_5; clear HB; have HO_5 := n0_; have HB := n1_; clear n0_ n1_; (try clear hb); (try clear hb2); (try clear hk); (try clear hi)))
                        go_ret3
                        exact ⟨_, by first | rfl | (simp [errW_none, errW_some] <;> rfl) | (simp [*, errW_none, errW_some] <;> rfl), by first | exact Kd.R_nil _ _ _ _ _ | exact Kd.N_nil _ _ _ _ _ | exact Kd.V_nil _ _ _ _ _ | exact Kd.Q_nil _ _ _ _ _ | exact Kd.S_nil _ _ _ _ _, by repeat (first | (with_reducible first | exact HB.out | apply below_alloc | apply pw_below_drewN | apply below_drew1) | exact HB.out)⟩
          · rw [if_neg c4] at H
            exact absurd H (by simp)
        · rw [if_neg c3] at H
          have c3b0 : decide (0 < (x0_1.size : Int)) = false := decide_eq_false c3
          have c3b1 : decide (0 < x0_1.size) = false := decide_eq_false (by omega)
          clear c3
          simp only [Option.some.injEq, Prod.mk.injEq] at H
          obtain ⟨rfl, rfl, rfl⟩ := H
          go_wp2
          go_ret3
          exact ⟨_, by first | rfl | (simp [errW_none, errW_some] <;> rfl) | (simp [*, errW_none, errW_some] <;> rfl), by (with_reducible repeat (first | apply Kd.R_alloc | apply Kd.R_drewN | apply Kd.R_drew)); exact HO_5.out, by repeat (first | (with_reducible first | exact HB.out | apply below_alloc | apply pw_below_drewN | apply below_drew1) | exact HB.out)⟩

open Sj in
theorem run32_at (s : ByteArray) (hs : okS s) (k : Nat) (hk : s.size < k) : token_run_c32.f k s = some ((runB (fun x => x != 10) (L s) : Nat) : Int) := by
  have := run_gen (lf := token_run_c32.l0) (pf := token_Tokens_1.f) (p := fun x => x != 10) (fun k s x => rfl) (fun c => by
    have := eq_beq c 10 (by decide)
    simp only [token_Tokens_1.f, bne]
    rw [show ((c.toNat : Int) == 10) = (c == 10) by simpa using this]) s hs s.size k 0 (by omega) (by omega) hk
  simpa [token_run_c32.f] using this
/-- A token as the program has it. -/
def mkS (t : Sj.Tok) : S46 := ⟨t.kind, ⟨t.text.toArray⟩, t.line⟩
def mkR (r : List Sj.Tok × Int × Int) : List S46 × Int × Int := (r.1.map mkS, r.2.1, r.2.2)
open Sj in
theorem tokens_ev : ∀ (f : Nat) (s : ByteArray) (line : Int) (out : List Tok), s.size ≤ 20000 → s.size < f → 0 ≤ line → line + s.size ≤ 100000 → out.length ≤ 4000 →
    Ev (fun k => token_Tokens.l0 k s (out.map mkS) line) (mkR (lexF f (L s) line out)) := by
  intro f
  induction f with
  | zero => intro s line out _ h; omega
  | succ f ih =>
    intro s line out hs hf hl0 hl1 hout
    cases hL : L s with
    | nil =>
      have h0 : s.size = 0 := (L_nil s).1 hL
      refine Ev.step (f := fun _ => some (out.map mkS, 0, 0)) (fun k => ?_) (by simp [lexF, mkR]; exact Ev.now _)
      simp only [token_Tokens.l0]
      rw [if_neg (by omega)]
    | cons c t =>
      have hz := size_cons hL
      have hb := bt_cons hL
      have e10 : ((c.toNat : Int) = 10) ↔ c = 10 := u8_eq c 10 (by decide)
      have e32 : ((c.toNat : Int) = 32) ↔ c = 32 := u8_eq c 32 (by decide)
      have e9 : ((c.toNat : Int) = 9) ↔ c = 9 := u8_eq c 9 (by decide)
      have e13 : ((c.toNat : Int) == 13) = decide (c = 13) := by
        rw [Bool.eq_iff_iff, beq_iff_eq, decide_eq_true_eq]; exact u8_eq c 13 (by decide)
      have e35 : ((c.toNat : Int) = 35) ↔ c = 35 := u8_eq c 35 (by decide)
      have hT : L (s.extract 1 s.size) = t := by rw [L_tail, hL]; rfl
      have hTz : (s.extract 1 s.size).size = t.length := by rw [← L_len, hT]
      have hD : ∀ n, L (s.extract n s.size) = (c :: t).drop n := fun n => by rw [L_tail, hL]
      have hDz : ∀ n, (s.extract n s.size).size = t.length + 1 - n := fun n => by rw [← L_len, hD]; simp
      by_cases h10 : c = 10
      · refine Ev.step (f := fun k => token_Tokens.l0 k (s.extract 1 s.size) (out.map mkS) (line + 1)) (fun k => ?_) ?_
        · simp only [token_Tokens.l0, hb, e10]
          rw [if_pos (by omega), if_pos (by omega), if_pos h10, if_pos (by omega), w64 (by omega) (by omega)]
        · have := ih (s.extract 1 s.size) (line + 1) out (by omega) (by omega) (by omega) (by omega) hout
          simp only [lexF, if_pos h10]
          rw [hT] at this
          exact this
      · by_cases hw : c = 32 ∨ c = 9 ∨ c = 13
        · refine Ev.step (f := fun k => token_Tokens.j1 k s (out.map mkS) line (c.toNat : Int) true) (fun k => ?_) ?_
          · simp only [token_Tokens.l0, hb, e10, e32, e9, e13]
            rw [if_pos (by omega), if_pos (by omega), if_neg h10]
            by_cases h32 : c = 32
            · rw [if_pos h32]
            · rw [if_neg h32]
              by_cases h9 : c = 9
              · rw [if_pos h9]
              · rw [if_neg h9]
                have h13 : c = 13 := by
                  rcases hw with h | h | h
                  · exact absurd h h32
                  · exact absurd h h9
                  · exact h
                simp [h13]
          · refine Ev.step (f := fun k => token_Tokens.l0 k (s.extract 1 s.size) (out.map mkS) line) (fun k => ?_) ?_
            · simp only [token_Tokens.j1]
              rw [if_pos trivial, if_pos (by omega)]
            · have := ih (s.extract 1 s.size) line out (by omega) (by omega) (by omega) (by omega) hout
              simp only [lexF, if_neg h10, if_pos hw]
              rw [hT] at this
              exact this
        · refine Ev.step (f := fun k => token_Tokens.j1 k s (out.map mkS) line (c.toNat : Int) false) (fun k => ?_) ?_
          · simp only [token_Tokens.l0, hb, e10, e32, e9, e13]
            have h32 : ¬ c = 32 := fun h => hw (.inl h)
            have h9 : ¬ c = 9 := fun h => hw (.inr (.inl h))
            have h13 : ¬ c = 13 := fun h => hw (.inr (.inr h))
            rw [if_pos (by omega), if_pos (by omega), if_neg h10, if_neg h32, if_neg h9]
            simp [h13]
          · by_cases h35 : c = 35
            · have hrl := runB_le (fun x => x != 10) (c :: t)
              have hr1 : 1 ≤ runB (fun x => x != 10) (c :: t) := by subst h35; simp [runB]
              refine Ev.step (f := fun k => (token_run_c32.f k s).bind fun t131 => (if 0 ≤ t131 then (if t131 ≤ (s.size : Int) then (token_Tokens.l0 k (s.extract (t131 : Int).toNat s.size) (out.map mkS) line) else (none)) else (none))) (fun k => ?_) ?_
              · simp only [token_Tokens.j1, e35, if_pos h35]
                rw [if_neg (by simp)]
              · refine Ev.bind (a := ((runB (fun x => x != 10) (L s) : Nat) : Int)) ⟨s.size + 1, fun k hk => run32_at s (by unfold okS; omega) k (by omega)⟩ ?_
                rw [hL]
                refine Ev.congr (f := fun k => token_Tokens.l0 k (s.extract (runB (fun x => x != 10) (c :: t)) s.size) (out.map mkS) line) (fun k => ?_) ?_
                · simp only [List.length_cons] at hrl
                  rw [if_pos (by omega), if_pos (by omega)]
                  simp only [Int.toNat_natCast]
                · have := ih (s.extract (runB (fun x => x != 10) (c :: t)) s.size) line out (by rw [hDz]; omega) (by rw [hDz]; omega) (by omega) (by rw [hDz]; omega) hout
                  simp only [lexF, if_neg h10, if_neg hw, if_pos h35]
                  rw [hD] at this
                  exact this
            · have hbd := nxt_bound (c :: t)
              have hnf : ntok_next.f s = some ((nxt (c :: t)).1, (((nxt (c :: t)).2.1 : Nat) : Int), (nxt (c :: t)).2.2) := by
                unfold ntok_next.f; rw [if_pos ⟨by omega, by unfold okS; omega⟩, hL]
              by_cases h0 : (nxt (c :: t)).2.2 = 0
              · have hbd := hbd h0
                simp only [List.length_cons] at hbd
                by_cases h4 : out.length = 4000
                · refine Ev.step (f := fun k => some (([] : List S46), line, 3)) (fun k => ?_) ?_
                  · simp only [token_Tokens.j1, e35, hnf, Option.bind_some]
                    rw [if_neg (by simp), if_neg h35, if_pos h0, if_pos (by simp [h4])]
                  · simp only [lexF, if_neg h10, if_neg hw, if_neg h35, if_pos h0, if_pos h4]
                    exact Ev.now _
                · refine Ev.step (f := fun k => token_Tokens.l0 k (s.extract (nxt (c :: t)).2.1 s.size) ((out ++ [(⟨(nxt (c :: t)).1, txt (nxt (c :: t)).1 (nxt (c :: t)).2.1 (c :: t), line⟩ : Tok)]).map mkS) line) (fun k => ?_) ?_
                  · simp only [token_Tokens.j1, e35, hnf, Option.bind_some]
                    rw [if_neg (by simp), if_neg h35, if_pos h0, if_neg (by simp; omega), if_pos (by omega), if_pos (by omega)]
                    have hm : (out ++ [(⟨(nxt (c :: t)).1, txt (nxt (c :: t)).1 (nxt (c :: t)).2.1 (c :: t), line⟩ : Tok)]).map mkS = out.map mkS ++ [mkS (⟨(nxt (c :: t)).1, txt (nxt (c :: t)).1 (nxt (c :: t)).2.1 (c :: t), line⟩ : Tok)] := by simp
                    rw [hm]
                    by_cases h3 : (nxt (c :: t)).1 = 3
                    · have hn2 : 2 ≤ (nxt (c :: t)).2.1 := by
                        have : (nxt (c :: t)).2.1 ≠ 1 := by
                          intro h1
                          have h3' := h3; have h1' := h1; have h0' := h0
                          unfold nxt at h3' h1' h0'
                          simp only at h3' h1' h0'
                          split at h3'
                          · split at h3' <;> simp at h3'
                          · split at h3'
                            · split at h3' <;> simp at h3'
                            · split at h3'
                              · rename_i a1 a2 a3
                                rw [if_neg a1, if_neg a2, if_pos a3] at h1' h0'
                                split at h1'
                                · split at h1'
                                  · simp at h1'
                                  · simp at h1'
                                · simp at h1'
                              · split at h3'
                                · simp at h3'
                                · split at h3' <;> simp at h3'
                        omega
                      rw [if_pos h3, w64 (by omega) (by omega), if_pos (by omega), if_pos (by omega), if_pos (by simp; omega)]
                      have e1 : (((nxt (c :: t)).2.1 : Int) - 1).toNat = (nxt (c :: t)).2.1 - 1 := by omega
                      have e2 : s.extract 1 ((nxt (c :: t)).2.1 - 1) = ⟨(txt (nxt (c :: t)).1 (nxt (c :: t)).2.1 (c :: t)).toArray⟩ := by
                        apply L_inj
                        rw [L_extract, hL, L_of, txt, if_pos h3, List.drop_take]
                      simp only [Int.toNat_natCast, e1, e2, mkS]
                    · rw [if_neg h3, if_pos (by simp; omega)]
                      have e2 : s.extract 0 (nxt (c :: t)).2.1 = ⟨(txt (nxt (c :: t)).1 (nxt (c :: t)).2.1 (c :: t)).toArray⟩ := by
                        apply L_inj
                        rw [L_head, hL, L_of, txt, if_neg h3]
                      simp only [Int.toNat_natCast, e2, mkS]
                  · have := ih (s.extract (nxt (c :: t)).2.1 s.size) line (out ++ [(⟨(nxt (c :: t)).1, txt (nxt (c :: t)).1 (nxt (c :: t)).2.1 (c :: t), line⟩ : Tok)]) (by rw [hDz]; omega) (by rw [hDz]; omega) (by omega) (by rw [hDz]; omega) (by simp; omega)
                    simp only [lexF, if_neg h10, if_neg hw, if_neg h35, if_pos h0, if_neg h4]
                    rw [hD] at this
                    exact this
              · refine Ev.step (f := fun k => some (([] : List S46), line, (nxt (c :: t)).2.2)) (fun k => ?_) ?_
                · simp only [token_Tokens.j1, e35, hnf, Option.bind_some]
                  rw [if_neg (by simp), if_neg h35, if_neg h0]
                · simp only [lexF, if_neg h10, if_neg hw, if_neg h35, if_neg h0]
                  exact Ev.now _
open Sj in
def nTokens.f (a0 : ByteArray) : Option (List S46 × Int × Int) := some (mkR (lex (L a0)))
open Sj in
theorem nTokens.ev (a0 : ByteArray) (r : List S46 × Int × Int) (h : nTokens.f a0 = some r) : ∃ k, token_Tokens.f k a0 = some r := by
  obtain rfl := Option.some.inj h
  unfold lex
  by_cases hs : 20000 < (L a0).length
  · rw [if_pos hs]
    rw [L_len] at hs
    exact ⟨0, by unfold token_Tokens.f; rw [if_pos (by omega)]; rfl⟩
  · rw [if_neg hs]
    rw [L_len] at hs ⊢
    obtain ⟨k, hk⟩ := (tokens_ev (a0.size + 1) a0 1 [] (by omega) (by omega) (by omega) (by omega) (by simp)).rounds
    exact ⟨k, by unfold token_Tokens.f; rw [if_neg (by omega)]; exact hk⟩

theorem nTokens.calls (a0 : ByteArray) (r1 : List (S46)) (r2 : Int) (r3 : Int) (w : World) (h : nTokens.f a0 = some (r1, r2, r3)) :
    Calls Try.prog 15 #[.string a0] w fun e w' => ∃ v0_ : Value, e = .returned (.tuple #[v0_, .int .i64 r2, .int .i64 r3]) ∧ Kd.R k46 46 w' w.heap.size (fun _ => True) v0_ r1 ∧ Below w.heap.size w w' := by
  obtain ⟨k, hk⟩ := nTokens.ev a0 (r1, r2, r3) h
  exact token_Tokens.calls k a0 r1 r2 r3 w hk

-- NOT PRINTED: function 44 (abi_NoEscape)

-- NOT PRINTED: function 30 (strings_Builder_copyCheck)

-- NOT PRINTED: function 14 (strings_Builder_WriteString)

-- NOT PRINTED: function 16 (strings_Builder_String)

-- NOT PRINTED: function 34 (strings_Builder_WriteByte)

-- NOT PRINTED: function 35 (strings_Builder_Len)

end Go.Proofs.Ytkjikcmjcdlifaa.P
