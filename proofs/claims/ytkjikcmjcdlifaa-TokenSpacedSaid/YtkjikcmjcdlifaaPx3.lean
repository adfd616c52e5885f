/- Written by a program of this place (mk.py: the kit's print, turned). Proved here: each function of this text, called, computes what its plain function of Lean tells, wherever that tells something. -/
import Derived.Test.YtkjikcmjcdlifaaPx0
import Derived.Test.YtkjikcmjcdlifaaPx2
namespace Go.Proofs.Ytkjikcmjcdlifaa.P
open Go.RowKit Go.Proofs.YtkjikcmjcdlifaaW.PrintWords Go.Proofs.YtkjikcmjcdlifaaW.PrintLast Go.Proofs.YtkjikcmjcdlifaaW.PrintMore
attribute [local go_sem] max2_int min2_int max_two min_two max_three min_three max_four min_four   -- for this text's walks alone
set_option linter.unusedVariables false
set_option linter.unusedSimpArgs false

/-! ### token_next: function 33 -/
def token_next.f (k : Nat) (a0 : ByteArray) : Option (Int × Int × Int) := if 0 < (a0.size : Int) then ((token_letter.f (bt a0 0)).bind fun t113 => (if t113 = true then ((token_run_c46.f k a0).bind fun t114 => (if t114 > 20 then (some (0, 0, 3)) else (some (1, t114, 0)))) else ((token_digit.f (bt a0 0)).bind fun t115 => (if t115 = true then ((token_run_c47.f k a0).bind fun t116 => (if t116 > 9 then (some (0, 0, 3)) else (some (2, t116, 0)))) else (if (bt a0 0) = 34 then ((token_quoted.f k a0).bind fun bt117 => (some (3, bt117.1, bt117.2))) else ((token_pair.f k a0).bind fun t119 => (if t119 = true then (some (4, 2, 0)) else ((strings_IndexByte.f (⟨#[123, 125, 40, 41, 91, 93, 44, 59, 58, 61, 43, 45, 42, 60, 62, 33, 38, 124, 46, 63]⟩ : ByteArray) (bt a0 0)).bind fun t120 => (if t120 ≥ 0 then (some (4, 1, 0)) else (some (0, 0, 2))))))))))) else (none)
theorem token_next.mono : ∀ a0 k, LeO (token_next.f k a0) (token_next.f (k + 1) a0) := by
  intro a0 k
  unfold token_next.f
  repeat' first
      | (with_reducible exact token_pair.mono _ _)
      | (with_reducible exact token_quoted.mono _ _)
      | (with_reducible exact token_run_c46.mono _ _)
      | (with_reducible exact token_run_c47.mono _ _)
      | (with_reducible exact LeO.refl _)
      | (with_reducible exact LeO.none _)
      | (with_reducible refine LeO.ite ?_ ?_)
      | (with_reducible refine LeO.bind ?_ (fun _ => ?_))
      | exact token_pair.mono _ _
      | exact token_quoted.mono _ _
      | exact token_run_c46.mono _ _
      | exact token_run_c47.mono _ _
      | exact LeO.none _
      | refine LeO.ite ?_ ?_
      | refine LeO.bind ?_ (fun _ => ?_)
set_option maxHeartbeats 8000000 in
set_option maxRecDepth 100000 in
theorem token_next.calls (k : Nat) (a0 : ByteArray) (r1 : Int) (r2 : Int) (r3 : Int) (w : World) (h : token_next.f k a0 = some (r1, r2, r3)) :
    Calls Try.prog 33 #[.string a0] w fun e w' => e = .returned (.tuple #[.int .i64 r1, .int .i64 r2, .int .i64 r3]) ∧ Below w.heap.size w w' := by
  have HB := Aside0.mk (Below.refl w.heap.size w)
  have H : (if 0 < (a0.size : Int) then ((token_letter.f (bt a0 0)).bind fun t113 => (if t113 = true then ((token_run_c46.f k a0).bind fun t114 => (if t114 > 20 then (some (0, 0, 3)) else (some (1, t114, 0)))) else ((token_digit.f (bt a0 0)).bind fun t115 => (if t115 = true then ((token_run_c47.f k a0).bind fun t116 => (if t116 > 9 then (some (0, 0, 3)) else (some (2, t116, 0)))) else (if (bt a0 0) = 34 then ((token_quoted.f k a0).bind fun bt117 => (some (3, bt117.1, bt117.2))) else ((token_pair.f k a0).bind fun t119 => (if t119 = true then (some (4, 2, 0)) else ((strings_IndexByte.f (⟨#[123, 125, 40, 41, 91, 93, 44, 59, 58, 61, 43, 45, 42, 60, 62, 33, 38, 124, 46, 63]⟩ : ByteArray) (bt a0 0)).bind fun t120 => (if t120 ≥ 0 then (some (4, 1, 0)) else (some (0, 0, 2))))))))))) else (none)) = some (r1, r2, r3) := h
  clear h
  by_cases c2 : 0 < (a0.size : Int)
  · rw [if_pos c2] at H
    have c2b0 : decide (0 < (a0.size : Int)) = true := decide_eq_true c2
    have c2b1 : decide (0 < a0.size) = true := decide_eq_true (by omega)
    clear c2
    replace H := Option.bind_eq_some_iff.mp H
    obtain ⟨t113, A40, H⟩ := H
    replace H : (if t113 = true then ((token_run_c46.f k a0).bind fun t114 => (if t114 > 20 then (some (0, 0, 3)) else (some (1, t114, 0)))) else ((token_digit.f (bt a0 0)).bind fun t115 => (if t115 = true then ((token_run_c47.f k a0).bind fun t116 => (if t116 > 9 then (some (0, 0, 3)) else (some (2, t116, 0)))) else (if (bt a0 0) = 34 then ((token_quoted.f k a0).bind fun bt117 => (some (3, bt117.1, bt117.2))) else ((token_pair.f k a0).bind fun t119 => (if t119 = true then (some (4, 2, 0)) else ((strings_IndexByte.f (⟨#[123, 125, 40, 41, 91, 93, 44, 59, 58, 61, 43, 45, 42, 60, 62, 33, 38, 124, 46, 63]⟩ : ByteArray) (bt a0 0)).bind fun t120 => (if t120 ≥ 0 then (some (4, 1, 0)) else (some (0, 0, 2)))))))))) = some (r1, r2, r3) := H
    have A4 := Aside0.mk A40
    clear A40
    by_cases c5 : t113 = true
    · subst c5
      have H1 : ((token_run_c46.f k a0).bind fun t114 => (if t114 > 20 then (some (0, 0, 3)) else (some (1, t114, 0)))) = some (r1, r2, r3) := by rw [if_pos rfl] at H; exact H
      clear H
      have H := H1
      clear H1
      replace H := Option.bind_eq_some_iff.mp H
      obtain ⟨t114, A60, H⟩ := H
      replace H : (if t114 > 20 then (some (0, 0, 3)) else (some (1, t114, 0))) = some (r1, r2, r3) := H
      have A6 := Aside0.mk A60
      clear A60
      by_cases c7 : t114 > 20
      · rw [if_pos c7] at H
        have c7b0 : decide (20 < t114) = true := decide_eq_true c7
        clear c7
        simp only [Option.some.injEq, Prod.mk.injEq] at H
        obtain ⟨rfl, rfl, rfl⟩ := H
        have p3 : 0 ≤ (0 : Int) := (by omega)
        have q3 : 0 < a0.size := (by have : (0 : Int) < (a0.size : Int) := of_decide_eq_true (by first | (with_reducible assumption) | assumption); omega)
        have hx3 : ∀ h : 0 < a0.size, ((a0[0]'h).toNat : Int) = bt a0 0 := bt_at a0 0
        clear p3
        have qi3 : (0 < (a0.size : Int)) = True := eq_true (of_decide_eq_true (by first | (with_reducible assumption) | assumption))
        replace q3 := eq_true q3
        go_enter Try.func33, Try.ntmps33
        go_wp2_with (first | ((with_reducible refine gate_callee (f := 45) rfl ?_); refine goesL_  (some 14) rfl rfl Try.func45 (by kernel_rfl) rfl #[.int .u8 (bt a0 0)] rfl (by (try simp only [List.map_toArray, List.map_cons, List.map_nil]); first | done | rfl | (simp only [List.length_drop, List.length_take]; rfl)) ?_; (with_reducible refine (token_letter.calls (bt a0 0) true _ A4.out).mono ?_); rintro e w' ⟨rfl, ⟨nd, rfl⟩⟩; refine ⟨_, rfl, ?_⟩) | ((with_reducible refine gate_callee (f := 31) rfl ?_); refine goesL_  (some 16) rfl rfl Try.func31 (by kernel_rfl) rfl #[.string a0, .func (.func 46) #[] #[]] rfl (by (try simp only [List.map_toArray, List.map_cons, List.map_nil]); first | done | rfl | (simp only [List.length_drop, List.length_take]; rfl)) ?_; (with_reducible refine (token_run_c46.calls k a0  t114 _ A6.out).mono ?_); rintro e w' ⟨rfl, ⟨nd, rfl⟩⟩; refine ⟨_, rfl, ?_⟩))
        go_ret3
        exact ⟨by first | rfl | (simp [errW_none, errW_some] <;> rfl) | (simp [*, errW_none, errW_some] <;> rfl), by repeat (first | (with_reducible first | exact HB.out | apply below_alloc | apply pw_below_drewN | apply below_drew1) | exact HB.out)⟩
      · rw [if_neg c7] at H
        have c7b0 : decide (20 < t114) = false := decide_eq_false c7
        clear c7
        simp only [Option.some.injEq, Prod.mk.injEq] at H
        obtain ⟨rfl, rfl, rfl⟩ := H
        have p3 : 0 ≤ (0 : Int) := (by omega)
        have q3 : 0 < a0.size := (by have : (0 : Int) < (a0.size : Int) := of_decide_eq_true (by first | (with_reducible assumption) | assumption); omega)
        have hx3 : ∀ h : 0 < a0.size, ((a0[0]'h).toNat : Int) = bt a0 0 := bt_at a0 0
        clear p3
        have qi3 : (0 < (a0.size : Int)) = True := eq_true (of_decide_eq_true (by first | (with_reducible assumption) | assumption))
        replace q3 := eq_true q3
        go_enter Try.func33, Try.ntmps33
        go_wp2_with (first | ((with_reducible refine gate_callee (f := 45) rfl ?_); refine goesL_  (some 14) rfl rfl Try.func45 (by kernel_rfl) rfl #[.int .u8 (bt a0 0)] rfl (by (try simp only [List.map_toArray, List.map_cons, List.map_nil]); first | done | rfl | (simp only [List.length_drop, List.length_take]; rfl)) ?_; (with_reducible refine (token_letter.calls (bt a0 0) true _ A4.out).mono ?_); rintro e w' ⟨rfl, ⟨nd, rfl⟩⟩; refine ⟨_, rfl, ?_⟩) | ((with_reducible refine gate_callee (f := 31) rfl ?_); refine goesL_  (some 16) rfl rfl Try.func31 (by kernel_rfl) rfl #[.string a0, .func (.func 46) #[] #[]] rfl (by (try simp only [List.map_toArray, List.map_cons, List.map_nil]); first | done | rfl | (simp only [List.length_drop, List.length_take]; rfl)) ?_; (with_reducible refine (token_run_c46.calls k a0  t114 _ A6.out).mono ?_); rintro e w' ⟨rfl, ⟨nd, rfl⟩⟩; refine ⟨_, rfl, ?_⟩))
        go_ret3
        exact ⟨by first | rfl | (simp [errW_none, errW_some] <;> rfl) | (simp [*, errW_none, errW_some] <;> rfl), by repeat (first | (with_reducible first | exact HB.out | apply below_alloc | apply pw_below_drewN | apply below_drew1) | exact HB.out)⟩
    · replace c5 := Bool.eq_false_iff.mpr c5
      subst c5
      have H1 : ((token_digit.f (bt a0 0)).bind fun t115 => (if t115 = true then ((token_run_c47.f k a0).bind fun t116 => (if t116 > 9 then (some (0, 0, 3)) else (some (2, t116, 0)))) else (if (bt a0 0) = 34 then ((token_quoted.f k a0).bind fun bt117 => (some (3, bt117.1, bt117.2))) else ((token_pair.f k a0).bind fun t119 => (if t119 = true then (some (4, 2, 0)) else ((strings_IndexByte.f (⟨#[123, 125, 40, 41, 91, 93, 44, 59, 58, 61, 43, 45, 42, 60, 62, 33, 38, 124, 46, 63]⟩ : ByteArray) (bt a0 0)).bind fun t120 => (if t120 ≥ 0 then (some (4, 1, 0)) else (some (0, 0, 2))))))))) = some (r1, r2, r3) := by rw [if_neg (show ¬ (false = true) by decide)] at H; exact H
      clear H
      have H := H1
      clear H1
      replace H := Option.bind_eq_some_iff.mp H
      obtain ⟨t115, A80, H⟩ := H
      replace H : (if t115 = true then ((token_run_c47.f k a0).bind fun t116 => (if t116 > 9 then (some (0, 0, 3)) else (some (2, t116, 0)))) else (if (bt a0 0) = 34 then ((token_quoted.f k a0).bind fun bt117 => (some (3, bt117.1, bt117.2))) else ((token_pair.f k a0).bind fun t119 => (if t119 = true then (some (4, 2, 0)) else ((strings_IndexByte.f (⟨#[123, 125, 40, 41, 91, 93, 44, 59, 58, 61, 43, 45, 42, 60, 62, 33, 38, 124, 46, 63]⟩ : ByteArray) (bt a0 0)).bind fun t120 => (if t120 ≥ 0 then (some (4, 1, 0)) else (some (0, 0, 2)))))))) = some (r1, r2, r3) := H
      have A8 := Aside0.mk A80
      clear A80
      by_cases c9 : t115 = true
      · subst c9
        have H1 : ((token_run_c47.f k a0).bind fun t116 => (if t116 > 9 then (some (0, 0, 3)) else (some (2, t116, 0)))) = some (r1, r2, r3) := by rw [if_pos rfl] at H; exact H
        clear H
        have H := H1
        clear H1
        replace H := Option.bind_eq_some_iff.mp H
        obtain ⟨t116, A100, H⟩ := H
        replace H : (if t116 > 9 then (some (0, 0, 3)) else (some (2, t116, 0))) = some (r1, r2, r3) := H
        have A10 := Aside0.mk A100
        clear A100
        by_cases c11 : t116 > 9
        · rw [if_pos c11] at H
          have c11b0 : decide (9 < t116) = true := decide_eq_true c11
          clear c11
          simp only [Option.some.injEq, Prod.mk.injEq] at H
          obtain ⟨rfl, rfl, rfl⟩ := H
          have p3 : 0 ≤ (0 : Int) := (by omega)
          have q3 : 0 < a0.size := (by have : (0 : Int) < (a0.size : Int) := of_decide_eq_true (by first | (with_reducible assumption) | assumption); omega)
          have hx3 : ∀ h : 0 < a0.size, ((a0[0]'h).toNat : Int) = bt a0 0 := bt_at a0 0
          clear p3
          have qi3 : (0 < (a0.size : Int)) = True := eq_true (of_decide_eq_true (by first | (with_reducible assumption) | assumption))
          replace q3 := eq_true q3
          go_enter Try.func33, Try.ntmps33
          go_wp2_with (first | ((with_reducible refine gate_callee (f := 45) rfl ?_); refine goesL_  (some 14) rfl rfl Try.func45 (by kernel_rfl) rfl #[.int .u8 (bt a0 0)] rfl (by (try simp only [List.map_toArray, List.map_cons, List.map_nil]); first | done | rfl | (simp only [List.length_drop, List.length_take]; rfl)) ?_; (with_reducible refine (token_letter.calls (bt a0 0) false _ A4.out).mono ?_); rintro e w' ⟨rfl, ⟨nd, rfl⟩⟩; refine ⟨_, rfl, ?_⟩) | ((with_reducible refine gate_callee (f := 47) rfl ?_); refine goesL_  (some 22) rfl rfl Try.func47 (by kernel_rfl) rfl #[.int .u8 (bt a0 0)] rfl (by (try simp only [List.map_toArray, List.map_cons, List.map_nil]); first | done | rfl | (simp only [List.length_drop, List.length_take]; rfl)) ?_; (with_reducible refine (token_digit.calls (bt a0 0) true _ A8.out).mono ?_); rintro e w' ⟨rfl, ⟨nd, rfl⟩⟩; refine ⟨_, rfl, ?_⟩) | ((with_reducible refine gate_callee (f := 31) rfl ?_); refine goesL_  (some 24) rfl rfl Try.func31 (by kernel_rfl) rfl #[.string a0, .func (.func 47) #[] #[]] rfl (by (try simp only [List.map_toArray, List.map_cons, List.map_nil]); first | done | rfl | (simp only [List.length_drop, List.length_take]; rfl)) ?_; (with_reducible refine (token_run_c47.calls k a0  t116 _ A10.out).mono ?_); rintro e w' ⟨rfl, ⟨nd, rfl⟩⟩; refine ⟨_, rfl, ?_⟩))
          go_ret3
          exact ⟨by first | rfl | (simp [errW_none, errW_some] <;> rfl) | (simp [*, errW_none, errW_some] <;> rfl), by repeat (first | (with_reducible first | exact HB.out | apply below_alloc | apply pw_below_drewN | apply below_drew1) | exact HB.out)⟩
        · rw [if_neg c11] at H
          have c11b0 : decide (9 < t116) = false := decide_eq_false c11
          clear c11
          simp only [Option.some.injEq, Prod.mk.injEq] at H
          obtain ⟨rfl, rfl, rfl⟩ := H
          have p3 : 0 ≤ (0 : Int) := (by omega)
          have q3 : 0 < a0.size := (by have : (0 : Int) < (a0.size : Int) := of_decide_eq_true (by first | (with_reducible assumption) | assumption); omega)
          have hx3 : ∀ h : 0 < a0.size, ((a0[0]'h).toNat : Int) = bt a0 0 := bt_at a0 0
          clear p3
          have qi3 : (0 < (a0.size : Int)) = True := eq_true (of_decide_eq_true (by first | (with_reducible assumption) | assumption))
          replace q3 := eq_true q3
          go_enter Try.func33, Try.ntmps33
          go_wp2_with (first | ((with_reducible refine gate_callee (f := 45) rfl ?_); refine goesL_  (some 14) rfl rfl Try.func45 (by kernel_rfl) rfl #[.int .u8 (bt a0 0)] rfl (by (try simp only [List.map_toArray, List.map_cons, List.map_nil]); first | done | rfl | (simp only [List.length_drop, List.length_take]; rfl)) ?_; (with_reducible refine (token_letter.calls (bt a0 0) false _ A4.out).mono ?_); rintro e w' ⟨rfl, ⟨nd, rfl⟩⟩; refine ⟨_, rfl, ?_⟩) | ((with_reducible refine gate_callee (f := 47) rfl ?_); refine goesL_  (some 22) rfl rfl Try.func47 (by kernel_rfl) rfl #[.int .u8 (bt a0 0)] rfl (by (try simp only [List.map_toArray, List.map_cons, List.map_nil]); first | done | rfl | (simp only [List.length_drop, List.length_take]; rfl)) ?_; (with_reducible refine (token_digit.calls (bt a0 0) true _ A8.out).mono ?_); rintro e w' ⟨rfl, ⟨nd, rfl⟩⟩; refine ⟨_, rfl, ?_⟩) | ((with_reducible refine gate_callee (f := 31) rfl ?_); refine goesL_  (some 24) rfl rfl Try.func31 (by kernel_rfl) rfl #[.string a0, .func (.func 47) #[] #[]] rfl (by (try simp only [List.map_toArray, List.map_cons, List.map_nil]); first | done | rfl | (simp only [List.length_drop, List.length_take]; rfl)) ?_; (with_reducible refine (token_run_c47.calls k a0  t116 _ A10.out).mono ?_); rintro e w' ⟨rfl, ⟨nd, rfl⟩⟩; refine ⟨_, rfl, ?_⟩))
          go_ret3
          exact ⟨by first | rfl | (simp [errW_none, errW_some] <;> rfl) | (simp [*, errW_none, errW_some] <;> rfl), by repeat (first | (with_reducible first | exact HB.out | apply below_alloc | apply pw_below_drewN | apply below_drew1) | exact HB.out)⟩
      · replace c9 := Bool.eq_false_iff.mpr c9
        subst c9
        have H1 : (if (bt a0 0) = 34 then ((token_quoted.f k a0).bind fun bt117 => (some (3, bt117.1, bt117.2))) else ((token_pair.f k a0).bind fun t119 => (if t119 = true then (some (4, 2, 0)) else ((strings_IndexByte.f (⟨#[123, 125, 40, 41, 91, 93, 44, 59, 58, 61, 43, 45, 42, 60, 62, 33, 38, 124, 46, 63]⟩ : ByteArray) (bt a0 0)).bind fun t120 => (if t120 ≥ 0 then (some (4, 1, 0)) else (some (0, 0, 2))))))) = some (r1, r2, r3) := by rw [if_neg (show ¬ (false = true) by decide)] at H; exact H
        clear H
        have H := H1
        clear H1
        by_cases c12 : (bt a0 0) = 34
        · rw [if_pos c12] at H
          have c12b0 : ((bt a0 0) == 34) = true := beq_iff_eq.mpr c12
          have c12b1 : ((bt a0 0) != 34) = false := bne_eq_false_iff_eq.mpr c12
          clear c12
          replace H := Option.bind_eq_some_iff.mp H
          obtain ⟨⟨t117, t118⟩, A130, H⟩ := H
          replace H : (some (3, t117, t118)) = some (r1, r2, r3) := H
          have A13 := Aside0.mk A130
          clear A130
          simp only [Option.some.injEq, Prod.mk.injEq] at H
          obtain ⟨rfl, rfl, rfl⟩ := H
          have p3 : 0 ≤ (0 : Int) := (by omega)
          have q3 : 0 < a0.size := (by have : (0 : Int) < (a0.size : Int) := of_decide_eq_true (by first | (with_reducible assumption) | assumption); omega)
          have hx3 : ∀ h : 0 < a0.size, ((a0[0]'h).toNat : Int) = bt a0 0 := bt_at a0 0
          clear p3
          have qi3 : (0 < (a0.size : Int)) = True := eq_true (of_decide_eq_true (by first | (with_reducible assumption) | assumption))
          replace q3 := eq_true q3
          go_enter Try.func33, Try.ntmps33
          go_wp2_with (first | ((with_reducible refine gate_callee (f := 45) rfl ?_); refine goesL_  (some 14) rfl rfl Try.func45 (by kernel_rfl) rfl #[.int .u8 (bt a0 0)] rfl (by (try simp only [List.map_toArray, List.map_cons, List.map_nil]); first | done | rfl | (simp only [List.length_drop, List.length_take]; rfl)) ?_; (with_reducible refine (token_letter.calls (bt a0 0) false _ A4.out).mono ?_); rintro e w' ⟨rfl, ⟨nd, rfl⟩⟩; refine ⟨_, rfl, ?_⟩) | ((with_reducible refine gate_callee (f := 47) rfl ?_); refine goesL_  (some 22) rfl rfl Try.func47 (by kernel_rfl) rfl #[.int .u8 (bt a0 0)] rfl (by (try simp only [List.map_toArray, List.map_cons, List.map_nil]); first | done | rfl | (simp only [List.length_drop, List.length_take]; rfl)) ?_; (with_reducible refine (token_digit.calls (bt a0 0) false _ A8.out).mono ?_); rintro e w' ⟨rfl, ⟨nd, rfl⟩⟩; refine ⟨_, rfl, ?_⟩) | ((with_reducible refine gate_callee (f := 48) rfl ?_); refine goesL_  (some 33) rfl rfl Try.func48 (by kernel_rfl) rfl #[.string a0] rfl (by (try simp only [List.map_toArray, List.map_cons, List.map_nil]); first | done | rfl | (simp only [List.length_drop, List.length_take]; rfl)) ?_; (with_reducible refine (token_quoted.calls k a0 t117 t118 _ A13.out).mono ?_); rintro e w' ⟨rfl, ⟨nd, rfl⟩⟩; refine ⟨_, rfl, ?_⟩))
          go_ret3
          exact ⟨by first | rfl | (simp [errW_none, errW_some] <;> rfl) | (simp [*, errW_none, errW_some] <;> rfl), by repeat (first | (with_reducible first | exact HB.out | apply below_alloc | apply pw_below_drewN | apply below_drew1) | exact HB.out)⟩
        · rw [if_neg c12] at H
          have c12b0 : ((bt a0 0) == 34) = false := beq_eq_false_iff_ne.mpr c12
          have c12b1 : ((bt a0 0) != 34) = true := bne_iff_ne.mpr c12
          replace H := Option.bind_eq_some_iff.mp H
          obtain ⟨t119, A140, H⟩ := H
          replace H : (if t119 = true then (some (4, 2, 0)) else ((strings_IndexByte.f (⟨#[123, 125, 40, 41, 91, 93, 44, 59, 58, 61, 43, 45, 42, 60, 62, 33, 38, 124, 46, 63]⟩ : ByteArray) (bt a0 0)).bind fun t120 => (if t120 ≥ 0 then (some (4, 1, 0)) else (some (0, 0, 2))))) = some (r1, r2, r3) := H
          have A14 := Aside0.mk A140
          clear A140
          by_cases c15 : t119 = true
          · subst c15
            have H1 : (some (4, 2, 0)) = some (r1, r2, r3) := by rw [if_pos rfl] at H; exact H
            clear H
            have H := H1
            clear H1
            simp only [Option.some.injEq, Prod.mk.injEq] at H
            obtain ⟨rfl, rfl, rfl⟩ := H
            have p3 : 0 ≤ (0 : Int) := (by omega)
            have q3 : 0 < a0.size := (by have : (0 : Int) < (a0.size : Int) := of_decide_eq_true (by first | (with_reducible assumption) | assumption); omega)
            have hx3 : ∀ h : 0 < a0.size, ((a0[0]'h).toNat : Int) = bt a0 0 := bt_at a0 0
            clear p3
            have qi3 : (0 < (a0.size : Int)) = True := eq_true (of_decide_eq_true (by first | (with_reducible assumption) | assumption))
            replace q3 := eq_true q3
            go_enter Try.func33, Try.ntmps33
            go_wp2_with (first | ((with_reducible refine gate_callee (f := 45) rfl ?_); refine goesL_  (some 14) rfl rfl Try.func45 (by kernel_rfl) rfl #[.int .u8 (bt a0 0)] rfl (by (try simp only [List.map_toArray, List.map_cons, List.map_nil]); first | done | rfl | (simp only [List.length_drop, List.length_take]; rfl)) ?_; (with_reducible refine (token_letter.calls (bt a0 0) false _ A4.out).mono ?_); rintro e w' ⟨rfl, ⟨nd, rfl⟩⟩; refine ⟨_, rfl, ?_⟩) | ((with_reducible refine gate_callee (f := 47) rfl ?_); refine goesL_  (some 22) rfl rfl Try.func47 (by kernel_rfl) rfl #[.int .u8 (bt a0 0)] rfl (by (try simp only [List.map_toArray, List.map_cons, List.map_nil]); first | done | rfl | (simp only [List.length_drop, List.length_take]; rfl)) ?_; (with_reducible refine (token_digit.calls (bt a0 0) false _ A8.out).mono ?_); rintro e w' ⟨rfl, ⟨nd, rfl⟩⟩; refine ⟨_, rfl, ?_⟩) | ((with_reducible refine gate_callee (f := 49) rfl ?_); refine goesL_  (some 40) rfl rfl Try.func49 (by kernel_rfl) rfl #[.string a0] rfl (by (try simp only [List.map_toArray, List.map_cons, List.map_nil]); first | done | rfl | (simp only [List.length_drop, List.length_take]; rfl)) ?_; (with_reducible refine (token_pair.calls k a0 true _ A14.out).mono ?_); rintro e w16 ⟨rfl, hb⟩; refine ⟨_, rfl, ?_⟩; have n0_ := Aside0.mk (below_step (by repeat (first | (with_reducible first | exact HB.out | apply below_alloc | apply pw_below_drewN | apply below_drew1) | exact HB.out)) hb); clear HB; have HB := n0_; clear n0_; (try clear hb); (try clear hb2); (try clear hk); (try clear hi)))
            go_ret3
            exact ⟨by first | rfl | (simp [errW_none, errW_some] <;> rfl) | (simp [*, errW_none, errW_some] <;> rfl), by repeat (first | (with_reducible first | exact HB.out | apply below_alloc | apply pw_below_drewN | apply below_drew1) | exact HB.out)⟩
          · replace c15 := Bool.eq_false_iff.mpr c15
            subst c15
            have H1 : ((strings_IndexByte.f (⟨#[123, 125, 40, 41, 91, 93, 44, 59, 58, 61, 43, 45, 42, 60, 62, 33, 38, 124, 46, 63]⟩ : ByteArray) (bt a0 0)).bind fun t120 => (if t120 ≥ 0 then (some (4, 1, 0)) else (some (0, 0, 2)))) = some (r1, r2, r3) := by rw [if_neg (show ¬ (false = true) by decide)] at H; exact H
            clear H
            have H := H1
            clear H1
            replace H := Option.bind_eq_some_iff.mp H
            obtain ⟨t120, A170, H⟩ := H
            replace H : (if t120 ≥ 0 then (some (4, 1, 0)) else (some (0, 0, 2))) = some (r1, r2, r3) := H
            have A17 := Aside0.mk A170
            clear A170
            by_cases c18 : t120 ≥ 0
            · rw [if_pos c18] at H
              have c18b0 : decide (0 ≤ t120) = true := decide_eq_true c18
              clear c18
              simp only [Option.some.injEq, Prod.mk.injEq] at H
              obtain ⟨rfl, rfl, rfl⟩ := H
              have p3 : 0 ≤ (0 : Int) := (by omega)
              have q3 : 0 < a0.size := (by have : (0 : Int) < (a0.size : Int) := of_decide_eq_true (by first | (with_reducible assumption) | assumption); omega)
              have hx3 : ∀ h : 0 < a0.size, ((a0[0]'h).toNat : Int) = bt a0 0 := bt_at a0 0
              clear p3
              have qi3 : (0 < (a0.size : Int)) = True := eq_true (of_decide_eq_true (by first | (with_reducible assumption) | assumption))
              replace q3 := eq_true q3
              go_enter Try.func33, Try.ntmps33
              go_wp2_with (first | ((with_reducible refine gate_callee (f := 45) rfl ?_); refine goesL_  (some 14) rfl rfl Try.func45 (by kernel_rfl) rfl #[.int .u8 (bt a0 0)] rfl (by (try simp only [List.map_toArray, List.map_cons, List.map_nil]); first | done | rfl | (simp only [List.length_drop, List.length_take]; rfl)) ?_; (with_reducible refine (token_letter.calls (bt a0 0) false _ A4.out).mono ?_); rintro e w' ⟨rfl, ⟨nd, rfl⟩⟩; refine ⟨_, rfl, ?_⟩) | ((with_reducible refine gate_callee (f := 47) rfl ?_); refine goesL_  (some 22) rfl rfl Try.func47 (by kernel_rfl) rfl #[.int .u8 (bt a0 0)] rfl (by (try simp only [List.map_toArray, List.map_cons, List.map_nil]); first | done | rfl | (simp only [List.length_drop, List.length_take]; rfl)) ?_; (with_reducible refine (token_digit.calls (bt a0 0) false _ A8.out).mono ?_); rintro e w' ⟨rfl, ⟨nd, rfl⟩⟩; refine ⟨_, rfl, ?_⟩) | ((with_reducible refine gate_callee (f := 49) rfl ?_); refine goesL_  (some 40) rfl rfl Try.func49 (by kernel_rfl) rfl #[.string a0] rfl (by (try simp only [List.map_toArray, List.map_cons, List.map_nil]); first | done | rfl | (simp only [List.length_drop, List.length_take]; rfl)) ?_; (with_reducible refine (token_pair.calls k a0 false _ A14.out).mono ?_); rintro e w19 ⟨rfl, hb⟩; refine ⟨_, rfl, ?_⟩; have n0_ := Aside0.mk (below_step (by repeat (first | (with_reducible first | exact HB.out | apply below_alloc | apply pw_below_drewN | apply below_drew1) | exact HB.out)) hb); clear HB; have HB := n0_; clear n0_; (try clear hb); (try clear hb2); (try clear hk); (try clear hi)) | ((with_reducible refine gate_callee (f := 50) rfl ?_); refine goesL_  (some 43) rfl rfl Try.func50 (by kernel_rfl) rfl #[.string (⟨#[123, 125, 40, 41, 91, 93, 44, 59, 58, 61, 43, 45, 42, 60, 62, 33, 38, 124, 46, 63]⟩ : ByteArray), .int .u8 (bt a0 0)] rfl (by (try simp only [List.map_toArray, List.map_cons, List.map_nil]); first | done | rfl | (simp only [List.length_drop, List.length_take]; rfl)) ?_; (with_reducible refine (strings_IndexByte.calls (⟨#[123, 125, 40, 41, 91, 93, 44, 59, 58, 61, 43, 45, 42, 60, 62, 33, 38, 124, 46, 63]⟩ : ByteArray) (bt a0 0) t120 _ A17.out).mono ?_); rintro e w' ⟨rfl, ⟨nd, rfl⟩⟩; refine ⟨_, rfl, ?_⟩))
              go_ret3
              exact ⟨by first | rfl | (simp [errW_none, errW_some] <;> rfl) | (simp [*, errW_none, errW_some] <;> rfl), by repeat (first | (with_reducible first | exact HB.out | apply below_alloc | apply pw_below_drewN | apply below_drew1) | exact HB.out)⟩
            · rw [if_neg c18] at H
              have c18b0 : decide (0 ≤ t120) = false := decide_eq_false c18
              clear c18
              simp only [Option.some.injEq, Prod.mk.injEq] at H
              obtain ⟨rfl, rfl, rfl⟩ := H
              have p3 : 0 ≤ (0 : Int) := (by omega)
              have q3 : 0 < a0.size := (by have : (0 : Int) < (a0.size : Int) := of_decide_eq_true (by first | (with_reducible assumption) | assumption); omega)
              have hx3 : ∀ h : 0 < a0.size, ((a0[0]'h).toNat : Int) = bt a0 0 := bt_at a0 0
              clear p3
              have qi3 : (0 < (a0.size : Int)) = True := eq_true (of_decide_eq_true (by first | (with_reducible assumption) | assumption))
              replace q3 := eq_true q3
              go_enter Try.func33, Try.ntmps33
              go_wp2_with (first | ((with_reducible refine gate_callee (f := 45) rfl ?_); refine goesL_  (some 14) rfl rfl Try.func45 (by kernel_rfl) rfl #[.int .u8 (bt a0 0)] rfl (by (try simp only [List.map_toArray, List.map_cons, List.map_nil]); first | done | rfl | (simp only [List.length_drop, List.length_take]; rfl)) ?_; (with_reducible refine (token_letter.calls (bt a0 0) false _ A4.out).mono ?_); rintro e w' ⟨rfl, ⟨nd, rfl⟩⟩; refine ⟨_, rfl, ?_⟩) | ((with_reducible refine gate_callee (f := 47) rfl ?_); refine goesL_  (some 22) rfl rfl Try.func47 (by kernel_rfl) rfl #[.int .u8 (bt a0 0)] rfl (by (try simp only [List.map_toArray, List.map_cons, List.map_nil]); first | done | rfl | (simp only [List.length_drop, List.length_take]; rfl)) ?_; (with_reducible refine (token_digit.calls (bt a0 0) false _ A8.out).mono ?_); rintro e w' ⟨rfl, ⟨nd, rfl⟩⟩; refine ⟨_, rfl, ?_⟩) | ((with_reducible refine gate_callee (f := 49) rfl ?_); refine goesL_  (some 40) rfl rfl Try.func49 (by kernel_rfl) rfl #[.string a0] rfl (by (try simp only [List.map_toArray, List.map_cons, List.map_nil]); first | done | rfl | (simp only [List.length_drop, List.length_take]; rfl)) ?_; (with_reducible refine (token_pair.calls k a0 false _ A14.out).mono ?_); rintro e w20 ⟨rfl, hb⟩; refine ⟨_, rfl, ?_⟩; have n0_ := Aside0.mk (below_step (by repeat (first | (with_reducible first | exact HB.out | apply below_alloc | apply pw_below_drewN | apply below_drew1) | exact HB.out)) hb); clear HB; have HB := n0_; clear n0_; (try clear hb); (try clear hb2); (try clear hk); (try clear hi)) | ((with_reducible refine gate_callee (f := 50) rfl ?_); refine goesL_  (some 43) rfl rfl Try.func50 (by kernel_rfl) rfl #[.string (⟨#[123, 125, 40, 41, 91, 93, 44, 59, 58, 61, 43, 45, 42, 60, 62, 33, 38, 124, 46, 63]⟩ : ByteArray), .int .u8 (bt a0 0)] rfl (by (try simp only [List.map_toArray, List.map_cons, List.map_nil]); first | done | rfl | (simp only [List.length_drop, List.length_take]; rfl)) ?_; (with_reducible refine (strings_IndexByte.calls (⟨#[123, 125, 40, 41, 91, 93, 44, 59, 58, 61, 43, 45, 42, 60, 62, 33, 38, 124, 46, 63]⟩ : ByteArray) (bt a0 0) t120 _ A17.out).mono ?_); rintro e w' ⟨rfl, ⟨nd, rfl⟩⟩; refine ⟨_, rfl, ?_⟩))
              go_ret3
              exact ⟨by first | rfl | (simp [errW_none, errW_some] <;> rfl) | (simp [*, errW_none, errW_some] <;> rfl), by repeat (first | (with_reducible first | exact HB.out | apply below_alloc | apply pw_below_drewN | apply below_drew1) | exact HB.out)⟩
  · rw [if_neg c2] at H
    exact absurd H (by simp)

open Sj in
theorem letter_u8 (c : UInt8) : token_letter.f (c.toNat : Int) = some (letterB c) := by
  unfold token_letter.f letterB
  by_cases h1 : 97 ≤ c.toNat <;> by_cases h2 : c.toNat ≤ 122 <;> by_cases h3 : 65 ≤ c.toNat <;> by_cases h4 : c.toNat ≤ 90 <;>
    simp [h1, h2, h3, h4, show ((c.toNat : Int) ≥ 97) ↔ 97 ≤ c.toNat by omega, show ((c.toNat : Int) ≤ 122) ↔ c.toNat ≤ 122 by omega, show ((c.toNat : Int) ≥ 65) ↔ 65 ≤ c.toNat by omega, show ((c.toNat : Int) ≤ 90) ↔ c.toNat ≤ 90 by omega]
open Sj in
theorem digit_u8 (c : UInt8) : token_digit.f (c.toNat : Int) = some (digitB c) := by
  unfold token_digit.f digitB
  by_cases h1 : 48 ≤ c.toNat <;> by_cases h2 : c.toNat ≤ 57 <;> simp [h1, h2, show ((c.toNat : Int) ≥ 48) ↔ 48 ≤ c.toNat by omega, show ((c.toNat : Int) ≤ 57) ↔ c.toNat ≤ 57 by omega]
theorem eq_beq (c : UInt8) (n : Nat) (hn : n < 256) : ((c.toNat : Int) == (n : Int)) = (c == UInt8.ofNat n) := by
  rw [Bool.eq_iff_iff]; simp only [beq_iff_eq]; exact u8_eq c n hn
open Sj in
theorem part_u8 (c : UInt8) : token_part.f (c.toNat : Int) = some (partB c) := by
  unfold token_part.f partB
  rw [letter_u8, digit_u8]
  have e := eq_beq c 95 (by decide)
  simp only [Option.bind_some]
  cases letterB c <;> cases digitB c <;> simp
  simpa using e
open Sj in
theorem plain_u8 (c : UInt8) : token_quoted_1.f (c.toNat : Int) = some (plainB c) := by
  unfold token_quoted_1.f plainB
  have e := eq_beq c 34 (by decide)
  by_cases h1 : 32 ≤ c.toNat <;> by_cases h2 : c.toNat ≤ 126 <;> simp [h1, h2, show ((c.toNat : Int) ≥ 32) ↔ 32 ≤ c.toNat by omega, show ((c.toNat : Int) ≤ 126) ↔ c.toNat ≤ 126 by omega]
  simp only [bne]
  rw [show ((34 : Int)) = ((34 : Nat) : Int) from rfl, e]; rfl
open Sj in
theorem run46_at (s : ByteArray) (hs : okS s) (k : Nat) (hk : s.size < k) : token_run_c46.f k s = some ((runB partB (L s) : Nat) : Int) := by
  have := run_gen (lf := token_run_c46.l0) (fun k s x => rfl) part_u8 s hs s.size k 0 (by omega) (by omega) hk
  simpa [token_run_c46.f] using this
open Sj in
theorem run47_at (s : ByteArray) (hs : okS s) (k : Nat) (hk : s.size < k) : token_run_c47.f k s = some ((runB digitB (L s) : Nat) : Int) := by
  have := run_gen (lf := token_run_c47.l0) (fun k s x => rfl) digit_u8 s hs s.size k 0 (by omega) (by omega) hk
  simpa [token_run_c47.f] using this
open Sj in
theorem run57_at (s : ByteArray) (hs : okS s) (k : Nat) (hk : s.size < k) : token_run_c57.f k s = some ((runB plainB (L s) : Nat) : Int) := by
  have := run_gen (lf := token_run_c57.l0) (fun k s x => rfl) plain_u8 s hs s.size k 0 (by omega) (by omega) hk
  simpa [token_run_c57.f] using this
open Sj in
theorem quoted_at (s : ByteArray) (hs : okS s) (c : UInt8) (t : List UInt8) (hc : L s = c :: t) (k : Nat) (hk : s.size + 1 < k) :
    token_quoted.f k s = some (if t[runB plainB t]? = some 34 then (if 60 < runB plainB t then (0, 3) else (((runB plainB t + 2 : Nat) : Int), 0)) else (0, 2)) := by
  have hz := size_cons hc
  have ht : L (s.extract 1 s.size) = t := by rw [L_tail, hc]; rfl
  have hzt : (s.extract 1 s.size).size = t.length := by rw [← L_len, ht]
  have hle := runB_le plainB t
  unfold okS at hs
  obtain ⟨k, rfl⟩ : ∃ m, k = m + 1 := ⟨k - 1, by omega⟩
  unfold token_quoted.f
  rw [if_pos (by omega), run57_at _ (by unfold okS; omega) _ (by omega), ht, Option.bind_some, w64 (by omega) (by omega)]
  rcases Nat.lt_or_ge (runB plainB t) t.length with hlt | hge
  · rw [if_neg (by omega), if_pos (by omega), if_pos (by omega)]
    have hb : bt s (1 + ((runB plainB t : Nat) : Int)) = ((t[runB plainB t]).toNat : Int) := by
      have := bt_nat s (runB plainB t + 1) (by rw [hc]; simpa using hlt)
      simp only [hc, List.getElem_cons_succ] at this
      rw [← this]; congr 1; omega
    rw [hb, List.getElem?_eq_getElem hlt]
    have e : (((t[runB plainB t]).toNat : Int) != 34) = !(t[runB plainB t] == 34) := by
      have := eq_beq (t[runB plainB t]) 34 (by decide)
      simpa [bne] using this
    simp only [token_quoted.j0, e]
    by_cases h34 : t[runB plainB t] = 34
    · simp only [h34]
      by_cases h60 : 60 < runB plainB t
      · rw [if_neg (by decide), if_pos (by omega), if_pos trivial, if_pos h60]
      · rw [if_neg (by decide), if_neg (by omega), if_pos trivial, if_neg h60, w64 (by omega) (by omega)]; rfl
    · rw [if_pos (by simpa using h34), if_neg (by simpa using h34)]
  · rw [if_pos (by omega), List.getElem?_eq_none hge]
    simp [token_quoted.j0]
/-- Where a string stands in a list of strings, counted from a place on; -1. -/
def idxS (v : List UInt8) : List ByteArray → Nat → Int
  | [], _ => -1
  | x :: r, i => if v = L x then (i : Int) else idxS v r (i + 1)
theorem idxS_ge (v : List UInt8) : ∀ (l : List ByteArray) (i : Nat), (0 ≤ idxS v l i) ↔ ∃ x ∈ l, v = L x
  | [], i => by simp [idxS]
  | x :: r, i => by
    unfold idxS
    by_cases h : v = L x
    · simp [h]
    · rw [if_neg h, idxS_ge v r (i + 1)]
      simp [h]
theorem index_at (xs : List ByteArray) (v : ByteArray) (hx : xs.length ≤ 140737488355328) : ∀ (d k i : Nat), xs.length - i = d → i ≤ xs.length → d < k → slices_Index_string_string.l0 k xs v (xs.length : Int) (i : Int) = some (idxS (L v) (xs.drop i) i) := by
  intro d
  induction d with
  | zero =>
    intro k i hd hi hk
    obtain ⟨k, rfl⟩ : ∃ m, k = m + 1 := ⟨k - 1, by omega⟩
    rw [slices_Index_string_string.l0, if_neg (by omega), List.drop_of_length_le (by omega)]
    rfl
  | succ d ih =>
    intro k i hd hi hk
    obtain ⟨k, rfl⟩ : ∃ m, k = m + 1 := ⟨k - 1, by omega⟩
    have hlt : i < xs.length := by omega
    have hw : wrap64 ((i : Int) + 1) = ((i + 1 : Nat) : Int) := by rw [w64 (by omega) (by omega)]; rfl
    have hr : rdOf ByteArray.empty xs (i : Int) = xs[i] := by simp [rdOf, List.getD_eq_getElem?_getD, List.getElem?_eq_getElem hlt]
    rw [slices_Index_string_string.l0, if_pos (by omega), if_pos (by omega), if_pos (by omega), hw, hr, List.drop_eq_getElem_cons hlt, idxS, L_toList, L_toList]
    by_cases h : L v = L xs[i]
    · rw [if_pos h, if_pos h]
    · rw [if_neg h, if_neg h]
      exact ih k (i + 1) (by omega) (by omega) (by omega)
theorem contains_at (xs : List ByteArray) (v : ByteArray) (hx : xs.length ≤ 140737488355328) (k : Nat) (hk : xs.length < k) : slices_Contains_string_string.f k xs v = some (decide (∃ x ∈ xs, L v = L x)) := by
  unfold slices_Contains_string_string.f slices_Index_string_string.f
  have := index_at xs v hx xs.length k 0 (by omega) (by omega) hk
  rw [show ((0 : Nat) : Int) = 0 from rfl] at this
  rw [this, Option.bind_some, List.drop_zero]
  congr 1
  rw [decide_eq_decide]
  exact idxS_ge _ _ _
open Sj in
theorem pair_at (s : ByteArray) (k : Nat) (hk : 6 < k) : token_pair.f k s = some (decide ((L s).take 2 ∈ pairsB)) := by
  unfold token_pair.f
  by_cases h2 : (2 : Int) ≤ (s.size : Int)
  · rw [if_pos h2, if_pos h2, contains_at _ _ (by simp) _ (by simp; omega), Option.bind_some, L_head]
    congr 1
    rw [decide_eq_decide]
    simp [pairsB, L]
  · rw [if_neg h2]
    have : ((L s).take 2).length < 2 := by rw [List.length_take, L_len]; omega
    have hn : ¬ (L s).take 2 ∈ pairsB := by
      intro hm
      have : ∀ x ∈ pairsB, x.length = 2 := by decide
      have := this _ hm
      omega
    simp [hn]
theorem index_ge (c : UInt8) : ∀ l : List UInt8, (0 ≤ Lib.indexByte l c) ↔ c ∈ l
  | [] => by simp [Lib.indexByte]
  | b :: l => by
    unfold Lib.indexByte
    have ih := index_ge c l
    have hg := Lib.indexByte_ge l c
    by_cases h : b = c
    · subst h; simp
    · have hb : (b == c) = false := by simpa using h
      rw [if_neg (by simp [hb])]
      have hm : c ∈ b :: l ↔ c ∈ l := by
        rw [List.mem_cons]
        exact ⟨fun x => x.resolve_left (fun e => h e.symm), Or.inr⟩
      rw [hm, ← ih]
      by_cases h1 : Lib.indexByte l c = -1
      · simp [h1]
      · have : (Lib.indexByte l c == -1) = false := by simpa using h1
        rw [if_neg (by simp [this])]
        omega
open Sj in
/-- The token at the beginning of a text. -/
theorem next_at (s : ByteArray) (hs : okS s) (h0 : 0 < s.size) (k : Nat) (hk : s.size + 7 < k) : token_next.f k s = some ((nxt (L s)).1, (((nxt (L s)).2.1 : Nat) : Int), (nxt (L s)).2.2) := by
  obtain ⟨c, t, hc⟩ : ∃ c t, L s = c :: t := by
    cases h : L s with
    | nil => rw [L_nil] at h; omega
    | cons c t => exact ⟨c, t, rfl⟩
  have hb := bt_cons hc
  have hle := runB_le partB (L s)
  unfold token_next.f
  rw [if_pos (by omega), hb, letter_u8, Option.bind_some, run46_at s hs k (by omega), digit_u8, Option.bind_some, run47_at s hs k (by omega), quoted_at s hs c t hc k (by omega), pair_at s k (by omega)]
  simp only [Option.bind_some, strings_IndexByte.f]
  have e34 : ((c.toNat : Int) = 34) ↔ c = 34 := u8_eq c 34 (by decide)
  have eix : (Lib.indexByte (L ⟨#[123, 125, 40, 41, 91, 93, 44, 59, 58, 61, 43, 45, 42, 60, 62, 33, 38, 124, 46, 63]⟩) ((c.toNat : Int)).toNat.toUInt8 ≥ 0) ↔ c ∈ singlesB := by
    have : ((c.toNat : Int)).toNat.toUInt8 = c := by simp
    rw [this]
    exact index_ge c _
  simp only [e34, L] at eix ⊢
  simp only [eix]
  unfold nxt
  simp only [show s.data.toList = c :: t from hc]
  by_cases hl : letterB c = true
  · rw [if_pos hl, if_pos hl]
    by_cases h20 : 20 < runB partB (c :: t)
    · rw [if_pos h20, if_pos (by omega)]; rfl
    · rw [if_neg h20, if_neg (by omega)]
  · rw [if_neg hl, if_neg hl]
    by_cases hd : digitB c = true
    · rw [if_pos hd, if_pos hd]
      by_cases h9 : 9 < runB digitB (c :: t)
      · rw [if_pos h9, if_pos (by omega)]; rfl
      · rw [if_neg h9, if_neg (by omega)]
    · rw [if_neg hd, if_neg hd]
      by_cases h34 : c = 34
      · rw [if_pos h34, if_pos h34]
        by_cases hq : t[runB plainB t]? = some 34
        · rw [if_pos hq, if_pos hq]
          by_cases h60 : 60 < runB plainB t
          · rw [if_pos h60, if_pos h60]; rfl
          · rw [if_neg h60, if_neg h60]
        · rw [if_neg hq, if_neg hq]; rfl
      · rw [if_neg h34, if_neg h34]
        by_cases hp : (c :: t).take 2 ∈ pairsB
        · rw [if_pos (by rw [decide_eq_true_eq]; exact hp), if_pos hp]; rfl
        · rw [if_neg (by rw [decide_eq_true_eq]; exact hp), if_neg hp]
          by_cases hs' : c ∈ singlesB
          · rw [if_pos hs', if_pos hs']; rfl
          · rw [if_neg hs', if_neg hs']; rfl

open Sj in
def ntok_next.f (s : ByteArray) : Option (Int × Int × Int) := if 0 < s.size ∧ okS s then some ((nxt (L s)).1, (((nxt (L s)).2.1 : Nat) : Int), (nxt (L s)).2.2) else none
theorem ntok_next.ev (s : ByteArray) (r : Int × Int × Int) (h : ntok_next.f s = some r) : ∃ k, token_next.f k s = some r := by
  unfold ntok_next.f at h
  by_cases hc : 0 < s.size ∧ okS s
  · rw [if_pos hc] at h
    exact ⟨s.size + 8, (next_at s hc.2 hc.1 _ (by omega)).trans h⟩
  · rw [if_neg hc] at h
    cases h

theorem ntok_next.calls (a0 : ByteArray) (r1 : Int) (r2 : Int) (r3 : Int) (w : World) (h : ntok_next.f a0 = some (r1, r2, r3)) :
    Calls Try.prog 33 #[.string a0] w fun e w' => e = .returned (.tuple #[.int .i64 r1, .int .i64 r2, .int .i64 r3]) ∧ Below w.heap.size w w' := by
  obtain ⟨k, hk⟩ := ntok_next.ev a0 (r1, r2, r3) h
  exact token_next.calls k a0 r1 r2 r3 w hk

/-! ### token_whole: function 29 -/
def token_whole.f (a0_0 : Int) (a0_1 : ByteArray) (a0_2 : Int) : Option (ByteArray × Bool) := if a0_0 = 3 then (if 1 + a0_1.size ≤ 9223372036854775807 then (if 1 + a0_1.size + 1 ≤ 9223372036854775807 then (if (((⟨#[34]⟩ : ByteArray) ++ a0_1) ++ (⟨#[34]⟩ : ByteArray)).toList = ([] : List UInt8) then (some ((⟨#[]⟩ : ByteArray), false)) else ((ntok_next.f (((⟨#[34]⟩ : ByteArray) ++ a0_1) ++ (⟨#[34]⟩ : ByteArray))).bind fun bt122 => (if bt122.2.2 = 0 then (if bt122.1 = a0_0 then (some (((⟨#[34]⟩ : ByteArray) ++ a0_1) ++ (⟨#[34]⟩ : ByteArray), (bt122.2.1 == ((((⟨#[34]⟩ : ByteArray) ++ a0_1) ++ (⟨#[34]⟩ : ByteArray)).size : Int)))) else (some (((⟨#[34]⟩ : ByteArray) ++ a0_1) ++ (⟨#[34]⟩ : ByteArray), false))) else (some (((⟨#[34]⟩ : ByteArray) ++ a0_1) ++ (⟨#[34]⟩ : ByteArray), false))))) else (none)) else (none)) else (if a0_1.toList = ([] : List UInt8) then (some ((⟨#[]⟩ : ByteArray), false)) else ((ntok_next.f a0_1).bind fun bt125 => (if bt125.2.2 = 0 then (if bt125.1 = a0_0 then (some (a0_1, (bt125.2.1 == (a0_1.size : Int)))) else (some (a0_1, false))) else (some (a0_1, false)))))
set_option maxHeartbeats 8000000 in
set_option maxRecDepth 100000 in
theorem token_whole.calls (a0_0 : Int) (a0_1 : ByteArray) (a0_2 : Int) (r1 : ByteArray) (r2 : Bool) (w : World) (h : token_whole.f a0_0 a0_1 a0_2 = some (r1, r2)) :
    Calls Try.prog 29 #[.agg #[.int .i64 a0_0, .string a0_1, .int .i64 a0_2]] w fun e w' => e = .returned (.tuple #[.string r1, .bool r2]) ∧ Below w.heap.size w w' := by
  have hu46 := Try.underlying46
  have HB := Aside0.mk (Below.refl w.heap.size w)
  have H : (if a0_0 = 3 then (if 1 + a0_1.size ≤ 9223372036854775807 then (if 1 + a0_1.size + 1 ≤ 9223372036854775807 then (if (((⟨#[34]⟩ : ByteArray) ++ a0_1) ++ (⟨#[34]⟩ : ByteArray)).toList = ([] : List UInt8) then (some ((⟨#[]⟩ : ByteArray), false)) else ((ntok_next.f (((⟨#[34]⟩ : ByteArray) ++ a0_1) ++ (⟨#[34]⟩ : ByteArray))).bind fun bt122 => (if bt122.2.2 = 0 then (if bt122.1 = a0_0 then (some (((⟨#[34]⟩ : ByteArray) ++ a0_1) ++ (⟨#[34]⟩ : ByteArray), (bt122.2.1 == ((((⟨#[34]⟩ : ByteArray) ++ a0_1) ++ (⟨#[34]⟩ : ByteArray)).size : Int)))) else (some (((⟨#[34]⟩ : ByteArray) ++ a0_1) ++ (⟨#[34]⟩ : ByteArray), false))) else (some (((⟨#[34]⟩ : ByteArray) ++ a0_1) ++ (⟨#[34]⟩ : ByteArray), false))))) else (none)) else (none)) else (if a0_1.toList = ([] : List UInt8) then (some ((⟨#[]⟩ : ByteArray), false)) else ((ntok_next.f a0_1).bind fun bt125 => (if bt125.2.2 = 0 then (if bt125.1 = a0_0 then (some (a0_1, (bt125.2.1 == (a0_1.size : Int)))) else (some (a0_1, false))) else (some (a0_1, false)))))) = some (r1, r2) := h
  clear h
  by_cases c2 : a0_0 = 3
  · rw [if_pos c2] at H
    have c2b0 : (a0_0 == 3) = true := beq_iff_eq.mpr c2
    have c2b1 : (a0_0 != 3) = false := bne_eq_false_iff_eq.mpr c2
    clear c2
    by_cases c3 : 1 + a0_1.size ≤ 9223372036854775807
    · rw [if_pos c3] at H
      have c3b0 := eq_true c3
      have c3b1 : decide (1 + a0_1.size ≤ 9223372036854775807) = true := decide_eq_true c3
      try have c3b2 : (9223372036854775807 < 1 + a0_1.size) = False := eq_false (Nat.not_lt.2 c3)
      by_cases c4 : 1 + a0_1.size + 1 ≤ 9223372036854775807
      · rw [if_pos c4] at H
        have c4b0 := eq_true c4
        have c4b1 : decide (1 + a0_1.size + 1 ≤ 9223372036854775807) = true := decide_eq_true c4
        try have c4b2 : (9223372036854775807 < 1 + a0_1.size + 1) = False := eq_false (Nat.not_lt.2 c4)
        by_cases c5 : (((⟨#[34]⟩ : ByteArray) ++ a0_1) ++ (⟨#[34]⟩ : ByteArray)).toList = ([] : List UInt8)
        · rw [if_pos c5] at H
          have c5b0 : ((((⟨#[34]⟩ : ByteArray) ++ a0_1) ++ (⟨#[34]⟩ : ByteArray)).toList == ([] : List UInt8)) = true := beq_iff_eq.mpr c5
          have c5b1 : ((((⟨#[34]⟩ : ByteArray) ++ a0_1) ++ (⟨#[34]⟩ : ByteArray)).toList != ([] : List UInt8)) = false := bne_eq_false_iff_eq.mpr c5
          clear c5
          simp only [Option.some.injEq, Prod.mk.injEq] at H
          obtain ⟨rfl, rfl⟩ := H
          go_enter Try.func29, Try.ntmps29
          go_wp2_with (first | ((with_reducible refine gate_dst (N := 1) rfl ?_); (try (refine gate_guard (by rfl) ?_; dsimp only)); refine box_event ?hg (N := 1) ?hd (cs := #[.int .i64 a0_0, .string a0_1, .int .i64 a0_2]) (t := 46) ?hr ?_; (case hd => rfl); (case hg => rfl); (case hr => first | (go_simp; done) | (go_simp; rfl)); intro gb121 hg w6 hbox hb; have n0_ := Aside0.mk (below_step (by repeat (first | (with_reducible first | exact HB.out | apply below_alloc | apply pw_below_drewN | apply below_drew1) | exact HB.out)) hb); have n1_ := Aside0.mk (hbox); have n2_ := Aside0.mk ((by rw [hg]; exact (below_size (by repeat (first | (with_reducible first | exact HB.out | apply below_alloc | apply pw_below_drewN | apply below_drew1) | exact HB.out))) : w.heap.size ≤ gb121)); have n3_ := Aside0.mk ((by rw [hg]; exact (below_size (by repeat (first | (with_reducible first | exact HB.out | apply below_alloc | apply pw_below_drewN | apply below_drew1) | exact HB.out))) : w.heap.size ≤ gb121)); clear HB; have HB := n0_; have BK121 := n1_; have GW121 := n2_; have GE121 := n3_; clear n0_ n1_ n2_ n3_; clear hb hbox hg; have hcz7_0 : w6.cell? ⟨gb121, 0, none⟩ = some (.int .i64 a0_0) := (blk_cell BK121.out 0).trans rfl; have hcz7_1 : w6.cell? ⟨gb121, 1, none⟩ = some (.string a0_1) := (blk_cell BK121.out 1).trans rfl; have hcz7_2 : w6.cell? ⟨gb121, 2, none⟩ = some (.int .i64 a0_2) := (blk_cell BK121.out 2).trans rfl; have hfz7_0 := blk_frozen BK121.out 0; have hfz7_1 := blk_frozen BK121.out 1; have hfz7_2 := blk_frozen BK121.out 2))
          go_ret2
          exact ⟨by first | rfl | (simp [errW_none, errW_some] <;> rfl) | (simp [*, errW_none, errW_some] <;> rfl), by repeat (first | (with_reducible first | exact HB.out | apply below_alloc | apply pw_below_drewN | apply below_drew1 | refine below_set ?_ GE121.out) | exact HB.out)⟩
        · rw [if_neg c5] at H
          have c5b0 : ((((⟨#[34]⟩ : ByteArray) ++ a0_1) ++ (⟨#[34]⟩ : ByteArray)).toList == ([] : List UInt8)) = false := beq_eq_false_iff_ne.mpr c5
          have c5b1 : ((((⟨#[34]⟩ : ByteArray) ++ a0_1) ++ (⟨#[34]⟩ : ByteArray)).toList != ([] : List UInt8)) = true := bne_iff_ne.mpr c5
          replace H := Option.bind_eq_some_iff.mp H
          obtain ⟨⟨t122, t123, t124⟩, A80, H⟩ := H
          replace H : (if t124 = 0 then (if t122 = a0_0 then (some (((⟨#[34]⟩ : ByteArray) ++ a0_1) ++ (⟨#[34]⟩ : ByteArray), (t123 == ((((⟨#[34]⟩ : ByteArray) ++ a0_1) ++ (⟨#[34]⟩ : ByteArray)).size : Int)))) else (some (((⟨#[34]⟩ : ByteArray) ++ a0_1) ++ (⟨#[34]⟩ : ByteArray), false))) else (some (((⟨#[34]⟩ : ByteArray) ++ a0_1) ++ (⟨#[34]⟩ : ByteArray), false))) = some (r1, r2) := H
          have A8 := Aside0.mk A80
          clear A80
          by_cases c9 : t124 = 0
          · rw [if_pos c9] at H
            have c9b0 : (t124 == 0) = true := beq_iff_eq.mpr c9
            have c9b1 : (t124 != 0) = false := bne_eq_false_iff_eq.mpr c9
            clear c9
            by_cases c10 : t122 = a0_0
            · rw [if_pos c10] at H
              have c10b0 : (t122 == a0_0) = true := beq_iff_eq.mpr c10
              have c10b1 : (t122 != a0_0) = false := bne_eq_false_iff_eq.mpr c10
              clear c10
              simp only [Option.some.injEq, Prod.mk.injEq] at H
              obtain ⟨rfl, rfl⟩ := H
              go_enter Try.func29, Try.ntmps29
              go_wp2_with (first | ((with_reducible refine gate_dst (N := 1) rfl ?_); (try (refine gate_guard (by rfl) ?_; dsimp only)); refine box_event ?hg (N := 1) ?hd (cs := #[.int .i64 a0_0, .string a0_1, .int .i64 a0_2]) (t := 46) ?hr ?_; (case hd => rfl); (case hg => rfl); (case hr => first | (go_simp; done) | (go_simp; rfl)); intro gb121 hg w11 hbox hb; have n0_ := Aside0.mk (below_step (by repeat (first | (with_reducible first | exact HB.out | apply below_alloc | apply pw_below_drewN | apply below_drew1) | exact HB.out)) hb); have n1_ := Aside0.mk (hbox); have n2_ := Aside0.mk ((by rw [hg]; exact (below_size (by repeat (first | (with_reducible first | exact HB.out | apply below_alloc | apply pw_below_drewN | apply below_drew1) | exact HB.out))) : w.heap.size ≤ gb121)); have n3_ := Aside0.mk ((by rw [hg]; exact (below_size (by repeat (first | (with_reducible first | exact HB.out | apply below_alloc | apply pw_below_drewN | apply below_drew1) | exact HB.out))) : w.heap.size ≤ gb121)); clear HB; have HB := n0_; have BK121 := n1_; have GW121 := n2_; have GE121 := n3_; clear n0_ n1_ n2_ n3_; clear hb hbox hg; have hcz12_0 : w11.cell? ⟨gb121, 0, none⟩ = some (.int .i64 a0_0) := (blk_cell BK121.out 0).trans rfl; have hcz12_1 : w11.cell? ⟨gb121, 1, none⟩ = some (.string a0_1) := (blk_cell BK121.out 1).trans rfl; have hcz12_2 : w11.cell? ⟨gb121, 2, none⟩ = some (.int .i64 a0_2) := (blk_cell BK121.out 2).trans rfl; have hfz12_0 := blk_frozen BK121.out 0; have hfz12_1 := blk_frozen BK121.out 1; have hfz12_2 := blk_frozen BK121.out 2) | ((with_reducible refine gate_callee (f := 33) rfl ?_); refine goesL_  (some 20) rfl rfl Try.func33 (by kernel_rfl) rfl #[.string (((⟨#[34]⟩ : ByteArray) ++ a0_1) ++ (⟨#[34]⟩ : ByteArray))] rfl (by (try simp only [List.map_toArray, List.map_cons, List.map_nil]); first | done | rfl | (simp only [List.length_drop, List.length_take]; rfl)) ?_; (with_reducible refine (ntok_next.calls (((⟨#[34]⟩ : ByteArray) ++ a0_1) ++ (⟨#[34]⟩ : ByteArray)) t122 t123 t124 _ A8.out).mono ?_); rintro e w13 ⟨rfl, hb⟩; refine ⟨_, rfl, ?_⟩; have n0_ := Aside0.mk (blk_below (g := gb121) (o := .cells #[.int .i64 a0_0, .string a0_1, .int .i64 a0_2] 46 (0, 0)) (by (with_reducible repeat (first | refine blk_drewN ?_ _ | refine blk_drew ?_ | refine blk_alloc ?_ _)); exact BK121.out) hb); have n1_ := Aside0.mk (below_step (by repeat (first | (with_reducible first | exact HB.out | apply below_alloc | apply pw_below_drewN | apply below_drew1 | refine below_set ?_ GE121.out) | exact HB.out)) hb); clear BK121; clear HB; have BK121 := n0_; have HB := n1_; clear n0_ n1_; (try clear hb); (try clear hb2); (try clear hk); (try clear hi); have hcz14_0 : w13.cell? ⟨gb121, 0, none⟩ = some (.int .i64 a0_0) := (blk_cell BK121.out 0).trans rfl; have hcz14_1 : w13.cell? ⟨gb121, 1, none⟩ = some (.string a0_1) := (blk_cell BK121.out 1).trans rfl; have hcz14_2 : w13.cell? ⟨gb121, 2, none⟩ = some (.int .i64 a0_2) := (blk_cell BK121.out 2).trans rfl; have hfz14_0 := blk_frozen BK121.out 0; have hfz14_1 := blk_frozen BK121.out 1; have hfz14_2 := blk_frozen BK121.out 2))
              go_ret2
              exact ⟨by first | rfl | (simp [errW_none, errW_some] <;> rfl) | (simp [*, errW_none, errW_some] <;> rfl), by repeat (first | (with_reducible first | exact HB.out | apply below_alloc | apply pw_below_drewN | apply below_drew1 | refine below_set ?_ GE121.out) | exact HB.out)⟩
            · rw [if_neg c10] at H
              have c10b0 : (t122 == a0_0) = false := beq_eq_false_iff_ne.mpr c10
              have c10b1 : (t122 != a0_0) = true := bne_iff_ne.mpr c10
              simp only [Option.some.injEq, Prod.mk.injEq] at H
              obtain ⟨rfl, rfl⟩ := H
              go_enter Try.func29, Try.ntmps29
              go_wp2_with (first | ((with_reducible refine gate_dst (N := 1) rfl ?_); (try (refine gate_guard (by rfl) ?_; dsimp only)); refine box_event ?hg (N := 1) ?hd (cs := #[.int .i64 a0_0, .string a0_1, .int .i64 a0_2]) (t := 46) ?hr ?_; (case hd => rfl); (case hg => rfl); (case hr => first | (go_simp; done) | (go_simp; rfl)); intro gb121 hg w15 hbox hb; have n0_ := Aside0.mk (below_step (by repeat (first | (with_reducible first | exact HB.out | apply below_alloc | apply pw_below_drewN | apply below_drew1) | exact HB.out)) hb); have n1_ := Aside0.mk (hbox); have n2_ := Aside0.mk ((by rw [hg]; exact (below_size (by repeat (first | (with_reducible first | exact HB.out | apply below_alloc | apply pw_below_drewN | apply below_drew1) | exact HB.out))) : w.heap.size ≤ gb121)); have n3_ := Aside0.mk ((by rw [hg]; exact (below_size (by repeat (first | (with_reducible first | exact HB.out | apply below_alloc | apply pw_below_drewN | apply below_drew1) | exact HB.out))) : w.heap.size ≤ gb121)); clear HB; have HB := n0_; have BK121 := n1_; have GW121 := n2_; have GE121 := n3_; clear n0_ n1_ n2_ n3_; clear hb hbox hg; have hcz16_0 : w15.cell? ⟨gb121, 0, none⟩ = some (.int .i64 a0_0) := (blk_cell BK121.out 0).trans rfl; have hcz16_1 : w15.cell? ⟨gb121, 1, none⟩ = some (.string a0_1) := (blk_cell BK121.out 1).trans rfl; have hcz16_2 : w15.cell? ⟨gb121, 2, none⟩ = some (.int .i64 a0_2) := (blk_cell BK121.out 2).trans rfl; have hfz16_0 := blk_frozen BK121.out 0; have hfz16_1 := blk_frozen BK121.out 1; have hfz16_2 := blk_frozen BK121.out 2) | ((with_reducible refine gate_callee (f := 33) rfl ?_); refine goesL_  (some 20) rfl rfl Try.func33 (by kernel_rfl) rfl #[.string (((⟨#[34]⟩ : ByteArray) ++ a0_1) ++ (⟨#[34]⟩ : ByteArray))] rfl (by (try simp only [List.map_toArray, List.map_cons, List.map_nil]); first | done | rfl | (simp only [List.length_drop, List.length_take]; rfl)) ?_; (with_reducible refine (ntok_next.calls (((⟨#[34]⟩ : ByteArray) ++ a0_1) ++ (⟨#[34]⟩ : ByteArray)) t122 t123 t124 _ A8.out).mono ?_); rintro e w17 ⟨rfl, hb⟩; refine ⟨_, rfl, ?_⟩; have n0_ := Aside0.mk (blk_below (g := gb121) (o := .cells #[.int .i64 a0_0, .string a0_1, .int .i64 a0_2] 46 (0, 0)) (by (with_reducible repeat (first | refine blk_drewN ?_ _ | refine blk_drew ?_ | refine blk_alloc ?_ _)); exact BK121.out) hb); have n1_ := Aside0.mk (below_step (by repeat (first | (with_reducible first | exact HB.out | apply below_alloc | apply pw_below_drewN | apply below_drew1 | refine below_set ?_ GE121.out) | exact HB.out)) hb); clear BK121; clear HB; have BK121 := n0_; have HB := n1_; clear n0_ n1_; (try clear hb); (try clear hb2); (try clear hk); (try clear hi); have hcz18_0 : w17.cell? ⟨gb121, 0, none⟩ = some (.int .i64 a0_0) := (blk_cell BK121.out 0).trans rfl; have hcz18_1 : w17.cell? ⟨gb121, 1, none⟩ = some (.string a0_1) := (blk_cell BK121.out 1).trans rfl; have hcz18_2 : w17.cell? ⟨gb121, 2, none⟩ = some (.int .i64 a0_2) := (blk_cell BK121.out 2).trans rfl; have hfz18_0 := blk_frozen BK121.out 0; have hfz18_1 := blk_frozen BK121.out 1; have hfz18_2 := blk_frozen BK121.out 2))
              go_ret2
              exact ⟨by first | rfl | (simp [errW_none, errW_some] <;> rfl) | (simp [*, errW_none, errW_some] <;> rfl), by repeat (first | (with_reducible first | exact HB.out | apply below_alloc | apply pw_below_drewN | apply below_drew1 | refine below_set ?_ GE121.out) | exact HB.out)⟩
          · rw [if_neg c9] at H
            have c9b0 : (t124 == 0) = false := beq_eq_false_iff_ne.mpr c9
            have c9b1 : (t124 != 0) = true := bne_iff_ne.mpr c9
            simp only [Option.some.injEq, Prod.mk.injEq] at H
            obtain ⟨rfl, rfl⟩ := H
            go_enter Try.func29, Try.ntmps29
            go_wp2_with (first | ((with_reducible refine gate_dst (N := 1) rfl ?_); (try (refine gate_guard (by rfl) ?_; dsimp only)); refine box_event ?hg (N := 1) ?hd (cs := #[.int .i64 a0_0, .string a0_1, .int .i64 a0_2]) (t := 46) ?hr ?_; (case hd => rfl); (case hg => rfl); (case hr => first | (go_simp; done) | (go_simp; rfl)); intro gb121 hg w19 hbox hb; have n0_ := Aside0.mk (below_step (by repeat (first | (with_reducible first | exact HB.out | apply below_alloc | apply pw_below_drewN | apply below_drew1) | exact HB.out)) hb); have n1_ := Aside0.mk (hbox); have n2_ := Aside0.mk ((by rw [hg]; exact (below_size (by repeat (first | (with_reducible first | exact HB.out | apply below_alloc | apply pw_below_drewN | apply below_drew1) | exact HB.out))) : w.heap.size ≤ gb121)); have n3_ := Aside0.mk ((by rw [hg]; exact (below_size (by repeat (first | (with_reducible first | exact HB.out | apply below_alloc | apply pw_below_drewN | apply below_drew1) | exact HB.out))) : w.heap.size ≤ gb121)); clear HB; have HB := n0_; have BK121 := n1_; have GW121 := n2_; have GE121 := n3_; clear n0_ n1_ n2_ n3_; clear hb hbox hg; have hcz20_0 : w19.cell? ⟨gb121, 0, none⟩ = some (.int .i64 a0_0) := (blk_cell BK121.out 0).trans rfl; have hcz20_1 : w19.cell? ⟨gb121, 1, none⟩ = some (.string a0_1) := (blk_cell BK121.out 1).trans rfl; have hcz20_2 : w19.cell? ⟨gb121, 2, none⟩ = some (.int .i64 a0_2) := (blk_cell BK121.out 2).trans rfl; have hfz20_0 := blk_frozen BK121.out 0; have hfz20_1 := blk_frozen BK121.out 1; have hfz20_2 := blk_frozen BK121.out 2) | ((with_reducible refine gate_callee (f := 33) rfl ?_); refine goesL_  (some 20) rfl rfl Try.func33 (by kernel_rfl) rfl #[.string (((⟨#[34]⟩ : ByteArray) ++ a0_1) ++ (⟨#[34]⟩ : ByteArray))] rfl (by (try simp only [List.map_toArray, List.map_cons, List.map_nil]); first | done | rfl | (simp only [List.length_drop, List.length_take]; rfl)) ?_; (with_reducible refine (ntok_next.calls (((⟨#[34]⟩ : ByteArray) ++ a0_1) ++ (⟨#[34]⟩ : ByteArray)) t122 t123 t124 _ A8.out).mono ?_); rintro e w21 ⟨rfl, hb⟩; refine ⟨_, rfl, ?_⟩; have n0_ := Aside0.mk (blk_below (g := gb121) (o := .cells #[.int .i64 a0_0, .string a0_1, .int .i64 a0_2] 46 (0, 0)) (by (with_reducible repeat (first | refine blk_drewN ?_ _ | refine blk_drew ?_ | refine blk_alloc ?_ _)); exact BK121.out) hb); have n1_ := Aside0.mk (below_step (by repeat (first | (with_reducible first | exact HB.out | apply below_alloc | apply pw_below_drewN | apply below_drew1 | refine below_set ?_ GE121.out) | exact HB.out)) hb); clear BK121; clear HB; have BK121 := n0_; have HB := n1_; clear n0_ n1_; (try clear hb); (try clear hb2); (try clear hk); (try clear hi)))
            go_ret2
            exact ⟨by first | rfl | (simp [errW_none, errW_some] <;> rfl) | (simp [*, errW_none, errW_some] <;> rfl), by repeat (first | (with_reducible first | exact HB.out | apply below_alloc | apply pw_below_drewN | apply below_drew1 | refine below_set ?_ GE121.out) | exact HB.out)⟩
      · rw [if_neg c4] at H
        exact absurd H (by simp)
    · rw [if_neg c3] at H
      exact absurd H (by simp)
  · rw [if_neg c2] at H
    have c2b0 : (a0_0 == 3) = false := beq_eq_false_iff_ne.mpr c2
    have c2b1 : (a0_0 != 3) = true := bne_iff_ne.mpr c2
    by_cases c22 : a0_1.toList = ([] : List UInt8)
    · rw [if_pos c22] at H
      have c22b0 : (a0_1.toList == ([] : List UInt8)) = true := beq_iff_eq.mpr c22
      have c22b1 : (a0_1.toList != ([] : List UInt8)) = false := bne_eq_false_iff_eq.mpr c22
      clear c22
      simp only [Option.some.injEq, Prod.mk.injEq] at H
      obtain ⟨rfl, rfl⟩ := H
      go_enter Try.func29, Try.ntmps29
      go_wp2_with (first | ((with_reducible refine gate_dst (N := 1) rfl ?_); (try (refine gate_guard (by rfl) ?_; dsimp only)); refine box_event ?hg (N := 1) ?hd (cs := #[.int .i64 a0_0, .string a0_1, .int .i64 a0_2]) (t := 46) ?hr ?_; (case hd => rfl); (case hg => rfl); (case hr => first | (go_simp; done) | (go_simp; rfl)); intro gb121 hg w23 hbox hb; have n0_ := Aside0.mk (below_step (by repeat (first | (with_reducible first | exact HB.out | apply below_alloc | apply pw_below_drewN | apply below_drew1) | exact HB.out)) hb); have n1_ := Aside0.mk (hbox); have n2_ := Aside0.mk ((by rw [hg]; exact (below_size (by repeat (first | (with_reducible first | exact HB.out | apply below_alloc | apply pw_below_drewN | apply below_drew1) | exact HB.out))) : w.heap.size ≤ gb121)); have n3_ := Aside0.mk ((by rw [hg]; exact (below_size (by repeat (first | (with_reducible first | exact HB.out | apply below_alloc | apply pw_below_drewN | apply below_drew1) | exact HB.out))) : w.heap.size ≤ gb121)); clear HB; have HB := n0_; have BK121 := n1_; have GW121 := n2_; have GE121 := n3_; clear n0_ n1_ n2_ n3_; clear hb hbox hg; have hcz24_0 : w23.cell? ⟨gb121, 0, none⟩ = some (.int .i64 a0_0) := (blk_cell BK121.out 0).trans rfl; have hcz24_1 : w23.cell? ⟨gb121, 1, none⟩ = some (.string a0_1) := (blk_cell BK121.out 1).trans rfl; have hcz24_2 : w23.cell? ⟨gb121, 2, none⟩ = some (.int .i64 a0_2) := (blk_cell BK121.out 2).trans rfl; have hfz24_0 := blk_frozen BK121.out 0; have hfz24_1 := blk_frozen BK121.out 1; have hfz24_2 := blk_frozen BK121.out 2))
      go_ret2
      exact ⟨by first | rfl | (simp [errW_none, errW_some] <;> rfl) | (simp [*, errW_none, errW_some] <;> rfl), by repeat (first | (with_reducible first | exact HB.out | apply below_alloc | apply pw_below_drewN | apply below_drew1 | refine below_set ?_ GE121.out) | exact HB.out)⟩
    · rw [if_neg c22] at H
      have c22b0 : (a0_1.toList == ([] : List UInt8)) = false := beq_eq_false_iff_ne.mpr c22
      have c22b1 : (a0_1.toList != ([] : List UInt8)) = true := bne_iff_ne.mpr c22
      replace H := Option.bind_eq_some_iff.mp H
      obtain ⟨⟨t125, t126, t127⟩, A250, H⟩ := H
      replace H : (if t127 = 0 then (if t125 = a0_0 then (some (a0_1, (t126 == (a0_1.size : Int)))) else (some (a0_1, false))) else (some (a0_1, false))) = some (r1, r2) := H
      have A25 := Aside0.mk A250
      clear A250
      by_cases c26 : t127 = 0
      · rw [if_pos c26] at H
        have c26b0 : (t127 == 0) = true := beq_iff_eq.mpr c26
        have c26b1 : (t127 != 0) = false := bne_eq_false_iff_eq.mpr c26
        clear c26
        by_cases c27 : t125 = a0_0
        · rw [if_pos c27] at H
          have c27b0 : (t125 == a0_0) = true := beq_iff_eq.mpr c27
          have c27b1 : (t125 != a0_0) = false := bne_eq_false_iff_eq.mpr c27
          clear c27
          simp only [Option.some.injEq, Prod.mk.injEq] at H
          obtain ⟨rfl, rfl⟩ := H
          go_enter Try.func29, Try.ntmps29
          go_wp2_with (first | ((with_reducible refine gate_dst (N := 1) rfl ?_); (try (refine gate_guard (by rfl) ?_; dsimp only)); refine box_event ?hg (N := 1) ?hd (cs := #[.int .i64 a0_0, .string a0_1, .int .i64 a0_2]) (t := 46) ?hr ?_; (case hd => rfl); (case hg => rfl); (case hr => first | (go_simp; done) | (go_simp; rfl)); intro gb121 hg w28 hbox hb; have n0_ := Aside0.mk (below_step (by repeat (first | (with_reducible first | exact HB.out | apply below_alloc | apply pw_below_drewN | apply below_drew1) | exact HB.out)) hb); have n1_ := Aside0.mk (hbox); have n2_ := Aside0.mk ((by rw [hg]; exact (below_size (by repeat (first | (with_reducible first | exact HB.out | apply below_alloc | apply pw_below_drewN | apply below_drew1) | exact HB.out))) : w.heap.size ≤ gb121)); have n3_ := Aside0.mk ((by rw [hg]; exact (below_size (by repeat (first | (with_reducible first | exact HB.out | apply below_alloc | apply pw_below_drewN | apply below_drew1) | exact HB.out))) : w.heap.size ≤ gb121)); clear HB; have HB := n0_; have BK121 := n1_; have GW121 := n2_; have GE121 := n3_; clear n0_ n1_ n2_ n3_; clear hb hbox hg; have hcz29_0 : w28.cell? ⟨gb121, 0, none⟩ = some (.int .i64 a0_0) := (blk_cell BK121.out 0).trans rfl; have hcz29_1 : w28.cell? ⟨gb121, 1, none⟩ = some (.string a0_1) := (blk_cell BK121.out 1).trans rfl; have hcz29_2 : w28.cell? ⟨gb121, 2, none⟩ = some (.int .i64 a0_2) := (blk_cell BK121.out 2).trans rfl; have hfz29_0 := blk_frozen BK121.out 0; have hfz29_1 := blk_frozen BK121.out 1; have hfz29_2 := blk_frozen BK121.out 2) | ((with_reducible refine gate_callee (f := 33) rfl ?_); refine goesL_  (some 20) rfl rfl Try.func33 (by kernel_rfl) rfl #[.string a0_1] rfl (by (try simp only [List.map_toArray, List.map_cons, List.map_nil]); first | done | rfl | (simp only [List.length_drop, List.length_take]; rfl)) ?_; (with_reducible refine (ntok_next.calls a0_1 t125 t126 t127 _ A25.out).mono ?_); rintro e w30 ⟨rfl, hb⟩; refine ⟨_, rfl, ?_⟩; have n0_ := Aside0.mk (blk_below (g := gb121) (o := .cells #[.int .i64 a0_0, .string a0_1, .int .i64 a0_2] 46 (0, 0)) (by (with_reducible repeat (first | refine blk_drewN ?_ _ | refine blk_drew ?_ | refine blk_alloc ?_ _)); exact BK121.out) hb); have n1_ := Aside0.mk (below_step (by repeat (first | (with_reducible first | exact HB.out | apply below_alloc | apply pw_below_drewN | apply below_drew1 | refine below_set ?_ GE121.out) | exact HB.out)) hb); clear BK121; clear HB; have BK121 := n0_; have HB := n1_; clear n0_ n1_; (try clear hb); (try clear hb2); (try clear hk); (try clear hi); have hcz31_0 : w30.cell? ⟨gb121, 0, none⟩ = some (.int .i64 a0_0) := (blk_cell BK121.out 0).trans rfl; have hcz31_1 : w30.cell? ⟨gb121, 1, none⟩ = some (.string a0_1) := (blk_cell BK121.out 1).trans rfl; have hcz31_2 : w30.cell? ⟨gb121, 2, none⟩ = some (.int .i64 a0_2) := (blk_cell BK121.out 2).trans rfl; have hfz31_0 := blk_frozen BK121.out 0; have hfz31_1 := blk_frozen BK121.out 1; have hfz31_2 := blk_frozen BK121.out 2))
          go_ret2
          exact ⟨by first | rfl | (simp [errW_none, errW_some] <;> rfl) | (simp [*, errW_none, errW_some] <;> rfl), by repeat (first | (with_reducible first | exact HB.out | apply below_alloc | apply pw_below_drewN | apply below_drew1 | refine below_set ?_ GE121.out) | exact HB.out)⟩
        · rw [if_neg c27] at H
          have c27b0 : (t125 == a0_0) = false := beq_eq_false_iff_ne.mpr c27
          have c27b1 : (t125 != a0_0) = true := bne_iff_ne.mpr c27
          simp only [Option.some.injEq, Prod.mk.injEq] at H
          obtain ⟨rfl, rfl⟩ := H
          go_enter Try.func29, Try.ntmps29
          go_wp2_with (first | ((with_reducible refine gate_dst (N := 1) rfl ?_); (try (refine gate_guard (by rfl) ?_; dsimp only)); refine box_event ?hg (N := 1) ?hd (cs := #[.int .i64 a0_0, .string a0_1, .int .i64 a0_2]) (t := 46) ?hr ?_; (case hd => rfl); (case hg => rfl); (case hr => first | (go_simp; done) | (go_simp; rfl)); intro gb121 hg w32 hbox hb; have n0_ := Aside0.mk (below_step (by repeat (first | (with_reducible first | exact HB.out | apply below_alloc | apply pw_below_drewN | apply below_drew1) | exact HB.out)) hb); have n1_ := Aside0.mk (hbox); have n2_ := Aside0.mk ((by rw [hg]; exact (below_size (by repeat (first | (with_reducible first | exact HB.out | apply below_alloc | apply pw_below_drewN | apply below_drew1) | exact HB.out))) : w.heap.size ≤ gb121)); have n3_ := Aside0.mk ((by rw [hg]; exact (below_size (by repeat (first | (with_reducible first | exact HB.out | apply below_alloc | apply pw_below_drewN | apply below_drew1) | exact HB.out))) : w.heap.size ≤ gb121)); clear HB; have HB := n0_; have BK121 := n1_; have GW121 := n2_; have GE121 := n3_; clear n0_ n1_ n2_ n3_; clear hb hbox hg; have hcz33_0 : w32.cell? ⟨gb121, 0, none⟩ = some (.int .i64 a0_0) := (blk_cell BK121.out 0).trans rfl; have hcz33_1 : w32.cell? ⟨gb121, 1, none⟩ = some (.string a0_1) := (blk_cell BK121.out 1).trans rfl; have hcz33_2 : w32.cell? ⟨gb121, 2, none⟩ = some (.int .i64 a0_2) := (blk_cell BK121.out 2).trans rfl; have hfz33_0 := blk_frozen BK121.out 0; have hfz33_1 := blk_frozen BK121.out 1; have hfz33_2 := blk_frozen BK121.out 2) | ((with_reducible refine gate_callee (f := 33) rfl ?_); refine goesL_  (some 20) rfl rfl Try.func33 (by kernel_rfl) rfl #[.string a0_1] rfl (by (try simp only [List.map_toArray, List.map_cons, List.map_nil]); first | done | rfl | (simp only [List.length_drop, List.length_take]; rfl)) ?_; (with_reducible refine (ntok_next.calls a0_1 t125 t126 t127 _ A25.out).mono ?_); rintro e w34 ⟨rfl, hb⟩; refine ⟨_, rfl, ?_⟩; have n0_ := Aside0.mk (blk_below (g := gb121) (o := .cells #[.int .i64 a0_0, .string a0_1, .int .i64 a0_2] 46 (0, 0)) (by (with_reducible repeat (first | refine blk_drewN ?_ _ | refine blk_drew ?_ | refine blk_alloc ?_ _)); exact BK121.out) hb); have n1_ := Aside0.mk (below_step (by repeat (first | (with_reducible first | exact HB.out | apply below_alloc | apply pw_below_drewN | apply below_drew1 | refine below_set ?_ GE121.out) | exact HB.out)) hb); clear BK121; clear HB; have BK121 := n0_; have HB := n1_; clear n0_ n1_; (try clear hb); (try clear hb2); (try clear hk); (try clear hi); have hcz35_0 : w34.cell? ⟨gb121, 0, none⟩ = some (.int .i64 a0_0) := (blk_cell BK121.out 0).trans rfl; have hcz35_1 : w34.cell? ⟨gb121, 1, none⟩ = some (.string a0_1) := (blk_cell BK121.out 1).trans rfl; have hcz35_2 : w34.cell? ⟨gb121, 2, none⟩ = some (.int .i64 a0_2) := (blk_cell BK121.out 2).trans rfl; have hfz35_0 := blk_frozen BK121.out 0; have hfz35_1 := blk_frozen BK121.out 1; have hfz35_2 := blk_frozen BK121.out 2))
          go_ret2
          exact ⟨by first | rfl | (simp [errW_none, errW_some] <;> rfl) | (simp [*, errW_none, errW_some] <;> rfl), by repeat (first | (with_reducible first | exact HB.out | apply below_alloc | apply pw_below_drewN | apply below_drew1 | refine below_set ?_ GE121.out) | exact HB.out)⟩
      · rw [if_neg c26] at H
        have c26b0 : (t127 == 0) = false := beq_eq_false_iff_ne.mpr c26
        have c26b1 : (t127 != 0) = true := bne_iff_ne.mpr c26
        simp only [Option.some.injEq, Prod.mk.injEq] at H
        obtain ⟨rfl, rfl⟩ := H
        go_enter Try.func29, Try.ntmps29
        go_wp2_with (first | ((with_reducible refine gate_dst (N := 1) rfl ?_); (try (refine gate_guard (by rfl) ?_; dsimp only)); refine box_event ?hg (N := 1) ?hd (cs := #[.int .i64 a0_0, .string a0_1, .int .i64 a0_2]) (t := 46) ?hr ?_; (case hd => rfl); (case hg => rfl); (case hr => first | (go_simp; done) | (go_simp; rfl)); intro gb121 hg w36 hbox hb; have n0_ := Aside0.mk (below_step (by repeat (first | (with_reducible first | exact HB.out | apply below_alloc | apply pw_below_drewN | apply below_drew1) | exact HB.out)) hb); have n1_ := Aside0.mk (hbox); have n2_ := Aside0.mk ((by rw [hg]; exact (below_size (by repeat (first | (with_reducible first | exact HB.out | apply below_alloc | apply pw_below_drewN | apply below_drew1) | exact HB.out))) : w.heap.size ≤ gb121)); have n3_ := Aside0.mk ((by rw [hg]; exact (below_size (by repeat (first | (with_reducible first | exact HB.out | apply below_alloc | apply pw_below_drewN | apply below_drew1) | exact HB.out))) : w.heap.size ≤ gb121)); clear HB; have HB := n0_; have BK121 := n1_; have GW121 := n2_; have GE121 := n3_; clear n0_ n1_ n2_ n3_; clear hb hbox hg; have hcz37_0 : w36.cell? ⟨gb121, 0, none⟩ = some (.int .i64 a0_0) := (blk_cell BK121.out 0).trans rfl; have hcz37_1 : w36.cell? ⟨gb121, 1, none⟩ = some (.string a0_1) := (blk_cell BK121.out 1).trans rfl; have hcz37_2 : w36.cell? ⟨gb121, 2, none⟩ = some (.int .i64 a0_2) := (blk_cell BK121.out 2).trans rfl; have hfz37_0 := blk_frozen BK121.out 0; have hfz37_1 := blk_frozen BK121.out 1; have hfz37_2 := blk_frozen BK121.out 2) | ((with_reducible refine gate_callee (f := 33) rfl ?_); refine goesL_  (some 20) rfl rfl Try.func33 (by kernel_rfl) rfl #[.string a0_1] rfl (by (try simp only [List.map_toArray, List.map_cons, List.map_nil]); first | done | rfl | (simp only [List.length_drop, List.length_take]; rfl)) ?_; (with_reducible refine (ntok_next.calls a0_1 t125 t126 t127 _ A25.out).mono ?_); rintro e w38 ⟨rfl, hb⟩; refine ⟨_, rfl, ?_⟩; have n0_ := Aside0.mk (blk_below (g := gb121) (o := .cells #[.int .i64 a0_0, .string a0_1, .int .i64 a0_2] 46 (0, 0)) (by (with_reducible repeat (first | refine blk_drewN ?_ _ | refine blk_drew ?_ | refine blk_alloc ?_ _)); exact BK121.out) hb); have n1_ := Aside0.mk (below_step (by repeat (first | (with_reducible first | exact HB.out | apply below_alloc | apply pw_below_drewN | apply below_drew1 | refine below_set ?_ GE121.out) | exact HB.out)) hb); clear BK121; clear HB; have BK121 := n0_; have HB := n1_; clear n0_ n1_; (try clear hb); (try clear hb2); (try clear hk); (try clear hi)))
        go_ret2
        exact ⟨by first | rfl | (simp [errW_none, errW_some] <;> rfl) | (simp [*, errW_none, errW_some] <;> rfl), by repeat (first | (with_reducible first | exact HB.out | apply below_alloc | apply pw_below_drewN | apply below_drew1 | refine below_set ?_ GE121.out) | exact HB.out)⟩

def okT (s : ByteArray) : Prop := s.size ≤ 140737488355000
instance (s : ByteArray) : Decidable (okT s) := inferInstanceAs (Decidable (_ ≤ _))
open Sj in
theorem quo_L3 (s : ByteArray) : L (((⟨#[34]⟩ : ByteArray) ++ s) ++ (⟨#[34]⟩ : ByteArray)) = quo 3 (L s) := by
  rw [L_append, L_append]; simp [quo, L]
open Sj in
theorem quo_Lne (k : Int) (hk : ¬ k = 3) (s : ByteArray) : L s = quo k (L s) := by simp [quo, hk]
theorem of_eq {s : ByteArray} {l : List UInt8} (h : L s = l) : s = ⟨l.toArray⟩ := by rw [← h]
open Sj in
def nwhole.f (a0_0 : Int) (a0_1 : ByteArray) (a0_2 : Int) : Option (ByteArray × Bool) :=
  if okT a0_1 then some (⟨(quo a0_0 (L a0_1)).toArray⟩, right a0_0 (L a0_1)) else none
open Sj in
theorem whole_core (k : Int) (q : ByteArray) (hq : okS q) :
    (if q.toList = ([] : List UInt8) then (some ((⟨#[]⟩ : ByteArray), false)) else ((ntok_next.f q).bind fun bt122 => (if bt122.2.2 = 0 then (if bt122.1 = k then (some (q, (bt122.2.1 == (q.size : Int)))) else (some (q, false))) else (some (q, false)))))
      = some (q, decide (L q ≠ []) && decide (nxt (L q) = (k, (L q).length, 0))) := by
  rw [L_toList]
  by_cases h0 : L q = []
  · rw [if_pos h0]
    have : q = ⟨#[]⟩ := L_inj h0
    rw [this]
    rfl
  · have hz : 0 < q.size := by rw [← L_len]; exact List.length_pos_iff.2 h0
    rw [if_neg h0, ntok_next.f, if_pos ⟨hz, hq⟩, Option.bind_some]
    simp only [h0, ne_eq, not_false_eq_true, decide_true, Bool.true_and]
    rcases nxt (L q) with ⟨a, b, c⟩
    simp only
    by_cases hc : c = 0
    · rw [if_pos hc]
      by_cases ha : a = k
      · rw [if_pos ha]
        congr 2
        rw [Bool.eq_iff_iff, beq_iff_eq, decide_eq_true_eq, ← L_len, hc, ha]
        simp only [Prod.mk.injEq, true_and, and_true]
        omega
      · rw [if_neg ha]; simp [ha]
    · rw [if_neg hc]; simp [hc]
open Sj in
theorem nwhole.ev (a0_0 : Int) (a0_1 : ByteArray) (a0_2 : Int) (r : ByteArray × Bool) (h : nwhole.f a0_0 a0_1 a0_2 = some r) : token_whole.f a0_0 a0_1 a0_2 = some r := by
  unfold nwhole.f at h
  by_cases hs : okT a0_1
  · rw [if_pos hs] at h
    rw [← h]
    have hs' := hs
    unfold okT at hs'
    unfold token_whole.f
    by_cases h3 : a0_0 = 3
    · subst h3
      have hz : (((⟨#[34]⟩ : ByteArray) ++ a0_1) ++ (⟨#[34]⟩ : ByteArray)).size = a0_1.size + 2 := by
        rw [← L_len, quo_L3]; simp [quo, L_len]
      rw [if_pos rfl, if_pos (by omega), if_pos (by omega)]
      refine (whole_core 3 _ (by unfold okS; omega)).trans ?_
      rw [quo_L3, ← of_eq (quo_L3 a0_1)]
      rfl
    · rw [if_neg h3]
      refine (whole_core a0_0 a0_1 (by unfold okS; omega)).trans ?_
      have e := quo_Lne a0_0 h3 a0_1
      have e2 := of_eq e
      rw [← e2]
      unfold right
      rw [← e]
  · rw [if_neg hs] at h; cases h

theorem nwhole.calls (a0_0 : Int) (a0_1 : ByteArray) (a0_2 : Int) (r1 : ByteArray) (r2 : Bool) (w : World) (h : nwhole.f a0_0 a0_1 a0_2 = some (r1, r2)) :
    Calls Try.prog 29 #[.agg #[.int .i64 a0_0, .string a0_1, .int .i64 a0_2]] w fun e w' => e = .returned (.tuple #[.string r1, .bool r2]) ∧ Below w.heap.size w w' := by
  exact token_whole.calls a0_0 a0_1 a0_2 r1 r2 w (nwhole.ev a0_0 a0_1 a0_2 (r1, r2) h)

/-! ### token_Number: function 12 -/
def token_Number.l0 : Nat → ByteArray → Int → Int → Int → Option (Int × Int)
  | 0, _, _, _, _ => none
  | k + 1, x0, x6, x17, x18 => if x18 < x17 then (if 0 ≤ x18 then (if x18 < (x0.size : Int) then (token_Number.l0 k x0 (wrap64 ((wrap64 (10 * x6)) + (((bt x0 x18) - 48) % 256))) x17 (wrap64 (x18 + 1))) else (none)) else (none)) else (some (x6, 0))
def token_Number.f (k : Nat) (a0 : ByteArray) : Option (Int × Int) := (nwhole.f 2 a0 0).bind fun bt128 => (if bt128.2 = true then (token_Number.l0 k a0 0 (a0.size : Int) 0) else (some (0, 2)))
theorem token_Number.mono_l : ∀ k, (∀ y0 y1 y2 y3, LeO (token_Number.l0 k y0 y1 y2 y3) (token_Number.l0 (k + 1) y0 y1 y2 y3))
  | 0 => fun _ _ _ _ r h => by simp [token_Number.l0] at h
  | k + 1 => by
    have ih0 := token_Number.mono_l k
    · intro y0 y1 y2 y3
      unfold token_Number.l0
      repeat' first
      | (with_reducible exact ih0 _ _ _ _)
      | (with_reducible exact LeO.refl _)
      | (with_reducible exact LeO.none _)
      | (with_reducible refine LeO.ite ?_ ?_)
      | (with_reducible refine LeO.bind ?_ (fun _ => ?_))
      | exact ih0 _ _ _ _
      | exact LeO.none _
      | refine LeO.ite ?_ ?_
      | refine LeO.bind ?_ (fun _ => ?_)
theorem token_Number.mono : ∀ a0 k, LeO (token_Number.f k a0) (token_Number.f (k + 1) a0) := by
  intro a0 k
  have ih0 := token_Number.mono_l k
  unfold token_Number.f
  repeat' first
      | (with_reducible exact ih0 _ _ _ _)
      | (with_reducible exact LeO.refl _)
      | (with_reducible exact LeO.none _)
      | (with_reducible refine LeO.ite ?_ ?_)
      | (with_reducible refine LeO.bind ?_ (fun _ => ?_))
      | exact ih0 _ _ _ _
      | exact LeO.none _
      | refine LeO.ite ?_ ?_
      | refine LeO.bind ?_ (fun _ => ?_)
set_option maxHeartbeats 8000000 in
set_option maxRecDepth 100000 in
theorem token_Number.calls (k : Nat) (a0 : ByteArray) (r1 : Int) (r2 : Int) (w : World) (h : token_Number.f k a0 = some (r1, r2)) :
    Calls Try.prog 12 #[.string a0] w fun e w' => e = .returned (.tuple #[.int .i64 r1, .int .i64 r2]) ∧ Below w.heap.size w w' := by
  have hu46 := Try.underlying46
  have HB := Aside0.mk (Below.refl w.heap.size w)
  have H : ((nwhole.f 2 a0 0).bind fun bt128 => (if bt128.2 = true then (token_Number.l0 k a0 0 (a0.size : Int) 0) else (some (0, 2)))) = some (r1, r2) := h
  clear h
  replace H := Option.bind_eq_some_iff.mp H
  obtain ⟨⟨t128, t129⟩, A20, H⟩ := H
  replace H : (if t129 = true then (token_Number.l0 k a0 0 (a0.size : Int) 0) else (some (0, 2))) = some (r1, r2) := H
  have A2 := Aside0.mk A20
  clear A20
  by_cases c3 : t129 = true
  · subst c3
    have H1 : (token_Number.l0 k a0 0 (a0.size : Int) 0) = some (r1, r2) := by rw [if_pos rfl] at H; exact H
    clear H
    have H := H1
    clear H1
    have H' := Aside0.mk H
    clear H
    go_enter Try.func12, Try.ntmps12
    go_wp2_with (first | ((with_reducible refine gate_callee (f := 29) rfl ?_); refine goesL_  (some 11) rfl rfl Try.func29 (by kernel_rfl) rfl #[.agg #[.int .i64 2, .string a0, .int .i64 0]] rfl (by (try simp only [List.map_toArray, List.map_cons, List.map_nil]); first | done | rfl | (simp only [List.length_drop, List.length_take]; rfl)) ?_; (with_reducible refine (nwhole.calls 2 a0 0 t128 true _ A2.out).mono ?_); rintro e w4 ⟨rfl, hb⟩; refine ⟨_, rfl, ?_⟩; have n0_ := Aside0.mk (below_step (by repeat (first | (with_reducible first | exact HB.out | apply below_alloc | apply pw_below_drewN | apply below_drew1) | exact HB.out)) hb); clear HB; have HB := n0_; clear n0_; (try clear hb); (try clear hb2); (try clear hk); (try clear hi)))
    go_loopg [6, 18] k (fun kq v6 v18 w' => ∃ (x6_1 : Int) (x18_1 : Int), v6 = .int .i64 x6_1 ∧ v18 = .int .i64 x18_1 ∧ Aside0 (token_Number.l0 kq a0 x6_1 (a0.size : Int) x18_1 = some (r1, r2)) ∧ Aside0 (kq ≤ k) ∧ Aside0 (Below w.heap.size w w'))
    case atStart => exact ⟨(0), (0), (by first | rfl | (simp; done) | (simp [*]; done)), (by first | rfl | (simp; done) | (simp [*]; done)), H', ⟨Nat.le_refl _⟩, ⟨by repeat (first | (with_reducible first | exact HB.out | apply below_alloc | apply pw_below_drewN | apply below_drew1) | exact HB.out)⟩⟩
    case round =>
      clear H'
      try clear c1
      try clear c2
      try clear p2
      try clear c3
      obtain ⟨x6_1, x18_1, rfl, rfl, HA, HK1, HB⟩ := hrel
      cases gk with
      | zero => exact absurd HA.out (by simp [token_Number.l0])
      | succ k1 =>
        have H := HA.out
        clear HA
        simp only [token_Number.l0] at H
        by_cases c5 : x18_1 < (a0.size : Int)
        · rw [if_pos c5] at H
          have c5b0 : decide (x18_1 < (a0.size : Int)) = true := decide_eq_true c5
          clear c5
          by_cases c6 : 0 ≤ x18_1
          · rw [if_pos c6] at H
            have c6b0 : decide (0 ≤ x18_1) = true := decide_eq_true c6
            clear c6
            by_cases c7 : x18_1 < (a0.size : Int)
            · rw [if_pos c7] at H
              have c7b0 : decide (x18_1 < (a0.size : Int)) = true := decide_eq_true c7
              clear c7
              have H' := Aside0.mk H
              clear H
              have p8 : 0 ≤ (x18_1 : Int) := of_decide_eq_true (by first | (with_reducible assumption) | assumption)
              have q8 : x18_1 < (a0.size : Int) := of_decide_eq_true (by first | (with_reducible assumption) | assumption)
              have hx8 := bt_at a0 x18_1
              replace p8 := eq_true p8
              replace q8 := eq_true q8
              go_wp2
              go_roundg k1
              case measure => have := HK1.out; omega
              case rel => exact ⟨(wrap64 ((wrap64 (10 * x6_1)) + (((bt a0 x18_1) - 48) % 256))), (wrap64 (x18_1 + 1)), (by first | rfl | (simp; done) | (simp [*]; done)), (by first | rfl | (simp; done) | (simp [*]; done)), H', ⟨by have := HK1.out; omega⟩, ⟨by repeat (first | (with_reducible first | exact HB.out | apply below_alloc | apply pw_below_drewN | apply below_drew1) | exact HB.out)⟩⟩
            · rw [if_neg c7] at H
              exact absurd H (by simp)
          · rw [if_neg c6] at H
            exact absurd H (by simp)
        · rw [if_neg c5] at H
          have c5b0 : decide (x18_1 < (a0.size : Int)) = false := decide_eq_false c5
          clear c5
          simp only [Option.some.injEq, Prod.mk.injEq] at H
          obtain ⟨rfl, rfl⟩ := H
          go_wp2
          go_ret2
          exact ⟨by first | rfl | (simp [errW_none, errW_some] <;> rfl) | (simp [*, errW_none, errW_some] <;> rfl), by repeat (first | (with_reducible first | exact HB.out | apply below_alloc | apply pw_below_drewN | apply below_drew1) | exact HB.out)⟩
  · replace c3 := Bool.eq_false_iff.mpr c3
    subst c3
    have H1 : (some (0, 2)) = some (r1, r2) := by rw [if_neg (show ¬ (false = true) by decide)] at H; exact H
    clear H
    have H := H1
    clear H1
    simp only [Option.some.injEq, Prod.mk.injEq] at H
    obtain ⟨rfl, rfl⟩ := H
    go_enter Try.func12, Try.ntmps12
    go_wp2_with (first | ((with_reducible refine gate_callee (f := 29) rfl ?_); refine goesL_  (some 11) rfl rfl Try.func29 (by kernel_rfl) rfl #[.agg #[.int .i64 2, .string a0, .int .i64 0]] rfl (by (try simp only [List.map_toArray, List.map_cons, List.map_nil]); first | done | rfl | (simp only [List.length_drop, List.length_take]; rfl)) ?_; (with_reducible refine (nwhole.calls 2 a0 0 t128 false _ A2.out).mono ?_); rintro e w9 ⟨rfl, hb⟩; refine ⟨_, rfl, ?_⟩; have n0_ := Aside0.mk (below_step (by repeat (first | (with_reducible first | exact HB.out | apply below_alloc | apply pw_below_drewN | apply below_drew1) | exact HB.out)) hb); clear HB; have HB := n0_; clear n0_; (try clear hb); (try clear hb2); (try clear hk); (try clear hi)))
    go_ret2
    exact ⟨by first | rfl | (simp [errW_none, errW_some] <;> rfl) | (simp [*, errW_none, errW_some] <;> rfl), by repeat (first | (with_reducible first | exact HB.out | apply below_alloc | apply pw_below_drewN | apply below_drew1) | exact HB.out)⟩

open Sj in
theorem numVal_snoc (l : List UInt8) (c : UInt8) : numVal (l ++ [c]) = 10 * numVal l + ((c.toNat : Int) - 48) := by
  simp [numVal, List.foldl_append]
open Sj in
theorem right2 {l : List UInt8} (h : right 2 l = true) : l ≠ [] ∧ l.length ≤ 9 ∧ ∀ c ∈ l, digitB c = true := by
  unfold right at h
  simp only [quo, show ¬ ((2 : Int) = 3) by decide, if_false, Bool.and_eq_true, decide_eq_true_eq] at h
  obtain ⟨h0, h1⟩ := h
  refine ⟨h0, ?_⟩
  cases l with
  | nil => exact absurd rfl h0
  | cons c t =>
    unfold nxt at h1
    simp only at h1
    split at h1
    · split at h1 <;> simp at h1
    · split at h1
      · split at h1
        · simp at h1
        · rename_i hd h9
          simp only [Prod.mk.injEq, true_and, and_true] at h1
          exact ⟨by omega, runB_all _ _ h1⟩
      · split at h1
        · split at h1
          · split at h1 <;> simp at h1
          · simp at h1
        · split at h1
          · simp at h1
          · split at h1 <;> simp at h1
open Sj in
theorem numVal_bd : ∀ (n : Nat) (l : List UInt8), l.length = n → (∀ c ∈ l, digitB c = true) → 0 ≤ numVal l ∧ numVal l + 1 ≤ (10 : Int) ^ n := by
  intro n
  induction n with
  | zero => intro l hl _; have := List.eq_nil_of_length_eq_zero hl; subst this; decide
  | succ n ih =>
    intro l hl hd
    obtain ⟨l', c, rfl⟩ : ∃ l' c, l = l' ++ [c] := ⟨l.dropLast, l.getLast (by intro h; simp [h] at hl), (List.dropLast_concat_getLast _).symm⟩
    have h1 := ih l' (by simpa using hl) (fun x hx => hd x (by simp [hx]))
    have h2 := hd c (by simp)
    simp only [digitB, Bool.and_eq_true, decide_eq_true_eq] at h2
    rw [numVal_snoc, Int.pow_succ]
    omega
open Sj in
theorem numLoop {lf : Nat → ByteArray → Int → Int → Option (Int × Int)} (s : ByteArray)
    (hlf : ∀ k x i, lf (k + 1) s x i = if i < (s.size : Int) then (if 0 ≤ i then (lf k s (wrap64 ((wrap64 (10 * x)) + (((bt s i) - 48) % 256))) (wrap64 (i + 1))) else none) else (some (x, 0)))
    (hl : s.size ≤ 9) (hd : ∀ c ∈ L s, digitB c = true) : ∀ (d k i : Nat), s.size - i = d → i ≤ s.size → d < k → lf k s (numVal ((L s).take i)) (i : Int) = some (numVal (L s), 0) := by
  intro d
  induction d with
  | zero =>
    intro k i hd' hi hk
    obtain ⟨k, rfl⟩ : ∃ m, k = m + 1 := ⟨k - 1, by omega⟩
    rw [hlf, if_neg (by omega), List.take_of_length_le (by rw [L_len]; omega)]
  | succ d ih =>
    intro k i hd' hi hk
    obtain ⟨k, rfl⟩ : ∃ m, k = m + 1 := ⟨k - 1, by omega⟩
    have hlt : i < (L s).length := by rw [L_len]; omega
    have hc := hd _ (List.getElem_mem hlt)
    simp only [digitB, Bool.and_eq_true, decide_eq_true_eq] at hc
    have hb := numVal_bd _ ((L s).take i) rfl (fun c h => hd c (List.mem_of_mem_take h))
    have hp : (10 : Int) ^ ((L s).take i).length ≤ 10 ^ 9 := by
      have : ((L s).take i).length ≤ 9 := by rw [List.length_take]; omega
      have h9 : (10 : Nat) ^ ((L s).take i).length ≤ 10 ^ 9 := Nat.pow_le_pow_right (by decide) this
      exact_mod_cast h9
    have e10 : (10 : Int) ^ 9 = 1000000000 := by decide
    rw [hlf, if_pos (by rw [L_len] at hlt; omega), if_pos (by omega), bt_nat s i hlt, w64 (x := 10 * _) (by omega) (by omega), w64 (by omega) (by omega), w64 (x := (i : Int) + 1) (by omega) (by omega)]
    have := ih k (i + 1) (by omega) (by omega) (by omega)
    rw [List.take_succ_eq_append_getElem hlt, numVal_snoc] at this
    rw [show ((((L s)[i].toNat : Int) - 48) % 256) = ((L s)[i].toNat : Int) - 48 by omega]
    exact this
open Sj in
def nNumber.f (a0 : ByteArray) : Option (Int × Int) := if okT a0 then some (number (L a0)) else none
open Sj in
theorem nNumber.ev (a0 : ByteArray) (r : Int × Int) (h : nNumber.f a0 = some r) : ∃ k, token_Number.f k a0 = some r := by
  unfold nNumber.f at h
  by_cases hs : okT a0
  · rw [if_pos hs] at h
    obtain rfl := Option.some.inj h
    refine ⟨a0.size + 1, ?_⟩
    unfold token_Number.f nwhole.f number
    rw [if_pos hs, Option.bind_some]
    simp only
    by_cases hr : right 2 (L a0) = true
    · obtain ⟨_, h9, hd⟩ := right2 hr
      rw [if_pos hr, if_pos hr]
      rw [L_len] at h9
      have := numLoop (lf := fun k s x i => token_Number.l0 k s x (s.size : Int) i) a0 (fun k x i => by
        simp only [token_Number.l0]
        by_cases h1 : i < (a0.size : Int) <;> by_cases h2 : 0 ≤ i <;> simp [h1, h2]) h9 hd a0.size (a0.size + 1) 0 (by omega) (by omega) (by omega)
      simpa [numVal] using this
    · rw [if_neg hr, if_neg hr]
  · rw [if_neg hs] at h; cases h

theorem nNumber.calls (a0 : ByteArray) (r1 : Int) (r2 : Int) (w : World) (h : nNumber.f a0 = some (r1, r2)) :
    Calls Try.prog 12 #[.string a0] w fun e w' => e = .returned (.tuple #[.int .i64 r1, .int .i64 r2]) ∧ Below w.heap.size w w' := by
  obtain ⟨k, hk⟩ := nNumber.ev a0 (r1, r2) h
  exact token_Number.calls k a0 r1 r2 w hk

/-! ### token_Tokens_1: function 32 -/
def token_Tokens_1.f (a0 : Int) : Option (Bool) := some (a0 != 10)
set_option maxHeartbeats 8000000 in
set_option maxRecDepth 100000 in
theorem token_Tokens_1.calls (a0 : Int) (r : Bool) (w : World) (h : token_Tokens_1.f a0 = some r) :
    Calls Try.prog 32 #[.int .u8 a0] w fun e w' => e = .returned (.bool r) ∧ Drawn0 w w' := by
  have H : (some (a0 != 10)) = some r := h
  clear h
  obtain rfl := Option.some.inj H
  go_enter Try.func32, Try.ntmps32
  go_wp2
  go_ret
  exact ⟨by first | rfl | (simp; done) | (simp [*]; done), by repeat (first | exact Drawn0.refl _ | apply Drawn0.step)⟩

end Go.Proofs.Ytkjikcmjcdlifaa.P
