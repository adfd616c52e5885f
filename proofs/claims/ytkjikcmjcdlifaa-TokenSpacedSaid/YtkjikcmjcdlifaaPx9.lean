/- Written by a program of this place (mk.py: the kit's print, turned). Proved here: each function of this text, called, computes what its plain function of Lean tells, wherever that tells something. -/
import Derived.Test.YtkjikcmjcdlifaaPx0
import Derived.Test.YtkjikcmjcdlifaaPx5
import Derived.Test.YtkjikcmjcdlifaaPx8
namespace Go.Proofs.Ytkjikcmjcdlifaa.P
open Go.RowKit Go.Proofs.YtkjikcmjcdlifaaW.PrintWords Go.Proofs.YtkjikcmjcdlifaaW.PrintLast Go.Proofs.YtkjikcmjcdlifaaW.PrintMore
attribute [local go_sem] max2_int min2_int max_two min_two max_three min_three max_four min_four   -- for this text's walks alone
set_option linter.unusedVariables false
set_option linter.unusedSimpArgs false

/-! ### scarfjointref01_Write: function 20 -/
mutual
def scarfjointref01_Write.l0 : Nat → List (S46) → ByteArray → Int → Option (ByteArray × Int)
  | 0, _, _, _ => none
  | k + 1, x0, x4, x5 => if x5 < (x0.length : Int) then (if 0 ≤ x5 then ((nRight.f ((rd_T46 x0 x5).f0) ((rd_T46 x0 x5).f1) ((rd_T46 x0 x5).f2)).bind fun t195 => (if t195 = true then (scarfjointref01_Write.l0 k x0 x4 (wrap64 (x5 + 1))) else (some ((⟨#[]⟩ : ByteArray), 1)))) else (none)) else (scarfjointref01_Write.l1 k x0 x4 0)
def scarfjointref01_Write.l1 : Nat → List (S46) → ByteArray → Int → Option (ByteArray × Int)
  | 0, _, _, _ => none
  | k + 1, x0, x4, x6 => if x6 < (x0.length : Int) then (if x6 > 0 then (if 0 ≤ x6 then (if 0 ≤ (wrap64 (x6 - 1)) then (if (wrap64 (x6 - 1)) < (x0.length : Int) then (scarfjointref01_Write.j2 k x0 x4 x6 (((rd_T46 x0 x6).f2) != ((rd_T46 x0 (wrap64 (x6 - 1))).f2))) else (none)) else (none)) else (none)) else (scarfjointref01_Write.j2 k x0 x4 x6 false)) else (if (x4.size : Int) > 20000 then (some ((⟨#[]⟩ : ByteArray), 3)) else (some (x4, 0)))
def scarfjointref01_Write.j2 : Nat → List (S46) → ByteArray → Int → Bool → Option (ByteArray × Int)
  | 0, _, _, _, _ => none
  | k + 1, x0, x4, x6, x43 => if x43 = true then (if x4.size + 1 ≤ 9223372036854775807 then (if 0 ≤ x6 then (if x6 < (x0.length : Int) then ((scarfjointref01_text.f ((rd_T46 x0 x6).f0) ((rd_T46 x0 x6).f1) ((rd_T46 x0 x6).f2)).bind fun t199 => (if x4.size + 1 + t199.size ≤ 9223372036854775807 then (scarfjointref01_Write.l1 k x0 ((x4 ++ (⟨#[10]⟩ : ByteArray)) ++ t199) (wrap64 (x6 + 1))) else (none))) else (none)) else (none)) else (none)) else (if x6 > 0 then (if x4.size + 1 ≤ 9223372036854775807 then (if 0 ≤ x6 then (if x6 < (x0.length : Int) then ((scarfjointref01_text.f ((rd_T46 x0 x6).f0) ((rd_T46 x0 x6).f1) ((rd_T46 x0 x6).f2)).bind fun t201 => (if x4.size + 1 + t201.size ≤ 9223372036854775807 then (scarfjointref01_Write.l1 k x0 ((x4 ++ (⟨#[32]⟩ : ByteArray)) ++ t201) (wrap64 (x6 + 1))) else (none))) else (none)) else (none)) else (none)) else (if 0 ≤ x6 then (if x6 < (x0.length : Int) then ((scarfjointref01_text.f ((rd_T46 x0 x6).f0) ((rd_T46 x0 x6).f1) ((rd_T46 x0 x6).f2)).bind fun t203 => (if x4.size + t203.size ≤ 9223372036854775807 then (scarfjointref01_Write.l1 k x0 (x4 ++ t203) (wrap64 (x6 + 1))) else (none))) else (none)) else (none)))
end
def scarfjointref01_Write.f (k : Nat) (l0 : List (S46)) : Option (ByteArray × Int) := if (l0.length : Int) > 4000 then (some ((⟨#[]⟩ : ByteArray), 3)) else (scarfjointref01_Write.l0 k l0 (⟨#[]⟩ : ByteArray) 0)
theorem scarfjointref01_Write.mono_l : ∀ k, (∀ y0 y1 y2, LeO (scarfjointref01_Write.l0 k y0 y1 y2) (scarfjointref01_Write.l0 (k + 1) y0 y1 y2)) ∧ (∀ y0 y1 y2, LeO (scarfjointref01_Write.l1 k y0 y1 y2) (scarfjointref01_Write.l1 (k + 1) y0 y1 y2)) ∧ (∀ y0 y1 y2 y3, LeO (scarfjointref01_Write.j2 k y0 y1 y2 y3) (scarfjointref01_Write.j2 (k + 1) y0 y1 y2 y3))
  | 0 => ⟨fun _ _ _ r h => by simp [scarfjointref01_Write.l0] at h, fun _ _ _ r h => by simp [scarfjointref01_Write.l1] at h, fun _ _ _ _ r h => by simp [scarfjointref01_Write.j2] at h⟩
  | k + 1 => by
    obtain ⟨ih0, ih1, ih2⟩ := scarfjointref01_Write.mono_l k
    refine ⟨?_, ?_, ?_⟩
    · intro y0 y1 y2
      unfold scarfjointref01_Write.l0
      repeat' first
      | (with_reducible exact ih0 _ _ _)
      | (with_reducible exact ih1 _ _ _)
      | (with_reducible exact ih2 _ _ _ _)
      | (with_reducible exact LeO.refl _)
      | (with_reducible exact LeO.none _)
      | (with_reducible refine LeO.ite ?_ ?_)
      | (with_reducible refine LeO.bind ?_ (fun _ => ?_))
      | exact ih0 _ _ _
      | exact ih1 _ _ _
      | exact ih2 _ _ _ _
      | exact LeO.none _
      | refine LeO.ite ?_ ?_
      | refine LeO.bind ?_ (fun _ => ?_)
    · intro y0 y1 y2
      unfold scarfjointref01_Write.l1
      repeat' first
      | (with_reducible exact ih0 _ _ _)
      | (with_reducible exact ih1 _ _ _)
      | (with_reducible exact ih2 _ _ _ _)
      | (with_reducible exact LeO.refl _)
      | (with_reducible exact LeO.none _)
      | (with_reducible refine LeO.ite ?_ ?_)
      | (with_reducible refine LeO.bind ?_ (fun _ => ?_))
      | exact ih0 _ _ _
      | exact ih1 _ _ _
      | exact ih2 _ _ _ _
      | exact LeO.none _
      | refine LeO.ite ?_ ?_
      | refine LeO.bind ?_ (fun _ => ?_)
    · intro y0 y1 y2 y3
      unfold scarfjointref01_Write.j2
      repeat' first
      | (with_reducible exact ih0 _ _ _)
      | (with_reducible exact ih1 _ _ _)
      | (with_reducible exact ih2 _ _ _ _)
      | (with_reducible exact LeO.refl _)
      | (with_reducible exact LeO.none _)
      | (with_reducible refine LeO.ite ?_ ?_)
      | (with_reducible refine LeO.bind ?_ (fun _ => ?_))
      | exact ih0 _ _ _
      | exact ih1 _ _ _
      | exact ih2 _ _ _ _
      | exact LeO.none _
      | refine LeO.ite ?_ ?_
      | refine LeO.bind ?_ (fun _ => ?_)
theorem scarfjointref01_Write.mono : ∀ a0 k, LeO (scarfjointref01_Write.f k a0) (scarfjointref01_Write.f (k + 1) a0) := by
  intro a0 k
  obtain ⟨ih0, ih1, ih2⟩ := scarfjointref01_Write.mono_l k
  unfold scarfjointref01_Write.f
  repeat' first
      | (with_reducible exact ih0 _ _ _)
      | (with_reducible exact ih1 _ _ _)
      | (with_reducible exact ih2 _ _ _ _)
      | (with_reducible exact LeO.refl _)
      | (with_reducible exact LeO.none _)
      | (with_reducible refine LeO.ite ?_ ?_)
      | (with_reducible refine LeO.bind ?_ (fun _ => ?_))
      | exact ih0 _ _ _
      | exact ih1 _ _ _
      | exact ih2 _ _ _ _
      | exact LeO.none _
      | refine LeO.ite ?_ ?_
      | refine LeO.bind ?_ (fun _ => ?_)
set_option maxHeartbeats 8000000 in
set_option maxRecDepth 100000 in
theorem scarfjointref01_Write.calls (k : Nat) (A0 : Option Addr) (c0 : Nat) (l0 : List (S46)) (r1 : ByteArray) (r2 : Int) (w : World) (hr0 : Kd.C k46 w A0 l0.length l0) (hc0 : l0.length ≤ c0) (h : scarfjointref01_Write.f k l0 = some (r1, r2)) :
    Calls Try.prog 20 #[.slice A0 l0.length c0] w fun e w' => e = .returned (.tuple #[.string r1, .int .i64 r2]) ∧ Below w.heap.size w w' := by
  have hu46 := Try.underlying46
  have HR0 := Aside0.mk hr0
  have HC0 := Aside0.mk hc0
  clear hr0 hc0
  have HB := Aside0.mk (Below.refl w.heap.size w)
  have H : (if (l0.length : Int) > 4000 then (some ((⟨#[]⟩ : ByteArray), 3)) else (scarfjointref01_Write.l0 k l0 (⟨#[]⟩ : ByteArray) 0)) = some (r1, r2) := h
  clear h
  by_cases c2 : (l0.length : Int) > 4000
  · rw [if_pos c2] at H
    have c2b0 : decide (4000 < (l0.length : Int)) = true := decide_eq_true c2
    have c2b1 : decide (4000 < l0.length) = true := decide_eq_true (by omega)
    clear c2
    simp only [Option.some.injEq, Prod.mk.injEq] at H
    obtain ⟨rfl, rfl⟩ := H
    go_enter Try.func20, Try.ntmps20
    go_wp2
    repeat (go_quiet (fail); try go_wp2)
    go_ret2
    exact ⟨by first | rfl | (simp [errW_none, errW_some] <;> rfl) | (simp [*, errW_none, errW_some] <;> rfl), by repeat (first | (with_reducible first | exact HB.out | apply below_alloc | apply pw_below_drewN | apply below_drew1) | exact HB.out)⟩
  · rw [if_neg c2] at H
    have c2b0 : decide (4000 < (l0.length : Int)) = false := decide_eq_false c2
    have c2b1 : decide (4000 < l0.length) = false := decide_eq_false (by omega)
    clear c2
    have H' := Aside0.mk H
    clear H
    go_enter Try.func20, Try.ntmps20
    go_wp2
    repeat (go_quiet (fail); try go_wp2)
    go_loopg [5] k (fun kq v5 w' => ∃ (x5_1 : Int), v5 = .int .i64 x5_1 ∧ Aside0 (scarfjointref01_Write.l0 kq l0 (⟨#[]⟩ : ByteArray) x5_1 = some (r1, r2)) ∧ Aside0 (kq ≤ k) ∧ Aside0 (Below w.heap.size w w'))
    case atStart => exact ⟨(0), (by first | rfl | (simp; done) | (simp [*]; done)), H', ⟨Nat.le_refl _⟩, ⟨by repeat (first | (with_reducible first | exact HB.out | apply below_alloc | apply pw_below_drewN | apply below_drew1) | exact HB.out)⟩⟩
    case round =>
      clear H'
      try clear c2
      try clear c2b0
      try clear c2b1
      try clear p2
      obtain ⟨x5_1, rfl, HA, HK1, HB⟩ := hrel
      cases gk with
      | zero => exact absurd HA.out (by simp [scarfjointref01_Write.l0])
      | succ k1 =>
        have H := HA.out
        clear HA
        simp only [scarfjointref01_Write.l0] at H
        by_cases c3 : x5_1 < (l0.length : Int)
        · rw [if_pos c3] at H
          have c3b0 : decide (x5_1 < (l0.length : Int)) = true := decide_eq_true c3
          clear c3
          by_cases c4 : 0 ≤ x5_1
          · rw [if_pos c4] at H
            have c4b0 : decide (0 ≤ x5_1) = true := decide_eq_true c4
            clear c4
            replace H := Option.bind_eq_some_iff.mp H
            obtain ⟨t195, A50, H⟩ := H
            replace H : (if t195 = true then (scarfjointref01_Write.l0 k1 l0 (⟨#[]⟩ : ByteArray) (wrap64 (x5_1 + 1))) else (some ((⟨#[]⟩ : ByteArray), 1))) = some (r1, r2) := H
            have A5 := Aside0.mk A50
            clear A50
            by_cases c6 : t195 = true
            · subst c6
              have H1 : (scarfjointref01_Write.l0 k1 l0 (⟨#[]⟩ : ByteArray) (wrap64 (x5_1 + 1))) = some (r1, r2) := by rw [if_pos rfl] at H; exact H
              clear H
              have H := H1
              clear H1
              have H' := Aside0.mk H
              clear H
              have p194 : 0 ≤ (x5_1 : Int) := of_decide_eq_true (by first | (with_reducible assumption) | assumption)
              have q194 : x5_1 < (l0.length : Int) := of_decide_eq_true (by first | (with_reducible assumption) | assumption)
              obtain ⟨ad194, e194, hx194_0, hx194_1, hx194_2⟩ := at_T46 HR0.out x5_1 p194 q194
              cases e194
              replace hx194_0 := (HB.out.cell (World.block_lt_of_cell? w _ hx194_0)).trans hx194_0
              replace hx194_1 := (HB.out.cell (World.block_lt_of_cell? w _ hx194_1)).trans hx194_1
              replace hx194_2 := (HB.out.cell (World.block_lt_of_cell? w _ hx194_2)).trans hx194_2
              replace p194 := eq_true p194
              replace q194 := eq_true q194
              go_wp2_with (first | (go_at_call 27; (with_reducible refine (nRight.calls ((rd_T46 l0 x5_1).f0) ((rd_T46 l0 x5_1).f1) ((rd_T46 l0 x5_1).f2) true _ A5.out).mono ?_); rintro e w7 ⟨rfl, hb⟩; have n0_ := Aside0.mk (below_step (by repeat (first | (with_reducible first | exact HB.out | apply below_alloc | apply pw_below_drewN | apply below_drew1) | exact HB.out)) hb); clear HB; have HB := n0_; clear n0_; (try clear hb); (try clear hb2); (try clear hk); (try clear hi)))
              repeat (go_quiet (first | (go_at_call 27; (with_reducible refine (nRight.calls ((rd_T46 l0 x5_1).f0) ((rd_T46 l0 x5_1).f1) ((rd_T46 l0 x5_1).f2) true _ A5.out).mono ?_); rintro e w7 ⟨rfl, hb⟩; have n0_ := Aside0.mk (below_step (by repeat (first | (with_reducible first | exact HB.out | apply below_alloc | apply pw_below_drewN | apply below_drew1) | exact HB.out)) hb); clear HB; have HB := n0_; clear n0_; (try clear hb); (try clear hb2); (try clear hk); (try clear hi))); try go_wp2_with (first | (go_at_call 27; (with_reducible refine (nRight.calls ((rd_T46 l0 x5_1).f0) ((rd_T46 l0 x5_1).f1) ((rd_T46 l0 x5_1).f2) true _ A5.out).mono ?_); rintro e w7 ⟨rfl, hb⟩; have n0_ := Aside0.mk (below_step (by repeat (first | (with_reducible first | exact HB.out | apply below_alloc | apply pw_below_drewN | apply below_drew1) | exact HB.out)) hb); clear HB; have HB := n0_; clear n0_; (try clear hb); (try clear hb2); (try clear hk); (try clear hi))))
              go_roundg k1
              case measure => have := HK1.out; omega
              case rel => exact ⟨(wrap64 (x5_1 + 1)), (by first | rfl | (simp; done) | (simp [*]; done)), H', ⟨by have := HK1.out; omega⟩, ⟨by repeat (first | (with_reducible first | exact HB.out | apply below_alloc | apply pw_below_drewN | apply below_drew1) | exact HB.out)⟩⟩
            · replace c6 := Bool.eq_false_iff.mpr c6
              subst c6
              have H1 : (some ((⟨#[]⟩ : ByteArray), 1)) = some (r1, r2) := by rw [if_neg (show ¬ (false = true) by decide)] at H; exact H
              clear H
              have H := H1
              clear H1
              simp only [Option.some.injEq, Prod.mk.injEq] at H
              obtain ⟨rfl, rfl⟩ := H
              have p194 : 0 ≤ (x5_1 : Int) := of_decide_eq_true (by first | (with_reducible assumption) | assumption)
              have q194 : x5_1 < (l0.length : Int) := of_decide_eq_true (by first | (with_reducible assumption) | assumption)
              obtain ⟨ad194, e194, hx194_0, hx194_1, hx194_2⟩ := at_T46 HR0.out x5_1 p194 q194
              cases e194
              replace hx194_0 := (HB.out.cell (World.block_lt_of_cell? w _ hx194_0)).trans hx194_0
              replace hx194_1 := (HB.out.cell (World.block_lt_of_cell? w _ hx194_1)).trans hx194_1
              replace hx194_2 := (HB.out.cell (World.block_lt_of_cell? w _ hx194_2)).trans hx194_2
              replace p194 := eq_true p194
              replace q194 := eq_true q194
              go_wp2_with (first | (go_at_call 27; (with_reducible refine (nRight.calls ((rd_T46 l0 x5_1).f0) ((rd_T46 l0 x5_1).f1) ((rd_T46 l0 x5_1).f2) false _ A5.out).mono ?_); rintro e w8 ⟨rfl, hb⟩; have n0_ := Aside0.mk (below_step (by repeat (first | (with_reducible first | exact HB.out | apply below_alloc | apply pw_below_drewN | apply below_drew1) | exact HB.out)) hb); clear HB; have HB := n0_; clear n0_; (try clear hb); (try clear hb2); (try clear hk); (try clear hi)))
              repeat (go_quiet (first | (go_at_call 27; (with_reducible refine (nRight.calls ((rd_T46 l0 x5_1).f0) ((rd_T46 l0 x5_1).f1) ((rd_T46 l0 x5_1).f2) false _ A5.out).mono ?_); rintro e w8 ⟨rfl, hb⟩; have n0_ := Aside0.mk (below_step (by repeat (first | (with_reducible first | exact HB.out | apply below_alloc | apply pw_below_drewN | apply below_drew1) | exact HB.out)) hb); clear HB; have HB := n0_; clear n0_; (try clear hb); (try clear hb2); (try clear hk); (try clear hi))); try go_wp2_with (first | (go_at_call 27; (with_reducible refine (nRight.calls ((rd_T46 l0 x5_1).f0) ((rd_T46 l0 x5_1).f1) ((rd_T46 l0 x5_1).f2) false _ A5.out).mono ?_); rintro e w8 ⟨rfl, hb⟩; have n0_ := Aside0.mk (below_step (by repeat (first | (with_reducible first | exact HB.out | apply below_alloc | apply pw_below_drewN | apply below_drew1) | exact HB.out)) hb); clear HB; have HB := n0_; clear n0_; (try clear hb); (try clear hb2); (try clear hk); (try clear hi))))
              go_ret2
              exact ⟨by first | rfl | (simp [errW_none, errW_some] <;> rfl) | (simp [*, errW_none, errW_some] <;> rfl), by repeat (first | (with_reducible first | exact HB.out | apply below_alloc | apply pw_below_drewN | apply below_drew1) | exact HB.out)⟩
          · rw [if_neg c4] at H
            exact absurd H (by simp)
        · rw [if_neg c3] at H
          have c3b0 : decide (x5_1 < (l0.length : Int)) = false := decide_eq_false c3
          clear c3
          have H' := Aside0.mk H
          clear H
          go_wp2
          repeat (go_quiet (fail); try go_wp2)
          go_loopg [4, 6] k1 (fun kq v4 v6 w' => ∃ (x4_2 : ByteArray) (x6_2 : Int), v4 = .string x4_2 ∧ v6 = .int .i64 x6_2 ∧ Aside0 (scarfjointref01_Write.l1 kq l0 x4_2 x6_2 = some (r1, r2)) ∧ Aside0 (kq ≤ k1) ∧ Aside0 (Below w.heap.size w w'))
          case atStart => exact ⟨((⟨#[]⟩ : ByteArray)), (0), (by first | rfl | (simp; done) | (simp [*]; done)), (by first | rfl | (simp; done) | (simp [*]; done)), H', ⟨Nat.le_refl _⟩, ⟨by repeat (first | (with_reducible first | exact HB.out | apply below_alloc | apply pw_below_drewN | apply below_drew1) | exact HB.out)⟩⟩
          case round =>
            clear H'
            try clear p1
            try clear q1
            try clear hx1
            try clear c2
            try clear c2b0
            try clear c2b1
            try clear p2
            try clear c3
            try clear c3b0
            try clear c4
            try clear c4b0
            try clear c6
            try clear p6
            try clear hx194_0
            try clear hx194_1
            try clear hx194_2
            try clear p194
            try clear p2
            try clear q194
            obtain ⟨x4_2, x6_2, rfl, rfl, HA, HK2, HB⟩ := hrel
            cases gk with
            | zero => exact absurd HA.out (by simp [scarfjointref01_Write.l1])
            | succ k2 =>
              have H := HA.out
              clear HA
              simp only [scarfjointref01_Write.l1] at H
              by_cases c9 : x6_2 < (l0.length : Int)
              · rw [if_pos c9] at H
                have c9b0 : decide (x6_2 < (l0.length : Int)) = true := decide_eq_true c9
                clear c9
                have HC10 := Aside0.mk H
                clear H
                go_upto_region 12 with (fail)
                repeat (go_quiet (fail); go_upto_region 12 with (fail))
                go_cut [43] (fun v43 wc => ∃ (kq : Nat) (x43_9 : Bool), v43 = .bool x43_9 ∧ Aside0 (scarfjointref01_Write.j2 kq l0 x4_2 x6_2 x43_9 = some (r1, r2)) ∧ Aside0 (kq ≤ k2) ∧ Aside0 (Below w.heap.size w wc))
                case first =>
                  have H := HC10.out
                  clear HC10
                  by_cases c11 : x6_2 > 0
                  · rw [if_pos c11] at H
                    have c11b0 : decide (0 < x6_2) = true := decide_eq_true c11
                    clear c11
                    (first | rw [c11b0] | (simp only [i64_w, i32_w]; rw [c11b0]) | skip)
                    by_cases c12 : 0 ≤ x6_2
                    · rw [if_pos c12] at H
                      have c12b0 : decide (0 ≤ x6_2) = true := decide_eq_true c12
                      clear c12
                      obtain ⟨ji13, hji13⟩ : ∃ j_ : Int, (wrap64 (x6_2 - 1)) = j_ := ⟨_, rfl⟩
                      replace H : (if 0 ≤ (ji13) then (if (ji13) < (l0.length : Int) then (scarfjointref01_Write.j2 k2 l0 x4_2 x6_2 (((rd_T46 l0 x6_2).f2) != ((rd_T46 l0 (ji13)).f2))) else (none)) else (none)) = some (r1, r2) := by first | (rw [hji13] at H; exact H) | (simp only [hji13] at H ⊢; exact H)
                      have hji13w : (IntKind.i64.wrap (x6_2 - 1)) = ji13 := (i64_w _).trans hji13
                      by_cases c14 : 0 ≤ (ji13)
                      · rw [if_pos c14] at H
                        have c14b0 : decide (0 ≤ (ji13)) = true := decide_eq_true c14
                        clear c14
                        by_cases c15 : (ji13) < (l0.length : Int)
                        · rw [if_pos c15] at H
                          have c15b0 : decide ((ji13) < (l0.length : Int)) = true := decide_eq_true c15
                          clear c15
                          have H' := Aside0.mk H
                          clear H
                          have p196 : 0 ≤ (x6_2 : Int) := of_decide_eq_true (by first | (with_reducible assumption) | assumption)
                          have q196 : x6_2 < (l0.length : Int) := of_decide_eq_true (by first | (with_reducible assumption) | assumption)
                          obtain ⟨ad196, e196, hx196_0, hx196_1, hx196_2⟩ := at_T46 HR0.out x6_2 p196 q196
                          cases e196
                          replace hx196_0 := (HB.out.cell (World.block_lt_of_cell? w _ hx196_0)).trans hx196_0
                          replace hx196_1 := (HB.out.cell (World.block_lt_of_cell? w _ hx196_1)).trans hx196_1
                          replace hx196_2 := (HB.out.cell (World.block_lt_of_cell? w _ hx196_2)).trans hx196_2
                          replace p196 := eq_true p196
                          replace q196 := eq_true q196
                          have p197 : 0 ≤ ((ji13) : Int) := of_decide_eq_true (by first | (with_reducible assumption) | assumption)
                          have q197 : (ji13) < (l0.length : Int) := of_decide_eq_true (by first | (with_reducible assumption) | assumption)
                          obtain ⟨ad197, e197, hx197_0, hx197_1, hx197_2⟩ := at_T46 HR0.out (ji13) p197 q197
                          obtain rfl : ad196 = ad197 := (by injection e197)
                          replace hx197_0 := (HB.out.cell (World.block_lt_of_cell? w _ hx197_0)).trans hx197_0
                          replace hx197_1 := (HB.out.cell (World.block_lt_of_cell? w _ hx197_1)).trans hx197_1
                          replace hx197_2 := (HB.out.cell (World.block_lt_of_cell? w _ hx197_2)).trans hx197_2
                          replace p197 := eq_true p197
                          replace q197 := eq_true q197
                          go_wp2
                          repeat (go_quiet (fail); try go_wp2)
                          go_meet
                          case rel => exact ⟨_, ((((rd_T46 l0 x6_2).f2) != ((rd_T46 l0 (ji13)).f2))), (by first | rfl | (simp; done) | (simp only [← hji13] <;> (first | rfl | simp)) | (simp [*]; done)), H', ⟨by have := HK1.out; have := HK2.out; first | omega | exact Nat.le_refl _⟩, ⟨by repeat (first | (with_reducible first | exact HB.out | apply below_alloc | apply pw_below_drewN | apply below_drew1) | exact HB.out)⟩⟩
                        · rw [if_neg c15] at H
                          exact absurd H (by simp)
                      · rw [if_neg c14] at H
                        exact absurd H (by simp)
                    · rw [if_neg c12] at H
                      exact absurd H (by simp)
                  · rw [if_neg c11] at H
                    have c11b0 : decide (0 < x6_2) = false := decide_eq_false c11
                    clear c11
                    (first | rw [c11b0] | (simp only [i64_w, i32_w]; rw [c11b0]) | skip)
                    have H' := Aside0.mk H
                    clear H
                    go_wp2
                    repeat (go_quiet (fail); try go_wp2)
                    go_meet
                    case rel => exact ⟨_, (false), (by first | rfl | (simp; done) | (simp [*]; done)), H', ⟨by have := HK1.out; have := HK2.out; first | omega | exact Nat.le_refl _⟩, ⟨by repeat (first | (with_reducible first | exact HB.out | apply below_alloc | apply pw_below_drewN | apply below_drew1) | exact HB.out)⟩⟩
                case rest =>
                  clear HC10
                  try clear c1
                  try clear p1
                  try clear q1
                  try clear hx1
                  try clear c2
                  try clear c2b0
                  try clear c2b1
                  try clear p2
                  try clear c3
                  try clear c3b0
                  try clear c4
                  try clear c4b0
                  try clear c6
                  try clear p6
                  try clear c9
                  try clear c9b0
                  try clear c11
                  try clear c11b0
                  try clear c12
                  try clear c12b0
                  try clear c14
                  try clear c14b0
                  try clear c15
                  try clear c15b0
                  try clear hx194_0
                  try clear hx194_1
                  try clear hx194_2
                  try clear hx196_0
                  try clear hx196_1
                  try clear hx196_2
                  try clear hx197_0
                  try clear hx197_1
                  try clear hx197_2
                  try clear p1
                  try clear p194
                  try clear p196
                  try clear p197
                  try clear p2
                  try clear p6
                  try clear q1
                  try clear q194
                  try clear q196
                  try clear q197
                  obtain ⟨kq, x43_9, rfl, HA, HJ9, HB⟩ := hcut
                  cases kq with
                  | zero => exact absurd HA.out (by simp [scarfjointref01_Write.j2])
                  | succ kj9 =>
                    have H := HA.out
                    clear HA
                    simp only [scarfjointref01_Write.j2] at H
                    by_cases c16 : x43_9 = true
                    · subst c16
                      have H1 : (if x4_2.size + 1 ≤ 9223372036854775807 then (if 0 ≤ x6_2 then (if x6_2 < (l0.length : Int) then ((scarfjointref01_text.f ((rd_T46 l0 x6_2).f0) ((rd_T46 l0 x6_2).f1) ((rd_T46 l0 x6_2).f2)).bind fun t199 => (if x4_2.size + 1 + t199.size ≤ 9223372036854775807 then (scarfjointref01_Write.l1 kj9 l0 ((x4_2 ++ (⟨#[10]⟩ : ByteArray)) ++ t199) (wrap64 (x6_2 + 1))) else (none))) else (none)) else (none)) else (none)) = some (r1, r2) := by rw [if_pos rfl] at H; exact H
                      clear H
                      have H := H1
                      clear H1
                      by_cases c17 : x4_2.size + 1 ≤ 9223372036854775807
                      · rw [if_pos c17] at H
                        have c17b0 := eq_true c17
                        have c17b1 : decide (x4_2.size + 1 ≤ 9223372036854775807) = true := decide_eq_true c17
                        try have c17b2 : (9223372036854775807 < x4_2.size + 1) = False := eq_false (Nat.not_lt.2 c17)
                        by_cases c18 : 0 ≤ x6_2
                        · rw [if_pos c18] at H
                          have c18b0 : decide (0 ≤ x6_2) = true := decide_eq_true c18
                          clear c18
                          by_cases c19 : x6_2 < (l0.length : Int)
                          · rw [if_pos c19] at H
                            have c19b0 : decide (x6_2 < (l0.length : Int)) = true := decide_eq_true c19
                            clear c19
                            replace H := Option.bind_eq_some_iff.mp H
                            obtain ⟨t199, A200, H⟩ := H
                            replace H : (if x4_2.size + 1 + t199.size ≤ 9223372036854775807 then (scarfjointref01_Write.l1 kj9 l0 ((x4_2 ++ (⟨#[10]⟩ : ByteArray)) ++ t199) (wrap64 (x6_2 + 1))) else (none)) = some (r1, r2) := H
                            have A20 := Aside0.mk A200
                            clear A200
                            by_cases c21 : x4_2.size + 1 + t199.size ≤ 9223372036854775807
                            · rw [if_pos c21] at H
                              have c21b0 := eq_true c21
                              have c21b1 : decide (x4_2.size + 1 + t199.size ≤ 9223372036854775807) = true := decide_eq_true c21
                              try have c21b2 : (9223372036854775807 < x4_2.size + 1 + t199.size) = False := eq_false (Nat.not_lt.2 c21)
                              have H' := Aside0.mk H
                              clear H
                              have p198 : 0 ≤ (x6_2 : Int) := of_decide_eq_true (by first | (with_reducible assumption) | assumption)
                              have q198 : x6_2 < (l0.length : Int) := of_decide_eq_true (by first | (with_reducible assumption) | assumption)
                              obtain ⟨ad198, e198, hx198_0, hx198_1, hx198_2⟩ := at_T46 HR0.out x6_2 p198 q198
                              cases e198
                              replace hx198_0 := (HB.out.cell (World.block_lt_of_cell? w _ hx198_0)).trans hx198_0
                              replace hx198_1 := (HB.out.cell (World.block_lt_of_cell? w _ hx198_1)).trans hx198_1
                              replace hx198_2 := (HB.out.cell (World.block_lt_of_cell? w _ hx198_2)).trans hx198_2
                              replace p198 := eq_true p198
                              replace q198 := eq_true q198
                              go_wp2_with (first | (go_at_call 36; (with_reducible refine (scarfjointref01_text.calls ((rd_T46 l0 x6_2).f0) ((rd_T46 l0 x6_2).f1) ((rd_T46 l0 x6_2).f2) t199 _ A20.out).mono ?_); rintro e w22 ⟨rfl, hb⟩; have n0_ := Aside0.mk (below_step (by repeat (first | (with_reducible first | exact HB.out | apply below_alloc | apply pw_below_drewN | apply below_drew1) | exact HB.out)) hb); clear HB; have HB := n0_; clear n0_; (try clear hb); (try clear hb2); (try clear hk); (try clear hi)))
                              repeat (go_quiet (first | (go_at_call 36; (with_reducible refine (scarfjointref01_text.calls ((rd_T46 l0 x6_2).f0) ((rd_T46 l0 x6_2).f1) ((rd_T46 l0 x6_2).f2) t199 _ A20.out).mono ?_); rintro e w22 ⟨rfl, hb⟩; have n0_ := Aside0.mk (below_step (by repeat (first | (with_reducible first | exact HB.out | apply below_alloc | apply pw_below_drewN | apply below_drew1) | exact HB.out)) hb); clear HB; have HB := n0_; clear n0_; (try clear hb); (try clear hb2); (try clear hk); (try clear hi))); try go_wp2_with (first | (go_at_call 36; (with_reducible refine (scarfjointref01_text.calls ((rd_T46 l0 x6_2).f0) ((rd_T46 l0 x6_2).f1) ((rd_T46 l0 x6_2).f2) t199 _ A20.out).mono ?_); rintro e w22 ⟨rfl, hb⟩; have n0_ := Aside0.mk (below_step (by repeat (first | (with_reducible first | exact HB.out | apply below_alloc | apply pw_below_drewN | apply below_drew1) | exact HB.out)) hb); clear HB; have HB := n0_; clear n0_; (try clear hb); (try clear hb2); (try clear hk); (try clear hi))))
                              go_roundg kj9
                              case measure => have := HK1.out; have := HK2.out; have := HJ9.out; omega
                              case rel => exact ⟨((x4_2 ++ (⟨#[10]⟩ : ByteArray)) ++ t199), (wrap64 (x6_2 + 1)), (by first | rfl | (simp; done) | (simp [*]; done)), (by first | rfl | (simp; done) | (simp [*]; done)), H', ⟨by have := HK1.out; have := HK2.out; have := HJ9.out; omega⟩, ⟨by repeat (first | (with_reducible first | exact HB.out | apply below_alloc | apply pw_below_drewN | apply below_drew1) | exact HB.out)⟩⟩
                            · rw [if_neg c21] at H
                              exact absurd H (by simp)
                          · rw [if_neg c19] at H
                            exact absurd H (by simp)
                        · rw [if_neg c18] at H
                          exact absurd H (by simp)
                      · rw [if_neg c17] at H
                        exact absurd H (by simp)
                    · replace c16 := Bool.eq_false_iff.mpr c16
                      subst c16
                      have H1 : (if x6_2 > 0 then (if x4_2.size + 1 ≤ 9223372036854775807 then (if 0 ≤ x6_2 then (if x6_2 < (l0.length : Int) then ((scarfjointref01_text.f ((rd_T46 l0 x6_2).f0) ((rd_T46 l0 x6_2).f1) ((rd_T46 l0 x6_2).f2)).bind fun t201 => (if x4_2.size + 1 + t201.size ≤ 9223372036854775807 then (scarfjointref01_Write.l1 kj9 l0 ((x4_2 ++ (⟨#[32]⟩ : ByteArray)) ++ t201) (wrap64 (x6_2 + 1))) else (none))) else (none)) else (none)) else (none)) else (if 0 ≤ x6_2 then (if x6_2 < (l0.length : Int) then ((scarfjointref01_text.f ((rd_T46 l0 x6_2).f0) ((rd_T46 l0 x6_2).f1) ((rd_T46 l0 x6_2).f2)).bind fun t203 => (if x4_2.size + t203.size ≤ 9223372036854775807 then (scarfjointref01_Write.l1 kj9 l0 (x4_2 ++ t203) (wrap64 (x6_2 + 1))) else (none))) else (none)) else (none))) = some (r1, r2) := by rw [if_neg (show ¬ (false = true) by decide)] at H; exact H
                      clear H
                      have H := H1
                      clear H1
                      by_cases c23 : x6_2 > 0
                      · rw [if_pos c23] at H
                        have c23b0 : decide (0 < x6_2) = true := decide_eq_true c23
                        clear c23
                        by_cases c24 : x4_2.size + 1 ≤ 9223372036854775807
                        · rw [if_pos c24] at H
                          have c24b0 := eq_true c24
                          have c24b1 : decide (x4_2.size + 1 ≤ 9223372036854775807) = true := decide_eq_true c24
                          try have c24b2 : (9223372036854775807 < x4_2.size + 1) = False := eq_false (Nat.not_lt.2 c24)
                          by_cases c25 : 0 ≤ x6_2
                          · rw [if_pos c25] at H
                            have c25b0 : decide (0 ≤ x6_2) = true := decide_eq_true c25
                            clear c25
                            by_cases c26 : x6_2 < (l0.length : Int)
                            · rw [if_pos c26] at H
                              have c26b0 : decide (x6_2 < (l0.length : Int)) = true := decide_eq_true c26
                              clear c26
                              replace H := Option.bind_eq_some_iff.mp H
                              obtain ⟨t201, A270, H⟩ := H
                              replace H : (if x4_2.size + 1 + t201.size ≤ 9223372036854775807 then (scarfjointref01_Write.l1 kj9 l0 ((x4_2 ++ (⟨#[32]⟩ : ByteArray)) ++ t201) (wrap64 (x6_2 + 1))) else (none)) = some (r1, r2) := H
                              have A27 := Aside0.mk A270
                              clear A270
                              by_cases c28 : x4_2.size + 1 + t201.size ≤ 9223372036854775807
                              · rw [if_pos c28] at H
                                have c28b0 := eq_true c28
                                have c28b1 : decide (x4_2.size + 1 + t201.size ≤ 9223372036854775807) = true := decide_eq_true c28
                                try have c28b2 : (9223372036854775807 < x4_2.size + 1 + t201.size) = False := eq_false (Nat.not_lt.2 c28)
                                have H' := Aside0.mk H
                                clear H
                                have p200 : 0 ≤ (x6_2 : Int) := of_decide_eq_true (by first | (with_reducible assumption) | assumption)
                                have q200 : x6_2 < (l0.length : Int) := of_decide_eq_true (by first | (with_reducible assumption) | assumption)
                                obtain ⟨ad200, e200, hx200_0, hx200_1, hx200_2⟩ := at_T46 HR0.out x6_2 p200 q200
                                cases e200
                                replace hx200_0 := (HB.out.cell (World.block_lt_of_cell? w _ hx200_0)).trans hx200_0
                                replace hx200_1 := (HB.out.cell (World.block_lt_of_cell? w _ hx200_1)).trans hx200_1
                                replace hx200_2 := (HB.out.cell (World.block_lt_of_cell? w _ hx200_2)).trans hx200_2
                                replace p200 := eq_true p200
                                replace q200 := eq_true q200
                                go_wp2_with (first | (go_at_call 36; (with_reducible refine (scarfjointref01_text.calls ((rd_T46 l0 x6_2).f0) ((rd_T46 l0 x6_2).f1) ((rd_T46 l0 x6_2).f2) t201 _ A27.out).mono ?_); rintro e w29 ⟨rfl, hb⟩; have n0_ := Aside0.mk (below_step (by repeat (first | (with_reducible first | exact HB.out | apply below_alloc | apply pw_below_drewN | apply below_drew1) | exact HB.out)) hb); clear HB; have HB := n0_; clear n0_; (try clear hb); (try clear hb2); (try clear hk); (try clear hi)))
                                repeat (go_quiet (first | (go_at_call 36; (with_reducible refine (scarfjointref01_text.calls ((rd_T46 l0 x6_2).f0) ((rd_T46 l0 x6_2).f1) ((rd_T46 l0 x6_2).f2) t201 _ A27.out).mono ?_); rintro e w29 ⟨rfl, hb⟩; have n0_ := Aside0.mk (below_step (by repeat (first | (with_reducible first | exact HB.out | apply below_alloc | apply pw_below_drewN | apply below_drew1) | exact HB.out)) hb); clear HB; have HB := n0_; clear n0_; (try clear hb); (try clear hb2); (try clear hk); (try clear hi))); try go_wp2_with (first | (go_at_call 36; (with_reducible refine (scarfjointref01_text.calls ((rd_T46 l0 x6_2).f0) ((rd_T46 l0 x6_2).f1) ((rd_T46 l0 x6_2).f2) t201 _ A27.out).mono ?_); rintro e w29 ⟨rfl, hb⟩; have n0_ := Aside0.mk (below_step (by repeat (first | (with_reducible first | exact HB.out | apply below_alloc | apply pw_below_drewN | apply below_drew1) | exact HB.out)) hb); clear HB; have HB := n0_; clear n0_; (try clear hb); (try clear hb2); (try clear hk); (try clear hi))))
                                go_roundg kj9
                                case measure => have := HK1.out; have := HK2.out; have := HJ9.out; omega
                                case rel => exact ⟨((x4_2 ++ (⟨#[32]⟩ : ByteArray)) ++ t201), (wrap64 (x6_2 + 1)), (by first | rfl | (simp; done) | (simp [*]; done)), (by first | rfl | (simp; done) | (simp [*]; done)), H', ⟨by have := HK1.out; have := HK2.out; have := HJ9.out; omega⟩, ⟨by repeat (first | (with_reducible first | exact HB.out | apply below_alloc | apply pw_below_drewN | apply below_drew1) | exact HB.out)⟩⟩
                              · rw [if_neg c28] at H
                                exact absurd H (by simp)
                            · rw [if_neg c26] at H
                              exact absurd H (by simp)
                          · rw [if_neg c25] at H
                            exact absurd H (by simp)
                        · rw [if_neg c24] at H
                          exact absurd H (by simp)
                      · rw [if_neg c23] at H
                        have c23b0 : decide (0 < x6_2) = false := decide_eq_false c23
                        clear c23
                        by_cases c30 : 0 ≤ x6_2
                        · rw [if_pos c30] at H
                          have c30b0 : decide (0 ≤ x6_2) = true := decide_eq_true c30
                          clear c30
                          by_cases c31 : x6_2 < (l0.length : Int)
                          · rw [if_pos c31] at H
                            have c31b0 : decide (x6_2 < (l0.length : Int)) = true := decide_eq_true c31
                            clear c31
                            replace H := Option.bind_eq_some_iff.mp H
                            obtain ⟨t203, A320, H⟩ := H
                            replace H : (if x4_2.size + t203.size ≤ 9223372036854775807 then (scarfjointref01_Write.l1 kj9 l0 (x4_2 ++ t203) (wrap64 (x6_2 + 1))) else (none)) = some (r1, r2) := H
                            have A32 := Aside0.mk A320
                            clear A320
                            by_cases c33 : x4_2.size + t203.size ≤ 9223372036854775807
                            · rw [if_pos c33] at H
                              have c33b0 := eq_true c33
                              have c33b1 : decide (x4_2.size + t203.size ≤ 9223372036854775807) = true := decide_eq_true c33
                              try have c33b2 : (9223372036854775807 < x4_2.size + t203.size) = False := eq_false (Nat.not_lt.2 c33)
                              have H' := Aside0.mk H
                              clear H
                              have p202 : 0 ≤ (x6_2 : Int) := of_decide_eq_true (by first | (with_reducible assumption) | assumption)
                              have q202 : x6_2 < (l0.length : Int) := of_decide_eq_true (by first | (with_reducible assumption) | assumption)
                              obtain ⟨ad202, e202, hx202_0, hx202_1, hx202_2⟩ := at_T46 HR0.out x6_2 p202 q202
                              cases e202
                              replace hx202_0 := (HB.out.cell (World.block_lt_of_cell? w _ hx202_0)).trans hx202_0
                              replace hx202_1 := (HB.out.cell (World.block_lt_of_cell? w _ hx202_1)).trans hx202_1
                              replace hx202_2 := (HB.out.cell (World.block_lt_of_cell? w _ hx202_2)).trans hx202_2
                              replace p202 := eq_true p202
                              replace q202 := eq_true q202
                              go_wp2_with (first | (go_at_call 36; (with_reducible refine (scarfjointref01_text.calls ((rd_T46 l0 x6_2).f0) ((rd_T46 l0 x6_2).f1) ((rd_T46 l0 x6_2).f2) t203 _ A32.out).mono ?_); rintro e w34 ⟨rfl, hb⟩; have n0_ := Aside0.mk (below_step (by repeat (first | (with_reducible first | exact HB.out | apply below_alloc | apply pw_below_drewN | apply below_drew1) | exact HB.out)) hb); clear HB; have HB := n0_; clear n0_; (try clear hb); (try clear hb2); (try clear hk); (try clear hi)))
                              repeat (go_quiet (first | (go_at_call 36; (with_reducible refine (scarfjointref01_text.calls ((rd_T46 l0 x6_2).f0) ((rd_T46 l0 x6_2).f1) ((rd_T46 l0 x6_2).f2) t203 _ A32.out).mono ?_); rintro e w34 ⟨rfl, hb⟩; have n0_ := Aside0.mk (below_step (by repeat (first | (with_reducible first | exact HB.out | apply below_alloc | apply pw_below_drewN | apply below_drew1) | exact HB.out)) hb); clear HB; have HB := n0_; clear n0_; (try clear hb); (try clear hb2); (try clear hk); (try clear hi))); try go_wp2_with (first | (go_at_call 36; (with_reducible refine (scarfjointref01_text.calls ((rd_T46 l0 x6_2).f0) ((rd_T46 l0 x6_2).f1) ((rd_T46 l0 x6_2).f2) t203 _ A32.out).mono ?_); rintro e w34 ⟨rfl, hb⟩; have n0_ := Aside0.mk (below_step (by repeat (first | (with_reducible first | exact HB.out | apply below_alloc | apply pw_below_drewN | apply below_drew1) | exact HB.out)) hb); clear HB; have HB := n0_; clear n0_; (try clear hb); (try clear hb2); (try clear hk); (try clear hi))))
                              go_roundg kj9
                              case measure => have := HK1.out; have := HK2.out; have := HJ9.out; omega
                              case rel => exact ⟨(x4_2 ++ t203), (wrap64 (x6_2 + 1)), (by first | rfl | (simp; done) | (simp [*]; done)), (by first | rfl | (simp; done) | (simp [*]; done)), H', ⟨by have := HK1.out; have := HK2.out; have := HJ9.out; omega⟩, ⟨by repeat (first | (with_reducible first | exact HB.out | apply below_alloc | apply pw_below_drewN | apply below_drew1) | exact HB.out)⟩⟩
                            · rw [if_neg c33] at H
                              exact absurd H (by simp)
                          · rw [if_neg c31] at H
                            exact absurd H (by simp)
                        · rw [if_neg c30] at H
                          exact absurd H (by simp)
              · rw [if_neg c9] at H
                have c9b0 : decide (x6_2 < (l0.length : Int)) = false := decide_eq_false c9
                clear c9
                by_cases c35 : (x4_2.size : Int) > 20000
                · rw [if_pos c35] at H
                  have c35b0 : decide (20000 < (x4_2.size : Int)) = true := decide_eq_true c35
                  have c35b1 : decide (20000 < x4_2.size) = true := decide_eq_true (by omega)
                  clear c35
                  simp only [Option.some.injEq, Prod.mk.injEq] at H
                  obtain ⟨rfl, rfl⟩ := H
                  go_wp2
                  repeat (go_quiet (fail); try go_wp2)
                  go_ret2
                  exact ⟨by first | rfl | (simp [errW_none, errW_some] <;> rfl) | (simp [*, errW_none, errW_some] <;> rfl), by repeat (first | (with_reducible first | exact HB.out | apply below_alloc | apply pw_below_drewN | apply below_drew1) | exact HB.out)⟩
                · rw [if_neg c35] at H
                  have c35b0 : decide (20000 < (x4_2.size : Int)) = false := decide_eq_false c35
                  have c35b1 : decide (20000 < x4_2.size) = false := decide_eq_false (by omega)
                  clear c35
                  simp only [Option.some.injEq, Prod.mk.injEq] at H
                  obtain ⟨rfl, rfl⟩ := H
                  go_wp2
                  repeat (go_quiet (fail); try go_wp2)
                  go_ret2
                  exact ⟨by first | rfl | (simp [errW_none, errW_some] <;> rfl) | (simp [*, errW_none, errW_some] <;> rfl), by repeat (first | (with_reducible first | exact HB.out | apply below_alloc | apply pw_below_drewN | apply below_drew1) | exact HB.out)⟩

open Sj in
theorem rwrite0 (l : List S46) (hl : l.length ≤ 4000) (ho : ∀ t ∈ l, okW t.f1) : ∀ (d i : Nat), l.length - i = d → i ≤ l.length → ∀ r, 
    (((l.drop i).all fun t => right t.f0 (L t.f1)) = true → Ev (fun k => scarfjointref01_Write.l1 k l ⟨#[]⟩ 0) r) → (((l.drop i).all fun t => right t.f0 (L t.f1)) = false → r = ((⟨#[]⟩ : ByteArray), 1)) → Ev (fun k => scarfjointref01_Write.l0 k l ⟨#[]⟩ (i : Int)) r := by
  intro d
  induction d with
  | zero =>
    intro i hd hi r h1 h2
    refine Ev.step (f := fun k => scarfjointref01_Write.l1 k l ⟨#[]⟩ 0) (fun k => ?_) (h1 ?_)
    · rw [scarfjointref01_Write.l0, if_neg (by omega)]
    · rw [List.drop_of_length_le (by omega)]; rfl
  | succ d ih =>
    intro i hd hi r h1 h2
    have hlt : i < l.length := by omega
    have hw := ho _ (List.getElem_mem hlt)
    have hD : (l.drop i).all (fun t => right t.f0 (L t.f1)) = (right l[i].f0 (L l[i].f1) && (l.drop (i + 1)).all (fun t => right t.f0 (L t.f1))) := by
      rw [List.drop_eq_getElem_cons hlt, List.all_cons]
    rw [hD] at h1 h2
    by_cases hr : right l[i].f0 (L l[i].f1) = true
    · refine Ev.step (f := fun k => scarfjointref01_Write.l0 k l ⟨#[]⟩ ((i + 1 : Nat) : Int)) (fun k => ?_) (ih (i + 1) (by omega) (by omega) r (fun h => h1 (by rw [hr, h]; rfl)) (fun h => h2 (by rw [h, Bool.and_false])))
      rw [scarfjointref01_Write.l0, if_pos (by omega), if_pos (by omega), rdT_at l i hlt, nRight.f, if_pos hw, Option.bind_some, if_pos hr, w64 (x := (i : Int) + 1) (by omega) (by omega)]
      rfl
    · have hr' : right l[i].f0 (L l[i].f1) = false := by simpa using hr
      rw [h2 (by rw [hr']; rfl)]
      refine Ev.step (f := fun k => some ((⟨#[]⟩ : ByteArray), 1)) (fun k => ?_) (Ev.now _)
      rw [scarfjointref01_Write.l0, if_pos (by omega), if_pos (by omega), rdT_at l i hlt, nRight.f, if_pos hw, Option.bind_some, if_neg hr]
open Sj in
theorem rwrite1 (l : List S46) (hl : l.length ≤ 4000) (ho : ∀ t ∈ l, okW t.f1) (hr : ∀ t ∈ l, right t.f0 (L t.f1) = true) : ∀ (d i : Nat), l.length - i = d → i ≤ l.length → ∀ out : ByteArray, out.size ≤ i * 63 →
    Ev (fun k => scarfjointref01_Write.l1 k l out (i : Int)) (if 20000 < (L out ++ restT (l.map toT) i).length then ((⟨#[]⟩ : ByteArray), 3) else (⟨(L out ++ restT (l.map toT) i).toArray⟩, 0)) := by
  intro d
  induction d with
  | zero =>
    intro i hd hi out hout
    have hi' : i = (l.map toT).length := by simp; omega
    refine Ev.step (f := fun k => if (out.size : Int) > 20000 then some ((⟨#[]⟩ : ByteArray), 3) else some (out, 0)) (fun k => ?_) ?_
    · rw [scarfjointref01_Write.l1, if_neg (by omega)]
    · rw [hi', restT_end, List.append_nil, L_len]
      by_cases h2 : 20000 < out.size
      · rw [if_pos h2]
        refine Ev.congr (f := fun _ => some _) (fun k => by rw [if_pos (by omega)]) (Ev.now _)
      · rw [if_neg h2]
        refine Ev.congr (f := fun _ => some _) (fun k => by rw [if_neg (by omega)]) (Ev.now _)
  | succ d ih =>
    intro i hd hi out hout
    have hlt : i < l.length := by omega
    have hw := ho _ (List.getElem_mem hlt)
    have hrr := right_len (hr _ (List.getElem_mem hlt))
    have htx := rtext_at l[i].f0 l[i].f1 l[i].f2 hw
    obtain ⟨q, hq⟩ : ∃ q, q = quo l[i].f0 (L l[i].f1) := ⟨_, rfl⟩
    rw [← hq] at htx hrr
    have hLq : L (⟨q.toArray⟩ : ByteArray) = q := rfl
    have hqz : (⟨q.toArray⟩ : ByteArray).size = q.length := by rw [← L_len]
    have hmt : ∀ j (hj : j < l.length), (l.map toT)[j]'(by simpa using hj) = toT l[j] := fun j hj => by simp
    cases i with
    | zero =>
      have hout' : out.size = 0 := by omega
      refine Ev.step (f := fun k => scarfjointref01_Write.j2 k l out 0 false) (fun k => ?_) ?_
      · rw [scarfjointref01_Write.l1, if_pos (by omega), if_neg (by omega)]; rfl
      · refine Ev.step (f := fun k => scarfjointref01_Write.l1 k l (out ++ ⟨q.toArray⟩) ((0 + 1 : Nat) : Int)) (fun k => ?_) ?_
        · rw [scarfjointref01_Write.j2, if_neg (by simp), if_neg (by omega), if_pos (by omega), if_pos (by omega), show ((0 : Int)) = ((0 : Nat) : Int) from rfl, rdT_at l 0 hlt, htx, Option.bind_some, if_pos (by rw [hqz]; omega), w64 (by omega) (by omega)]
          rfl
        · have := ih (0 + 1) (by omega) (by omega) (out ++ ⟨q.toArray⟩) (by rw [← L_len, L_append, List.length_append, L_len out, hLq]; omega)
          rw [L_append, hLq, List.append_assoc] at this
          rw [restT_zero _ (by simpa using hlt), hmt 0 hlt, show quo (toT l[0]).kind (toT l[0]).text = q from hq.symm]
          exact this
    | succ i =>
      have hlt' : i < l.length := by omega
      refine Ev.step (f := fun k => scarfjointref01_Write.j2 k l out ((i + 1 : Nat) : Int) (l[i + 1].f2 != l[i].f2)) (fun k => ?_) ?_
      · rw [scarfjointref01_Write.l1, if_pos (by omega), if_pos (by omega), if_pos (by omega), w64 (by omega) (by omega), if_pos (by omega), if_pos (by omega), rdT_at l (i + 1) hlt, show (((i + 1 : Nat) : Int) - 1) = ((i : Nat) : Int) by omega, rdT_at l i hlt']
      · refine Ev.step (f := fun k => scarfjointref01_Write.l1 k l ((out ++ ⟨#[if l[i].f2 ≠ l[i + 1].f2 then 10 else 32]⟩) ++ ⟨q.toArray⟩) ((i + 1 + 1 : Nat) : Int)) (fun k => ?_) ?_
        · rw [scarfjointref01_Write.j2]
          by_cases hne : l[i].f2 = l[i + 1].f2
          · have hb : (l[i + 1].f2 != l[i].f2) = false := by simp [hne]
            rw [hb, if_neg (by simp), if_pos (by omega), if_pos (by omega), if_pos (by omega), if_pos (by omega), rdT_at l (i + 1) hlt, htx, Option.bind_some, if_pos (by rw [hqz]; omega), w64 (by omega) (by omega), if_neg (by simp [hne])]
            rfl
          · have hb : (l[i + 1].f2 != l[i].f2) = true := by simp [bne_iff_ne]; exact fun h => hne h.symm
            rw [hb, if_pos rfl, if_pos (by omega), if_pos (by omega), if_pos (by omega), rdT_at l (i + 1) hlt, htx, Option.bind_some, if_pos (by rw [hqz]; omega), w64 (by omega) (by omega), if_pos hne]
            rfl
        · have := ih (i + 1 + 1) (by omega) (by omega) ((out ++ ⟨#[if l[i].f2 ≠ l[i + 1].f2 then 10 else 32]⟩) ++ ⟨q.toArray⟩) (by
            rw [← L_len, L_append, L_append, List.length_append, List.length_append, L_len out, hLq]
            have : (L (⟨#[if l[i].f2 ≠ l[i + 1].f2 then 10 else 32]⟩ : ByteArray)).length = 1 := rfl
            omega)
          rw [L_append, L_append, hLq, List.append_assoc, List.append_assoc] at this
          rw [restT_succ _ i (by simpa using hlt), hmt (i + 1) hlt, hmt i hlt', show quo (toT l[i + 1]).kind (toT l[i + 1]).text = q from hq.symm]
          exact this
open Sj in
def nrWrite.f (l0 : List S46) : Option (ByteArray × Int) := if l0.length ≤ 4000 → ∀ t ∈ l0, okW t.f1 then some (writeS l0) else none
open Sj in
theorem nrWrite.ev (l0 : List S46) (r : ByteArray × Int) (h : nrWrite.f l0 = some r) : ∃ k, scarfjointref01_Write.f k l0 = some r := by
  unfold nrWrite.f at h
  by_cases hs : l0.length ≤ 4000 → ∀ t ∈ l0, okW t.f1
  · rw [if_pos hs] at h
    obtain rfl := Option.some.inj h
    unfold writeS writeT
    rw [List.length_map]
    by_cases hl : 4000 < l0.length
    · rw [if_pos hl]
      exact ⟨0, by unfold scarfjointref01_Write.f; rw [if_pos (by omega)]⟩
    · rw [if_neg hl]
      have ho := hs (by omega)
      have hall : (l0.map toT).all (fun t => right t.kind t.text) = l0.all (fun t => right t.f0 (L t.f1)) := by rw [List.all_map]; rfl
      rw [hall]
      have h0 := rwrite0 l0 (by omega) ho l0.length 0 (by omega) (by omega)
      rw [List.drop_zero] at h0
      by_cases ha : l0.all (fun t => right t.f0 (L t.f1)) = true
      · rw [if_pos ha]
        have h1 := rwrite1 l0 (by omega) ho (by simpa using ha) l0.length 0 (by omega) (by omega) ⟨#[]⟩ (by decide)
        have h2 := h0 _ (fun _ => h1) (fun hf => by rw [ha] at hf; cases hf)
        obtain ⟨k, hk⟩ := h2.rounds
        refine ⟨k, ?_⟩
        unfold scarfjointref01_Write.f
        rw [if_neg (by omega)]
        refine hk.trans ?_
        have hz : L (⟨#[]⟩ : ByteArray) ++ restT (l0.map toT) 0 = joinA (l0.map toT) := rfl
        rw [hz]
        by_cases h2 : 20000 < (joinA (l0.map toT)).length
        · simp only [if_pos h2]
        · simp only [if_neg h2]
      · rw [if_neg ha]
        obtain ⟨k, hk⟩ := (h0 ((⟨#[]⟩ : ByteArray), 1) (fun hf => absurd hf ha) (fun _ => rfl)).rounds
        refine ⟨k, ?_⟩
        unfold scarfjointref01_Write.f
        rw [if_neg (by omega)]
        exact hk
  · rw [if_neg hs] at h; cases h

theorem nrWrite.calls (A0 : Option Addr) (c0 : Nat) (l0 : List (S46)) (r1 : ByteArray) (r2 : Int) (w : World) (hr0 : Kd.C k46 w A0 l0.length l0) (hc0 : l0.length ≤ c0) (h : nrWrite.f l0 = some (r1, r2)) :
    Calls Try.prog 20 #[.slice A0 l0.length c0] w fun e w' => e = .returned (.tuple #[.string r1, .int .i64 r2]) ∧ Below w.heap.size w w' := by
  obtain ⟨k, hk⟩ := nrWrite.ev l0 (r1, r2) h
  exact scarfjointref01_Write.calls k A0 c0 l0 r1 r2 w hr0 hc0 hk

end Go.Proofs.Ytkjikcmjcdlifaa.P
