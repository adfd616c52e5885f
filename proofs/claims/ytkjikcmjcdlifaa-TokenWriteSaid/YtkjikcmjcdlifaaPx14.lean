/- Written by a program of this place (mk.py: the kit's print, turned). Proved here: each function of this text, called, computes what its plain function of Lean tells, wherever that tells something. -/
import Derived.Test.YtkjikcmjcdlifaaPx0
import Derived.Test.YtkjikcmjcdlifaaPx4
import Derived.Test.YtkjikcmjcdlifaaPx5
import Derived.Test.YtkjikcmjcdlifaaPx8
import Derived.Test.YtkjikcmjcdlifaaPx9
import Derived.Test.YtkjikcmjcdlifaaPx10
namespace Go.Proofs.Ytkjikcmjcdlifaa.P
open Go.RowKit Go.Proofs.YtkjikcmjcdlifaaW.PrintWords Go.Proofs.YtkjikcmjcdlifaaW.PrintLast Go.Proofs.YtkjikcmjcdlifaaW.PrintMore
attribute [local go_sem] max2_int min2_int max_two min_two max_three min_three max_four min_four   -- for this text's walks alone
set_option linter.unusedVariables false
set_option linter.unusedSimpArgs false

/-! ### scarfjointlaw01_TokenWrite: function 5 -/
mutual
def scarfjointlaw01_TokenWrite.j0 : Nat → List (S46) → Bool → Option (Bool)
  | 0, _, _ => none
  | k + 1, x0, x16 => if x16 = true then ((scarfjointlaw01_awake.f).bind fun t210 => (some t210)) else ((api_Token_19.f x0).bind fun t211 => ((nWrite.f t211).bind fun bt214 => ((nrWrite.f x0).bind fun bt216 => (if bt214.1.toList = bt216.1.toList then (if bt214.2 = bt216.2 then (scarfjointlaw01_TokenWrite.j1 k x0 bt214.1 bt214.2 bt216.1 bt216.2 (bt214.2 != 0)) else (scarfjointlaw01_TokenWrite.j1 k x0 bt214.1 bt214.2 bt216.1 bt216.2 true)) else (scarfjointlaw01_TokenWrite.j1 k x0 bt214.1 bt214.2 bt216.1 bt216.2 true)))))
def scarfjointlaw01_TokenWrite.j1 : Nat → List (S46) → ByteArray → Int → ByteArray → Int → Bool → Option (Bool)
  | 0, _, _, _, _, _, _ => none
  | k + 1, x0, x3, x4, x5, x6, x40 => if x40 = true then (if x3.toList = x5.toList then (some (x4 == x6)) else (some false)) else ((nTokens.f x3).bind fun bt218 => (if bt218.2.2 = 0 then ((nrSame.f bt218.1 x0).bind fun t223 => (some t223)) else (some false)))
end
def scarfjointlaw01_TokenWrite.f (k : Nat) (l0 : List (S46)) : Option (Bool) := (scarfjointlaw01_awake.f).bind fun t208 => (if t208 = true then ((nFew.f l0).bind fun t209 => (scarfjointlaw01_TokenWrite.j0 k l0 (!t209))) else (scarfjointlaw01_TokenWrite.j0 k l0 true))
theorem scarfjointlaw01_TokenWrite.mono_l : ∀ k, (∀ y0 y1, LeO (scarfjointlaw01_TokenWrite.j0 k y0 y1) (scarfjointlaw01_TokenWrite.j0 (k + 1) y0 y1)) ∧ (∀ y0 y1 y2 y3 y4 y5, LeO (scarfjointlaw01_TokenWrite.j1 k y0 y1 y2 y3 y4 y5) (scarfjointlaw01_TokenWrite.j1 (k + 1) y0 y1 y2 y3 y4 y5))
  | 0 => ⟨fun _ _ r h => by simp [scarfjointlaw01_TokenWrite.j0] at h, fun _ _ _ _ _ _ r h => by simp [scarfjointlaw01_TokenWrite.j1] at h⟩
  | k + 1 => by
    obtain ⟨ih0, ih1⟩ := scarfjointlaw01_TokenWrite.mono_l k
    refine ⟨?_, ?_⟩
    · intro y0 y1
      unfold scarfjointlaw01_TokenWrite.j0
      repeat' first
      | (with_reducible exact ih0 _ _)
      | (with_reducible exact ih1 _ _ _ _ _ _)
      | (with_reducible exact LeO.refl _)
      | (with_reducible exact LeO.none _)
      | (with_reducible refine LeO.ite ?_ ?_)
      | (with_reducible refine LeO.bind ?_ (fun _ => ?_))
      | exact ih0 _ _
      | exact ih1 _ _ _ _ _ _
      | exact LeO.none _
      | refine LeO.ite ?_ ?_
      | refine LeO.bind ?_ (fun _ => ?_)
    · intro y0 y1 y2 y3 y4 y5
      unfold scarfjointlaw01_TokenWrite.j1
      repeat' first
      | (with_reducible exact ih0 _ _)
      | (with_reducible exact ih1 _ _ _ _ _ _)
      | (with_reducible exact LeO.refl _)
      | (with_reducible exact LeO.none _)
      | (with_reducible refine LeO.ite ?_ ?_)
      | (with_reducible refine LeO.bind ?_ (fun _ => ?_))
      | exact ih0 _ _
      | exact ih1 _ _ _ _ _ _
      | exact LeO.none _
      | refine LeO.ite ?_ ?_
      | refine LeO.bind ?_ (fun _ => ?_)
theorem scarfjointlaw01_TokenWrite.mono : ∀ a0 k, LeO (scarfjointlaw01_TokenWrite.f k a0) (scarfjointlaw01_TokenWrite.f (k + 1) a0) := by
  intro a0 k
  obtain ⟨ih0, ih1⟩ := scarfjointlaw01_TokenWrite.mono_l k
  unfold scarfjointlaw01_TokenWrite.f
  repeat' first
      | (with_reducible exact ih0 _ _)
      | (with_reducible exact ih1 _ _ _ _ _ _)
      | (with_reducible exact LeO.refl _)
      | (with_reducible exact LeO.none _)
      | (with_reducible refine LeO.ite ?_ ?_)
      | (with_reducible refine LeO.bind ?_ (fun _ => ?_))
      | exact ih0 _ _
      | exact ih1 _ _ _ _ _ _
      | exact LeO.none _
      | refine LeO.ite ?_ ?_
      | refine LeO.bind ?_ (fun _ => ?_)
set_option maxHeartbeats 8000000 in
set_option maxRecDepth 100000 in
theorem scarfjointlaw01_TokenWrite.calls (k : Nat) (A0 : Option Addr) (c0 : Nat) (l0 : List (S46)) (r : Bool) (w : World) (hr0 : Kd.C k46 w A0 l0.length l0) (hc0 : l0.length ≤ c0) (h : scarfjointlaw01_TokenWrite.f k l0 = some r) :
    Calls Try.prog 5 #[.slice A0 l0.length c0] w fun e w' => e = .returned (.bool r) ∧ Below w.heap.size w w' := by
  have HR0 := Aside0.mk hr0
  have HC0 := Aside0.mk hc0
  clear hr0 hc0
  have HB := Aside0.mk (Below.refl w.heap.size w)
  have H : ((scarfjointlaw01_awake.f).bind fun t208 => (if t208 = true then ((nFew.f l0).bind fun t209 => (scarfjointlaw01_TokenWrite.j0 k l0 (!t209))) else (scarfjointlaw01_TokenWrite.j0 k l0 true))) = some r := h
  clear h
  have HC2 := Aside0.mk H
  clear H
  go_enter Try.func5, Try.ntmps5
  go_upto_region 1 with (fail)
  go_cut [16] (fun v16 wc => ∃ (kq : Nat) (x16_1 : Bool), v16 = .bool x16_1 ∧ Aside0 (scarfjointlaw01_TokenWrite.j0 kq l0 x16_1 = some r) ∧ Aside0 (kq ≤ k) ∧ Aside0 (Below w.heap.size w wc))
  case first =>
    have H := HC2.out
    clear HC2
    replace H := Option.bind_eq_some_iff.mp H
    obtain ⟨t208, A30, H⟩ := H
    replace H : (if t208 = true then ((nFew.f l0).bind fun t209 => (scarfjointlaw01_TokenWrite.j0 k l0 (!t209))) else (scarfjointlaw01_TokenWrite.j0 k l0 true)) = some r := H
    have A3 := Aside0.mk A30
    clear A30
    by_cases c4 : t208 = true
    · subst c4
      have H1 : ((nFew.f l0).bind fun t209 => (scarfjointlaw01_TokenWrite.j0 k l0 (!t209))) = some r := by rw [if_pos rfl] at H; exact H
      clear H
      have H := H1
      clear H1
      replace H := Option.bind_eq_some_iff.mp H
      obtain ⟨t209, A50, H⟩ := H
      replace H : (scarfjointlaw01_TokenWrite.j0 k l0 (!t209)) = some r := H
      have A5 := Aside0.mk A50
      clear A50
      have H' := Aside0.mk H
      clear H
      go_wp2_with (first | ((with_reducible refine gate_callee (f := 11) rfl ?_); refine goesL_  (some 10) rfl rfl Try.func11 (by kernel_rfl) rfl #[] rfl (by (try simp only [List.map_toArray, List.map_cons, List.map_nil]); first | done | rfl | (simp only [List.length_drop, List.length_take]; rfl)) ?_; (with_reducible refine (scarfjointlaw01_awake.calls  true _ A3.out).mono ?_); rintro e w6 ⟨rfl, hb⟩; refine ⟨_, rfl, ?_⟩; have n0_ := Aside0.mk (below_step (by repeat (first | (with_reducible first | exact HB.out | apply below_alloc | apply pw_below_drewN | apply below_drew1) | exact HB.out)) hb); clear HB; have HB := n0_; clear n0_; (try clear hb); (try clear hb2); (try clear hk); (try clear hi)) | (go_at_call 17; (with_reducible refine (nFew.calls _ _ l0 t209 _ ?side1 ?side2 A5.out).mono ?_); (case side1 => repeat (first | exact (Kd.C_below HR0.out HB.out) | (with_reducible refine Kd.C_alloc ?_ _) | (with_reducible refine Kd.C_drewN ?_ _) | (with_reducible refine Kd.C_drew ?_))); (case side2 => exact HC0.out); rintro e w' ⟨rfl, ⟨nd, rfl⟩⟩))
      go_meet
      case rel => exact ⟨_, (!t209), (by first | rfl | (simp; done) | (simp [*]; done)), H', ⟨by first | omega | exact Nat.le_refl _⟩, ⟨by repeat (first | (with_reducible first | exact HB.out | apply below_alloc | apply pw_below_drewN | apply below_drew1) | exact HB.out)⟩⟩
    · replace c4 := Bool.eq_false_iff.mpr c4
      subst c4
      have H1 : (scarfjointlaw01_TokenWrite.j0 k l0 true) = some r := by rw [if_neg (show ¬ (false = true) by decide)] at H; exact H
      clear H
      have H := H1
      clear H1
      have H' := Aside0.mk H
      clear H
      go_wp2_with (first | ((with_reducible refine gate_callee (f := 11) rfl ?_); refine goesL_  (some 10) rfl rfl Try.func11 (by kernel_rfl) rfl #[] rfl (by (try simp only [List.map_toArray, List.map_cons, List.map_nil]); first | done | rfl | (simp only [List.length_drop, List.length_take]; rfl)) ?_; (with_reducible refine (scarfjointlaw01_awake.calls  false _ A3.out).mono ?_); rintro e w7 ⟨rfl, hb⟩; refine ⟨_, rfl, ?_⟩; have n0_ := Aside0.mk (below_step (by repeat (first | (with_reducible first | exact HB.out | apply below_alloc | apply pw_below_drewN | apply below_drew1) | exact HB.out)) hb); clear HB; have HB := n0_; clear n0_; (try clear hb); (try clear hb2); (try clear hk); (try clear hi)))
      go_meet
      case rel => exact ⟨_, (true), (by first | rfl | (simp; done) | (simp [*]; done)), H', ⟨by first | omega | exact Nat.le_refl _⟩, ⟨by repeat (first | (with_reducible first | exact HB.out | apply below_alloc | apply pw_below_drewN | apply below_drew1) | exact HB.out)⟩⟩
  case rest =>
    clear HC2
    try clear c1
    try clear p2
    try clear c4
    try clear c5
    obtain ⟨kq, x16_1, rfl, HA, HJ1, HB⟩ := hcut
    cases kq with
    | zero => exact absurd HA.out (by simp [scarfjointlaw01_TokenWrite.j0])
    | succ kj1 =>
      have H := HA.out
      clear HA
      simp only [scarfjointlaw01_TokenWrite.j0] at H
      by_cases c8 : x16_1 = true
      · subst c8
        have H1 : ((scarfjointlaw01_awake.f).bind fun t210 => (some t210)) = some r := by rw [if_pos rfl] at H; exact H
        clear H
        have H := H1
        clear H1
        replace H := Option.bind_eq_some_iff.mp H
        obtain ⟨t210, A90, H⟩ := H
        replace H : (some t210) = some r := H
        have A9 := Aside0.mk A90
        clear A90
        obtain rfl := Option.some.inj H
        go_wp2_with (first | ((with_reducible refine gate_callee (f := 11) rfl ?_); refine goesL_  (some 17) rfl rfl Try.func11 (by kernel_rfl) rfl #[] rfl (by (try simp only [List.map_toArray, List.map_cons, List.map_nil]); first | done | rfl | (simp only [List.length_drop, List.length_take]; rfl)) ?_; (with_reducible refine (scarfjointlaw01_awake.calls  t210 _ A9.out).mono ?_); rintro e w10 ⟨rfl, hb⟩; refine ⟨_, rfl, ?_⟩; have n0_ := Aside0.mk (below_step (by repeat (first | (with_reducible first | exact HB.out | apply below_alloc | apply pw_below_drewN | apply below_drew1) | exact HB.out)) hb); clear HB; have HB := n0_; clear n0_; (try clear hb); (try clear hb2); (try clear hk); (try clear hi)))
        go_ret
        exact ⟨by first | rfl | (simp [errW_none, errW_some] <;> rfl) | (simp [*, errW_none, errW_some] <;> rfl), by repeat (first | (with_reducible first | exact HB.out | apply below_alloc | apply pw_below_drewN | apply below_drew1) | exact HB.out)⟩
      · replace c8 := Bool.eq_false_iff.mpr c8
        subst c8
        have H1 : ((api_Token_19.f l0).bind fun t211 => ((nWrite.f t211).bind fun bt214 => ((nrWrite.f l0).bind fun bt216 => (if bt214.1.toList = bt216.1.toList then (if bt214.2 = bt216.2 then (scarfjointlaw01_TokenWrite.j1 kj1 l0 bt214.1 bt214.2 bt216.1 bt216.2 (bt214.2 != 0)) else (scarfjointlaw01_TokenWrite.j1 kj1 l0 bt214.1 bt214.2 bt216.1 bt216.2 true)) else (scarfjointlaw01_TokenWrite.j1 kj1 l0 bt214.1 bt214.2 bt216.1 bt216.2 true))))) = some r := by rw [if_neg (show ¬ (false = true) by decide)] at H; exact H
        clear H
        have H := H1
        clear H1
        replace H := Option.bind_eq_some_iff.mp H
        obtain ⟨t211, A110, H⟩ := H
        replace H : ((nWrite.f t211).bind fun bt214 => ((nrWrite.f l0).bind fun bt216 => (if bt214.1.toList = bt216.1.toList then (if bt214.2 = bt216.2 then (scarfjointlaw01_TokenWrite.j1 kj1 l0 bt214.1 bt214.2 bt216.1 bt216.2 (bt214.2 != 0)) else (scarfjointlaw01_TokenWrite.j1 kj1 l0 bt214.1 bt214.2 bt216.1 bt216.2 true)) else (scarfjointlaw01_TokenWrite.j1 kj1 l0 bt214.1 bt214.2 bt216.1 bt216.2 true)))) = some r := H
        have A11 := Aside0.mk A110
        clear A110
        replace H := Option.bind_eq_some_iff.mp H
        obtain ⟨⟨t214, t215⟩, A120, H⟩ := H
        replace H : ((nrWrite.f l0).bind fun bt216 => (if t214.toList = bt216.1.toList then (if t215 = bt216.2 then (scarfjointlaw01_TokenWrite.j1 kj1 l0 t214 t215 bt216.1 bt216.2 (t215 != 0)) else (scarfjointlaw01_TokenWrite.j1 kj1 l0 t214 t215 bt216.1 bt216.2 true)) else (scarfjointlaw01_TokenWrite.j1 kj1 l0 t214 t215 bt216.1 bt216.2 true))) = some r := H
        have A12 := Aside0.mk A120
        clear A120
        replace H := Option.bind_eq_some_iff.mp H
        obtain ⟨⟨t216, t217⟩, A130, H⟩ := H
        replace H : (if t214.toList = t216.toList then (if t215 = t217 then (scarfjointlaw01_TokenWrite.j1 kj1 l0 t214 t215 t216 t217 (t215 != 0)) else (scarfjointlaw01_TokenWrite.j1 kj1 l0 t214 t215 t216 t217 true)) else (scarfjointlaw01_TokenWrite.j1 kj1 l0 t214 t215 t216 t217 true)) = some r := H
        have A13 := Aside0.mk A130
        clear A130
        have HC14 := Aside0.mk H
        clear H
        go_upto_region 5 with (first | ((with_reducible refine gate_callee (f := 19) rfl ?_); refine goesL_  (some 20) rfl rfl Try.func19 (by kernel_rfl) rfl #[.slice A0 l0.length c0] rfl (by (try simp only [List.map_toArray, List.map_cons, List.map_nil]); first | done | rfl | (simp only [List.length_drop, List.length_take]; rfl)) ?_; (with_reducible refine (api_Token_19.calls _ _ l0 t211 _ ?side1 ?side2 A11.out).mono ?_); (case side1 => repeat (first | exact (Kd.C_below HR0.out HB.out) | (with_reducible refine Kd.C_alloc ?_ _) | (with_reducible refine Kd.C_drewN ?_ _) | (with_reducible refine Kd.C_drew ?_))); (case side2 => exact HC0.out); rintro e w15 ⟨v212, rfl, ho0, hb⟩; refine ⟨_, rfl, ?_⟩; have n0_ := Aside0.mk (Kd.R_lower ho0 (below_size (by repeat (first | (with_reducible first | exact HB.out | apply below_alloc | apply pw_below_drewN | apply below_drew1) | exact HB.out)))); have n1_ := Aside0.mk (below_step (by repeat (first | (with_reducible first | exact HB.out | apply below_alloc | apply pw_below_drewN | apply below_drew1) | exact HB.out)) hb); clear HB; have HO213 := n0_; have HB := n1_; clear n0_ n1_; (try clear hb); (try clear hb2); (try clear hk); (try clear hi); (try clear ho0); obtain ⟨Ao16, co16, eo16⟩ := Kd.R_slice HO213.out; subst eo16) | ((with_reducible refine gate_callee (f := 18) rfl ?_); refine goesL_  (some 21) rfl rfl Try.func18 (by kernel_rfl) rfl #[.slice Ao16 t211.length co16] rfl (by (try simp only [List.map_toArray, List.map_cons, List.map_nil]); first | done | rfl | (simp only [List.length_drop, List.length_take]; rfl)) ?_; (with_reducible refine (nWrite.calls _ _ t211 t214 t215 _ ?side1 ?side2 A12.out).mono ?_); (case side1 => repeat (first | exact (Kd.R_reads' HO213.out).2.2 | (with_reducible refine Kd.C_alloc ?_ _) | (with_reducible refine Kd.C_drewN ?_ _) | (with_reducible refine Kd.C_drew ?_))); (case side2 => exact (Kd.R_reads' HO213.out).2.1); rintro e w17 ⟨rfl, hb⟩; refine ⟨_, rfl, ?_⟩; have n0_ := Aside0.mk (Kd.R_below (by (with_reducible repeat (first | apply Kd.R_alloc | apply Kd.R_drewN | apply Kd.R_drew)); exact HO213.out) hb); have n1_ := Aside0.mk (below_step (by repeat (first | (with_reducible first | exact HB.out | apply below_alloc | apply pw_below_drewN | apply below_drew1) | exact HB.out)) hb); clear HO213; clear HB; have HO213 := n0_; have HB := n1_; clear n0_ n1_; (try clear hb); (try clear hb2); (try clear hk); (try clear hi)) | ((with_reducible refine gate_callee (f := 20) rfl ?_); refine goesL_  (some 26) rfl rfl Try.func20 (by kernel_rfl) rfl #[.slice A0 l0.length c0] rfl (by (try simp only [List.map_toArray, List.map_cons, List.map_nil]); first | done | rfl | (simp only [List.length_drop, List.length_take]; rfl)) ?_; (with_reducible refine (nrWrite.calls _ _ l0 t216 t217 _ ?side1 ?side2 A13.out).mono ?_); (case side1 => repeat (first | exact (Kd.C_below HR0.out HB.out) | (with_reducible refine Kd.C_alloc ?_ _) | (with_reducible refine Kd.C_drewN ?_ _) | (with_reducible refine Kd.C_drew ?_))); (case side2 => exact HC0.out); rintro e w18 ⟨rfl, hb⟩; refine ⟨_, rfl, ?_⟩; have n0_ := Aside0.mk (Kd.R_below (by (with_reducible repeat (first | apply Kd.R_alloc | apply Kd.R_drewN | apply Kd.R_drew)); exact HO213.out) hb); have n1_ := Aside0.mk (below_step (by repeat (first | (with_reducible first | exact HB.out | apply below_alloc | apply pw_below_drewN | apply below_drew1) | exact HB.out)) hb); clear HO213; clear HB; have HO213 := n0_; have HB := n1_; clear n0_ n1_; (try clear hb); (try clear hb2); (try clear hk); (try clear hi)))
        (try simp only [Act.put, List.setIfInBounds_toArray, List.set_cons_zero, List.set_cons_succ])
        go_cut [40] (fun v40 wc => ∃ (kq : Nat) (x40_13 : Bool), v40 = .bool x40_13 ∧ Aside0 (scarfjointlaw01_TokenWrite.j1 kq l0 t214 t215 t216 t217 x40_13 = some r) ∧ Aside0 (kq ≤ kj1) ∧ Aside0 (Below w.heap.size w wc))
        case first =>
          have H := HC14.out
          clear HC14
          by_cases c19 : t214.toList = t216.toList
          · rw [if_pos c19] at H
            have c19b0 : (t214.toList == t216.toList) = true := beq_iff_eq.mpr c19
            have c19b1 : (t214.toList != t216.toList) = false := bne_eq_false_iff_eq.mpr c19
            clear c19
            (first | rw [c19b0] | (simp only [i64_w, i32_w]; rw [c19b0]) | skip)
            by_cases c20 : t215 = t217
            · rw [if_pos c20] at H
              have c20b0 : (t215 == t217) = true := beq_iff_eq.mpr c20
              have c20b1 : (t215 != t217) = false := bne_eq_false_iff_eq.mpr c20
              clear c20
              have H' := Aside0.mk H
              clear H
              go_wp2
              go_meet
              case rel => exact ⟨_, ((t215 != 0)), (by first | rfl | (simp; done) | (simp [*]; done)), H', ⟨by have := HJ1.out; first | omega | exact Nat.le_refl _⟩, ⟨by repeat (first | (with_reducible first | exact HB.out | apply below_alloc | apply pw_below_drewN | apply below_drew1) | exact HB.out)⟩⟩
            · rw [if_neg c20] at H
              have c20b0 : (t215 == t217) = false := beq_eq_false_iff_ne.mpr c20
              have c20b1 : (t215 != t217) = true := bne_iff_ne.mpr c20
              have H' := Aside0.mk H
              clear H
              go_wp2
              go_meet
              case rel => exact ⟨_, (true), (by first | rfl | (simp; done) | (simp [*]; done)), H', ⟨by have := HJ1.out; first | omega | exact Nat.le_refl _⟩, ⟨by repeat (first | (with_reducible first | exact HB.out | apply below_alloc | apply pw_below_drewN | apply below_drew1) | exact HB.out)⟩⟩
          · rw [if_neg c19] at H
            have c19b0 : (t214.toList == t216.toList) = false := beq_eq_false_iff_ne.mpr c19
            have c19b1 : (t214.toList != t216.toList) = true := bne_iff_ne.mpr c19
            (first | rw [c19b0] | (simp only [i64_w, i32_w]; rw [c19b0]) | skip)
            have H' := Aside0.mk H
            clear H
            go_wp2
            go_meet
            case rel => exact ⟨_, (true), (by first | rfl | (simp; done) | (simp [*]; done)), H', ⟨by have := HJ1.out; first | omega | exact Nat.le_refl _⟩, ⟨by repeat (first | (with_reducible first | exact HB.out | apply below_alloc | apply pw_below_drewN | apply below_drew1) | exact HB.out)⟩⟩
        case rest =>
          clear HC14
          try clear c1
          try clear c2
          try clear p2
          try clear c4
          try clear c5
          try clear c8
          try clear c11
          try clear c18
          try clear c19
          try clear c19b0
          try clear c19b1
          try clear c20
          try clear c20b0
          try clear c20b1
          try clear p2
          obtain ⟨kq, x40_13, rfl, HA, HJ13, HB⟩ := hcut
          cases kq with
          | zero => exact absurd HA.out (by simp [scarfjointlaw01_TokenWrite.j1])
          | succ kj13 =>
            have H := HA.out
            clear HA
            simp only [scarfjointlaw01_TokenWrite.j1] at H
            by_cases c21 : x40_13 = true
            · subst c21
              have H1 : (if t214.toList = t216.toList then (some (t215 == t217)) else (some false)) = some r := by rw [if_pos rfl] at H; exact H
              clear H
              have H := H1
              clear H1
              by_cases c22 : t214.toList = t216.toList
              · rw [if_pos c22] at H
                have c22b0 : (t214.toList == t216.toList) = true := beq_iff_eq.mpr c22
                have c22b1 : (t214.toList != t216.toList) = false := bne_eq_false_iff_eq.mpr c22
                clear c22
                obtain rfl := Option.some.inj H
                go_wp2
                go_ret
                exact ⟨by first | rfl | (simp [errW_none, errW_some] <;> rfl) | (simp [*, errW_none, errW_some] <;> rfl), by repeat (first | (with_reducible first | exact HB.out | apply below_alloc | apply pw_below_drewN | apply below_drew1) | exact HB.out)⟩
              · rw [if_neg c22] at H
                have c22b0 : (t214.toList == t216.toList) = false := beq_eq_false_iff_ne.mpr c22
                have c22b1 : (t214.toList != t216.toList) = true := bne_iff_ne.mpr c22
                obtain rfl := Option.some.inj H
                go_wp2
                go_ret
                exact ⟨by first | rfl | (simp [errW_none, errW_some] <;> rfl) | (simp [*, errW_none, errW_some] <;> rfl), by repeat (first | (with_reducible first | exact HB.out | apply below_alloc | apply pw_below_drewN | apply below_drew1) | exact HB.out)⟩
            · replace c21 := Bool.eq_false_iff.mpr c21
              subst c21
              have H1 : ((nTokens.f t214).bind fun bt218 => (if bt218.2.2 = 0 then ((nrSame.f bt218.1 l0).bind fun t223 => (some t223)) else (some false))) = some r := by rw [if_neg (show ¬ (false = true) by decide)] at H; exact H
              clear H
              have H := H1
              clear H1
              replace H := Option.bind_eq_some_iff.mp H
              obtain ⟨⟨t218, t219, t220⟩, A230, H⟩ := H
              replace H : (if t220 = 0 then ((nrSame.f t218 l0).bind fun t223 => (some t223)) else (some false)) = some r := H
              have A23 := Aside0.mk A230
              clear A230
              by_cases c24 : t220 = 0
              · rw [if_pos c24] at H
                have c24b0 : (t220 == 0) = true := beq_iff_eq.mpr c24
                have c24b1 : (t220 != 0) = false := bne_eq_false_iff_eq.mpr c24
                clear c24
                replace H := Option.bind_eq_some_iff.mp H
                obtain ⟨t223, A250, H⟩ := H
                replace H : (some t223) = some r := H
                have A25 := Aside0.mk A250
                clear A250
                obtain rfl := Option.some.inj H
                go_wp2_with (first | ((with_reducible refine gate_callee (f := 15) rfl ?_); refine goesL_  (some 51) rfl rfl Try.func15 (by kernel_rfl) rfl #[.string t214] rfl (by (try simp only [List.map_toArray, List.map_cons, List.map_nil]); first | done | rfl | (simp only [List.length_drop, List.length_take]; rfl)) ?_; (with_reducible refine (nTokens.calls t214 t218 t219 t220 _ A23.out).mono ?_); rintro e w26 ⟨v221, rfl, ho0, hb⟩; refine ⟨_, rfl, ?_⟩; have n0_ := Aside0.mk (Kd.R_lower ho0 (below_size (by repeat (first | (with_reducible first | exact HB.out | apply below_alloc | apply pw_below_drewN | apply below_drew1) | exact HB.out)))); have n1_ := Aside0.mk (below_step (by repeat (first | (with_reducible first | exact HB.out | apply below_alloc | apply pw_below_drewN | apply below_drew1) | exact HB.out)) hb); clear HB; have HO222 := n0_; have HB := n1_; clear n0_ n1_; (try clear hb); (try clear hb2); (try clear hk); (try clear hi); (try clear ho0); obtain ⟨Ao27, co27, eo27⟩ := Kd.R_slice HO222.out; subst eo27) | (go_at_call 21; (with_reducible refine (nrSame.calls _ _ t218 _ _ l0 t223 _ ?side1 ?side2 ?side3 ?side4 A25.out).mono ?_); (case side1 => repeat (first | exact (Kd.R_reads' HO222.out).2.2 | (with_reducible refine Kd.C_alloc ?_ _) | (with_reducible refine Kd.C_drewN ?_ _) | (with_reducible refine Kd.C_drew ?_))); (case side2 => exact (Kd.R_reads' HO222.out).2.1); (case side3 => repeat (first | exact (Kd.C_below HR0.out HB.out) | (with_reducible refine Kd.C_alloc ?_ _) | (with_reducible refine Kd.C_drewN ?_ _) | (with_reducible refine Kd.C_drew ?_))); (case side4 => exact HC0.out); rintro e w' ⟨rfl, ⟨nd, rfl⟩⟩))
                go_ret
                exact ⟨by first | rfl | (simp [errW_none, errW_some] <;> rfl) | (simp [*, errW_none, errW_some] <;> rfl), by repeat (first | (with_reducible first | exact HB.out | apply below_alloc | apply pw_below_drewN | apply below_drew1) | exact HB.out)⟩
              · rw [if_neg c24] at H
                have c24b0 : (t220 == 0) = false := beq_eq_false_iff_ne.mpr c24
                have c24b1 : (t220 != 0) = true := bne_iff_ne.mpr c24
                obtain rfl := Option.some.inj H
                go_wp2_with (first | ((with_reducible refine gate_callee (f := 15) rfl ?_); refine goesL_  (some 51) rfl rfl Try.func15 (by kernel_rfl) rfl #[.string t214] rfl (by (try simp only [List.map_toArray, List.map_cons, List.map_nil]); first | done | rfl | (simp only [List.length_drop, List.length_take]; rfl)) ?_; (with_reducible refine (nTokens.calls t214 t218 t219 t220 _ A23.out).mono ?_); rintro e w28 ⟨v221, rfl, ho0, hb⟩; refine ⟨_, rfl, ?_⟩; have n0_ := Aside0.mk (Kd.R_lower ho0 (below_size (by repeat (first | (with_reducible first | exact HB.out | apply below_alloc | apply pw_below_drewN | apply below_drew1) | exact HB.out)))); have n1_ := Aside0.mk (below_step (by repeat (first | (with_reducible first | exact HB.out | apply below_alloc | apply pw_below_drewN | apply below_drew1) | exact HB.out)) hb); clear HB; have HO222 := n0_; have HB := n1_; clear n0_ n1_; (try clear hb); (try clear hb2); (try clear hk); (try clear hi); (try clear ho0)))
                go_ret
                exact ⟨by first | rfl | (simp [errW_none, errW_some] <;> rfl) | (simp [*, errW_none, errW_some] <;> rfl), by repeat (first | (with_reducible first | exact HB.out | apply below_alloc | apply pw_below_drewN | apply below_drew1) | exact HB.out)⟩

end Go.Proofs.Ytkjikcmjcdlifaa.P
