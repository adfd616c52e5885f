/- Written by a program of this place (mk.py: the kit's print, turned). Proved here: each function of this text, called, computes what its plain function of Lean tells, wherever that tells something. -/
import Derived.Test.YtkjikcmjcdlifaaPx0
import Derived.Test.YtkjikcmjcdlifaaPx5
import Derived.Test.YtkjikcmjcdlifaaPx10
import Derived.Test.YtkjikcmjcdlifaaPx11
namespace Go.Proofs.Ytkjikcmjcdlifaa.P
open Go.RowKit Go.Proofs.YtkjikcmjcdlifaaW.PrintWords Go.Proofs.YtkjikcmjcdlifaaW.PrintLast Go.Proofs.YtkjikcmjcdlifaaW.PrintMore
attribute [local go_sem] max2_int min2_int max_two min_two max_three min_three max_four min_four   -- for this text's walks alone
set_option linter.unusedVariables false
set_option linter.unusedSimpArgs false

/-! ### api_Token_c40: function 39 -/
def api_Token_c40.l0 : Nat → List (S46) → List (S46) → Int → Int → Option (Bool)
  | 0, _, _, _, _ => none
  | k + 1, x1, x15, x16, x17 => if x17 < x16 then (if 0 ≤ x17 then (if x17 < (x15.length : Int) then (if x17 < (x1.length : Int) then ((token_Same_1.f ((rd_T46 x15 x17).f0) ((rd_T46 x15 x17).f1) ((rd_T46 x15 x17).f2) ((rd_T46 x1 x17).f0) ((rd_T46 x1 x17).f1) ((rd_T46 x1 x17).f2)).bind fun t272 => (if t272 = true then (api_Token_c40.l0 k x1 x15 x16 (wrap64 (x17 + 1))) else (some false))) else (none)) else (none)) else (none)) else (some true)
def api_Token_c40.f (k : Nat) (l0 : List (S46)) (l1 : List (S46))  : Option (Bool) := if (l0.length : Int) = (l1.length : Int) then (api_Token_c40.l0 k l1 l0 (l0.length : Int) 0) else (some false)
theorem api_Token_c40.mono_l : ∀ k, (∀ y0 y1 y2 y3, LeO (api_Token_c40.l0 k y0 y1 y2 y3) (api_Token_c40.l0 (k + 1) y0 y1 y2 y3))
  | 0 => fun _ _ _ _ r h => by simp [api_Token_c40.l0] at h
  | k + 1 => by
    have ih0 := api_Token_c40.mono_l k
    · intro y0 y1 y2 y3
      unfold api_Token_c40.l0
      repeat' first
      | (with_reducible exact ih0 _ _ _ _)
      | (with_reducible exact LeO.refl _)
      | (with_reducible exact LeO.none _)
      | (with_reducible refine LeO.ite ?_ ?_)
      | (with_reducible refine LeO.bind ?_ (fun _ => ?_))
      | exact ih0 _ _ _ _
      | exact LeO.none _
      | refine LeO.ite ?_ ?_
      | refine LeO.bind ?_ (fun _ => ?_)
theorem api_Token_c40.mono : ∀ a0 a1 k, LeO (api_Token_c40.f k a0 a1) (api_Token_c40.f (k + 1) a0 a1) := by
  intro a0 a1 k
  have ih0 := api_Token_c40.mono_l k
  unfold api_Token_c40.f
  repeat' first
      | (with_reducible exact ih0 _ _ _ _)
      | (with_reducible exact LeO.refl _)
      | (with_reducible exact LeO.none _)
      | (with_reducible refine LeO.ite ?_ ?_)
      | (with_reducible refine LeO.bind ?_ (fun _ => ?_))
      | exact ih0 _ _ _ _
      | exact LeO.none _
      | refine LeO.ite ?_ ?_
      | refine LeO.bind ?_ (fun _ => ?_)
set_option maxHeartbeats 8000000 in
set_option maxRecDepth 100000 in
theorem api_Token_c40.calls (k : Nat) (A0 : Option Addr) (c0 : Nat) (l0 : List (S46)) (A1 : Option Addr) (c1 : Nat) (l1 : List (S46))  (r : Bool) (w : World) (hr0 : Kd.C k46 w A0 l0.length l0) (hc0 : l0.length ≤ c0) (hr1 : Kd.C k46 w A1 l1.length l1) (hc1 : l1.length ≤ c1) (h : api_Token_c40.f k l0 l1 = some r) :
    Calls Try.prog 39 #[.slice A0 l0.length c0, .slice A1 l1.length c1, .func (.func 40) #[] #[]] w fun e w' => e = .returned (.bool r) ∧ Below w.heap.size w w' := by
  have hu46 := Try.underlying46
  have HR0 := Aside0.mk hr0
  have HC0 := Aside0.mk hc0
  clear hr0 hc0
  have HR1 := Aside0.mk hr1
  have HC1 := Aside0.mk hc1
  clear hr1 hc1
  have HB := Aside0.mk (Below.refl w.heap.size w)
  have H : (if (l0.length : Int) = (l1.length : Int) then (api_Token_c40.l0 k l1 l0 (l0.length : Int) 0) else (some false)) = some r := h
  clear h
  by_cases c4 : (l0.length : Int) = (l1.length : Int)
  · rw [if_pos c4] at H
    have c4b0 : ((l0.length : Int) == (l1.length : Int)) = true := beq_iff_eq.mpr c4
    have c4b1 : ((l0.length : Int) != (l1.length : Int)) = false := bne_eq_false_iff_eq.mpr c4
    have c4b2 : (l0.length == l1.length) = true := by first | simpa using c4 | (simp at c4 ⊢; omega)
    clear c4
    have H' := Aside0.mk H
    clear H
    go_enter Try.func39, Try.ntmps39
    go_wp2
    go_loopg [17] k (fun kq v17 w' => ∃ (x17_1 : Int), v17 = .int .i64 x17_1 ∧ Aside0 (api_Token_c40.l0 kq l1 l0 (l0.length : Int) x17_1 = some r) ∧ Aside0 (kq ≤ k) ∧ Aside0 (Below w.heap.size w w'))
    case atStart => exact ⟨(0), (by first | rfl | (simp; done) | (simp [*]; done)), H', ⟨Nat.le_refl _⟩, ⟨by repeat (first | (with_reducible first | exact HB.out | apply below_alloc | apply pw_below_drewN | apply below_drew1) | exact HB.out)⟩⟩
    case round =>
      clear H'
      try clear c1
      try clear p2
      try clear c4
      try clear c4b0
      try clear c4b1
      try clear c4b2
      obtain ⟨x17_1, rfl, HA, HK1, HB⟩ := hrel
      cases gk with
      | zero => exact absurd HA.out (by simp [api_Token_c40.l0])
      | succ k1 =>
        have H := HA.out
        clear HA
        simp only [api_Token_c40.l0] at H
        by_cases c5 : x17_1 < (l0.length : Int)
        · rw [if_pos c5] at H
          have c5b0 : decide (x17_1 < (l0.length : Int)) = true := decide_eq_true c5
          clear c5
          by_cases c6 : 0 ≤ x17_1
          · rw [if_pos c6] at H
            have c6b0 : decide (0 ≤ x17_1) = true := decide_eq_true c6
            clear c6
            by_cases c7 : x17_1 < (l0.length : Int)
            · rw [if_pos c7] at H
              have c7b0 : decide (x17_1 < (l0.length : Int)) = true := decide_eq_true c7
              clear c7
              by_cases c8 : x17_1 < (l1.length : Int)
              · rw [if_pos c8] at H
                have c8b0 : decide (x17_1 < (l1.length : Int)) = true := decide_eq_true c8
                clear c8
                replace H := Option.bind_eq_some_iff.mp H
                obtain ⟨t272, A90, H⟩ := H
                replace H : (if t272 = true then (api_Token_c40.l0 k1 l1 l0 (l0.length : Int) (wrap64 (x17_1 + 1))) else (some false)) = some r := H
                have A9 := Aside0.mk A90
                clear A90
                by_cases c10 : t272 = true
                · subst c10
                  have H1 : (api_Token_c40.l0 k1 l1 l0 (l0.length : Int) (wrap64 (x17_1 + 1))) = some r := by rw [if_pos rfl] at H; exact H
                  clear H
                  have H := H1
                  clear H1
                  have H' := Aside0.mk H
                  clear H
                  have p268 : 0 ≤ (x17_1 : Int) := of_decide_eq_true (by first | (with_reducible assumption) | assumption)
                  have q268 : x17_1 < (l0.length : Int) := of_decide_eq_true (by first | (with_reducible assumption) | assumption)
                  obtain ⟨ad268, e268, hx268_0, hx268_1, hx268_2⟩ := at_T46 HR0.out x17_1 p268 q268
                  cases e268
                  replace hx268_0 := (HB.out.cell (World.block_lt_of_cell? w _ hx268_0)).trans hx268_0
                  replace hx268_1 := (HB.out.cell (World.block_lt_of_cell? w _ hx268_1)).trans hx268_1
                  replace hx268_2 := (HB.out.cell (World.block_lt_of_cell? w _ hx268_2)).trans hx268_2
                  replace p268 := eq_true p268
                  replace q268 := eq_true q268
                  go_wp2_with (first | ((with_reducible refine gate_dst (N := 8) rfl ?_); refine box_event ?hg (N := 8) ?hd (cs := #[.int .i64 0, .string (⟨#[]⟩ : ByteArray), .int .i64 0]) (t := 46) ?hr ?_; (case hd => rfl); (case hg => rfl); (case hr => first | (go_simp; done) | (go_simp; rfl)); intro gb269 hg w11 hbox hb; have n0_ := Aside0.mk (below_step (by repeat (first | (with_reducible first | exact HB.out | apply below_alloc | apply pw_below_drewN | apply below_drew1) | exact HB.out)) hb); have n1_ := Aside0.mk (hbox); have n2_ := Aside0.mk ((by rw [hg]; exact (below_size (by repeat (first | (with_reducible first | exact HB.out | apply below_alloc | apply pw_below_drewN | apply below_drew1) | exact HB.out))) : w.heap.size ≤ gb269)); have n3_ := Aside0.mk ((by rw [hg]; exact (below_size (by repeat (first | (with_reducible first | exact HB.out | apply below_alloc | apply pw_below_drewN | apply below_drew1) | exact HB.out))) : w.heap.size ≤ gb269)); clear HB; have HB := n0_; have BK269 := n1_; have GW269 := n2_; have GE269 := n3_; clear n0_ n1_ n2_ n3_; clear hb hbox hg; have hcz12_0 : w11.cell? ⟨gb269, 0, none⟩ = some (.int .i64 0) := (blk_cell BK269.out 0).trans rfl; have hcz12_1 : w11.cell? ⟨gb269, 1, none⟩ = some (.string (⟨#[]⟩ : ByteArray)) := (blk_cell BK269.out 1).trans rfl; have hcz12_2 : w11.cell? ⟨gb269, 2, none⟩ = some (.int .i64 0) := (blk_cell BK269.out 2).trans rfl; have hfz12_0 := blk_frozen BK269.out 0; have hfz12_1 := blk_frozen BK269.out 1; have hfz12_2 := blk_frozen BK269.out 2; have p270 : 0 ≤ (x17_1 : Int) := of_decide_eq_true (by first | (with_reducible assumption) | assumption); have q270 : x17_1 < (l1.length : Int) := of_decide_eq_true (by first | (with_reducible assumption) | assumption); obtain ⟨ad270, e270, hx270_0, hx270_1, hx270_2⟩ := at_T46 HR1.out x17_1 p270 q270; cases e270; have hn270_0 : ad270.block ≠ gb269 := Nat.ne_of_lt (Nat.lt_of_lt_of_le (by have := World.block_lt_of_cell? _ _ hx270_0; first | rwa [add_block] at this | exact this) GW269.out); have hn270_1 : ad270.block ≠ gb269 := Nat.ne_of_lt (Nat.lt_of_lt_of_le (by have := World.block_lt_of_cell? _ _ hx270_0; first | rwa [add_block] at this | exact this) GW269.out); have hn270_2 : ad270.block ≠ gb269 := Nat.ne_of_lt (Nat.lt_of_lt_of_le (by have := World.block_lt_of_cell? _ _ hx270_0; first | rwa [add_block] at this | exact this) GW269.out); replace hx270_0 := (HB.out.cell (World.block_lt_of_cell? w _ hx270_0)).trans hx270_0; replace hx270_1 := (HB.out.cell (World.block_lt_of_cell? w _ hx270_1)).trans hx270_1; replace hx270_2 := (HB.out.cell (World.block_lt_of_cell? w _ hx270_2)).trans hx270_2; replace hx270_0 := (cell_far (p := ⟨gb269, 0, none⟩) (by first | (rw [add_block]; exact hn270_0) | (show (Addr.add _ _).block ≠ _; rw [add_block]; exact hn270_0) | exact hn270_0) (.int .i64 ((rd_T46 l0 x17_1).f0))).trans hx270_0; replace hx270_1 := (cell_far (p := ⟨gb269, 0, none⟩) (by first | (rw [add_block]; exact hn270_0) | (show (Addr.add _ _).block ≠ _; rw [add_block]; exact hn270_0) | exact hn270_0) (.int .i64 ((rd_T46 l0 x17_1).f0))).trans hx270_1; replace hx270_2 := (cell_far (p := ⟨gb269, 0, none⟩) (by first | (rw [add_block]; exact hn270_0) | (show (Addr.add _ _).block ≠ _; rw [add_block]; exact hn270_0) | exact hn270_0) (.int .i64 ((rd_T46 l0 x17_1).f0))).trans hx270_2; replace hx270_0 := (cell_far (p := ⟨gb269, 1, none⟩) (by first | (rw [add_block]; exact hn270_1) | (show (Addr.add _ _).block ≠ _; rw [add_block]; exact hn270_1) | exact hn270_1) (.string ((rd_T46 l0 x17_1).f1))).trans hx270_0; replace hx270_1 := (cell_far (p := ⟨gb269, 1, none⟩) (by first | (rw [add_block]; exact hn270_1) | (show (Addr.add _ _).block ≠ _; rw [add_block]; exact hn270_1) | exact hn270_1) (.string ((rd_T46 l0 x17_1).f1))).trans hx270_1; replace hx270_2 := (cell_far (p := ⟨gb269, 1, none⟩) (by first | (rw [add_block]; exact hn270_1) | (show (Addr.add _ _).block ≠ _; rw [add_block]; exact hn270_1) | exact hn270_1) (.string ((rd_T46 l0 x17_1).f1))).trans hx270_2; replace hx270_0 := (cell_far (p := ⟨gb269, 2, none⟩) (by first | (rw [add_block]; exact hn270_2) | (show (Addr.add _ _).block ≠ _; rw [add_block]; exact hn270_2) | exact hn270_2) (.int .i64 ((rd_T46 l0 x17_1).f2))).trans hx270_0; replace hx270_1 := (cell_far (p := ⟨gb269, 2, none⟩) (by first | (rw [add_block]; exact hn270_2) | (show (Addr.add _ _).block ≠ _; rw [add_block]; exact hn270_2) | exact hn270_2) (.int .i64 ((rd_T46 l0 x17_1).f2))).trans hx270_1; replace hx270_2 := (cell_far (p := ⟨gb269, 2, none⟩) (by first | (rw [add_block]; exact hn270_2) | (show (Addr.add _ _).block ≠ _; rw [add_block]; exact hn270_2) | exact hn270_2) (.int .i64 ((rd_T46 l0 x17_1).f2))).trans hx270_2; clear hn270_0; clear hn270_1; clear hn270_2; replace p270 := eq_true p270; replace q270 := eq_true q270) | ((with_reducible refine gate_dst (N := 9) rfl ?_); refine box_event ?hg (N := 9) ?hd (cs := #[.int .i64 0, .string (⟨#[]⟩ : ByteArray), .int .i64 0]) (t := 46) ?hr ?_; (case hd => rfl); (case hg => rfl); (case hr => first | (go_simp; done) | (go_simp; rfl)); intro gb271 hg w13 hbox hb; have n0_ := Aside0.mk (blk_below (g := gb269) (o := .cells #[.int .i64 ((rd_T46 l0 x17_1).f0), .string ((rd_T46 l0 x17_1).f1), .int .i64 ((rd_T46 l0 x17_1).f2)] 46 (0, 0)) (by (with_reducible repeat (first | refine blk_drewN ?_ _ | refine blk_drew ?_ | refine blk_alloc ?_ _)); refine blk_put (cs := #[.int .i64 ((rd_T46 l0 x17_1).f0), .string ((rd_T46 l0 x17_1).f1), .int .i64 0]) ?_ 2 _ rfl; (with_reducible repeat (first | refine blk_drewN ?_ _ | refine blk_drew ?_ | refine blk_alloc ?_ _)); refine blk_put (cs := #[.int .i64 ((rd_T46 l0 x17_1).f0), .string (⟨#[]⟩ : ByteArray), .int .i64 0]) ?_ 1 _ rfl; (with_reducible repeat (first | refine blk_drewN ?_ _ | refine blk_drew ?_ | refine blk_alloc ?_ _)); refine blk_put (cs := #[.int .i64 0, .string (⟨#[]⟩ : ByteArray), .int .i64 0]) ?_ 0 _ rfl; (with_reducible repeat (first | refine blk_drewN ?_ _ | refine blk_drew ?_ | refine blk_alloc ?_ _)); exact BK269.out) hb); have n1_ := Aside0.mk (below_step (by repeat (first | (with_reducible first | exact HB.out | apply below_alloc | apply pw_below_drewN | apply below_drew1 | refine below_set ?_ GE269.out) | exact HB.out)) hb); have n2_ := Aside0.mk (hbox); have n3_ := Aside0.mk ((by rw [hg]; exact (below_size (by repeat (first | (with_reducible first | exact HB.out | apply below_alloc | apply pw_below_drewN | apply below_drew1 | refine below_set ?_ GE269.out) | exact HB.out))) : w.heap.size ≤ gb271)); have n4_ := Aside0.mk ((by rw [hg]; exact (below_size (by repeat (first | (with_reducible first | exact HB.out | apply below_alloc | apply pw_below_drewN | apply below_drew1 | refine below_set ?_ GE269.out) | exact HB.out))) : w.heap.size ≤ gb271)); have n5_ := Aside0.mk ((by rw [hg]; exact Nat.ne_of_lt (blk_lt (g := gb269) (o := .cells #[.int .i64 ((rd_T46 l0 x17_1).f0), .string ((rd_T46 l0 x17_1).f1), .int .i64 ((rd_T46 l0 x17_1).f2)] 46 (0, 0)) (by (with_reducible repeat (first | refine blk_drewN ?_ _ | refine blk_drew ?_ | refine blk_alloc ?_ _)); refine blk_put (cs := #[.int .i64 ((rd_T46 l0 x17_1).f0), .string ((rd_T46 l0 x17_1).f1), .int .i64 0]) ?_ 2 _ rfl; (with_reducible repeat (first | refine blk_drewN ?_ _ | refine blk_drew ?_ | refine blk_alloc ?_ _)); refine blk_put (cs := #[.int .i64 ((rd_T46 l0 x17_1).f0), .string (⟨#[]⟩ : ByteArray), .int .i64 0]) ?_ 1 _ rfl; (with_reducible repeat (first | refine blk_drewN ?_ _ | refine blk_drew ?_ | refine blk_alloc ?_ _)); refine blk_put (cs := #[.int .i64 0, .string (⟨#[]⟩ : ByteArray), .int .i64 0]) ?_ 0 _ rfl; (with_reducible repeat (first | refine blk_drewN ?_ _ | refine blk_drew ?_ | refine blk_alloc ?_ _)); exact BK269.out)) : gb269 ≠ gb271)); have n6_ := Aside0.mk ((by rw [hg]; exact Nat.ne_of_gt (blk_lt (g := gb269) (o := .cells #[.int .i64 ((rd_T46 l0 x17_1).f0), .string ((rd_T46 l0 x17_1).f1), .int .i64 ((rd_T46 l0 x17_1).f2)] 46 (0, 0)) (by (with_reducible repeat (first | refine blk_drewN ?_ _ | refine blk_drew ?_ | refine blk_alloc ?_ _)); refine blk_put (cs := #[.int .i64 ((rd_T46 l0 x17_1).f0), .string ((rd_T46 l0 x17_1).f1), .int .i64 0]) ?_ 2 _ rfl; (with_reducible repeat (first | refine blk_drewN ?_ _ | refine blk_drew ?_ | refine blk_alloc ?_ _)); refine blk_put (cs := #[.int .i64 ((rd_T46 l0 x17_1).f0), .string (⟨#[]⟩ : ByteArray), .int .i64 0]) ?_ 1 _ rfl; (with_reducible repeat (first | refine blk_drewN ?_ _ | refine blk_drew ?_ | refine blk_alloc ?_ _)); refine blk_put (cs := #[.int .i64 0, .string (⟨#[]⟩ : ByteArray), .int .i64 0]) ?_ 0 _ rfl; (with_reducible repeat (first | refine blk_drewN ?_ _ | refine blk_drew ?_ | refine blk_alloc ?_ _)); exact BK269.out)) : gb271 ≠ gb269)); clear BK269; clear HB; have BK269 := n0_; have HB := n1_; have BK271 := n2_; have GW271 := n3_; have GE271 := n4_; have NB269_271 := n5_; have NB271_269 := n6_; clear n0_ n1_ n2_ n3_ n4_ n5_ n6_; clear hb hbox hg; have hnb14 := NB271_269.out; have hnc14 := NB269_271.out; have hcz15_0 : w13.cell? ⟨gb271, 0, none⟩ = some (.int .i64 0) := (blk_cell BK271.out 0).trans rfl; have hcz15_1 : w13.cell? ⟨gb271, 1, none⟩ = some (.string (⟨#[]⟩ : ByteArray)) := (blk_cell BK271.out 1).trans rfl; have hcz15_2 : w13.cell? ⟨gb271, 2, none⟩ = some (.int .i64 0) := (blk_cell BK271.out 2).trans rfl; have hfz15_0 := blk_frozen BK271.out 0; have hfz15_1 := blk_frozen BK271.out 1; have hfz15_2 := blk_frozen BK271.out 2; have hcz16_0 : w13.cell? ⟨gb269, 0, none⟩ = some (.int .i64 ((rd_T46 l0 x17_1).f0)) := (blk_cell BK269.out 0).trans rfl; have hcz16_1 : w13.cell? ⟨gb269, 1, none⟩ = some (.string ((rd_T46 l0 x17_1).f1)) := (blk_cell BK269.out 1).trans rfl; have hcz16_2 : w13.cell? ⟨gb269, 2, none⟩ = some (.int .i64 ((rd_T46 l0 x17_1).f2)) := (blk_cell BK269.out 2).trans rfl; have hfz16_0 := blk_frozen BK269.out 0; have hfz16_1 := blk_frozen BK269.out 1; have hfz16_2 := blk_frozen BK269.out 2) | ((with_reducible refine gate_dst (N := 29) rfl ?_); refine goesT_  (some 29) rfl rfl Try.func40 (by kernel_rfl) rfl #[.agg #[.int .i64 ((rd_T46 l0 x17_1).f0), .string ((rd_T46 l0 x17_1).f1), .int .i64 ((rd_T46 l0 x17_1).f2)], .agg #[.int .i64 ((rd_T46 l1 x17_1).f0), .string ((rd_T46 l1 x17_1).f1), .int .i64 ((rd_T46 l1 x17_1).f2)]] rfl (by rfl) (by (try simp only [List.map_toArray, List.map_cons, List.map_nil]); first | done | rfl | (simp only [List.length_drop, List.length_take]; rfl)) ?_; (with_reducible refine (token_Same_1.calls ((rd_T46 l0 x17_1).f0) ((rd_T46 l0 x17_1).f1) ((rd_T46 l0 x17_1).f2) ((rd_T46 l1 x17_1).f0) ((rd_T46 l1 x17_1).f1) ((rd_T46 l1 x17_1).f2) true _ A9.out).mono ?_); rintro e w17 ⟨rfl, hb⟩; refine ⟨_, rfl, ?_⟩; have n0_ := Aside0.mk (blk_below (g := gb269) (o := .cells #[.int .i64 ((rd_T46 l0 x17_1).f0), .string ((rd_T46 l0 x17_1).f1), .int .i64 ((rd_T46 l0 x17_1).f2)] 46 (0, 0)) (by (with_reducible repeat (first | refine blk_drewN ?_ _ | refine blk_drew ?_ | refine blk_alloc ?_ _)); refine blk_far ?_ NB269_271.out _; (with_reducible repeat (first | refine blk_drewN ?_ _ | refine blk_drew ?_ | refine blk_alloc ?_ _)); refine blk_far ?_ NB269_271.out _; (with_reducible repeat (first | refine blk_drewN ?_ _ | refine blk_drew ?_ | refine blk_alloc ?_ _)); refine blk_far ?_ NB269_271.out _; (with_reducible repeat (first | refine blk_drewN ?_ _ | refine blk_drew ?_ | refine blk_alloc ?_ _)); exact BK269.out) hb); have n1_ := Aside0.mk (blk_below (g := gb271) (o := .cells #[.int .i64 ((rd_T46 l1 x17_1).f0), .string ((rd_T46 l1 x17_1).f1), .int .i64 ((rd_T46 l1 x17_1).f2)] 46 (0, 0)) (by (with_reducible repeat (first | refine blk_drewN ?_ _ | refine blk_drew ?_ | refine blk_alloc ?_ _)); refine blk_put (cs := #[.int .i64 ((rd_T46 l1 x17_1).f0), .string ((rd_T46 l1 x17_1).f1), .int .i64 0]) ?_ 2 _ rfl; (with_reducible repeat (first | refine blk_drewN ?_ _ | refine blk_drew ?_ | refine blk_alloc ?_ _)); refine blk_put (cs := #[.int .i64 ((rd_T46 l1 x17_1).f0), .string (⟨#[]⟩ : ByteArray), .int .i64 0]) ?_ 1 _ rfl; (with_reducible repeat (first | refine blk_drewN ?_ _ | refine blk_drew ?_ | refine blk_alloc ?_ _)); refine blk_put (cs := #[.int .i64 0, .string (⟨#[]⟩ : ByteArray), .int .i64 0]) ?_ 0 _ rfl; (with_reducible repeat (first | refine blk_drewN ?_ _ | refine blk_drew ?_ | refine blk_alloc ?_ _)); exact BK271.out) hb); have n2_ := Aside0.mk (below_step (by repeat (first | (with_reducible first | exact HB.out | apply below_alloc | apply pw_below_drewN | apply below_drew1 | refine below_set ?_ GE269.out | refine below_set ?_ GE271.out) | exact HB.out)) hb); clear BK269; clear BK271; clear HB; have BK269 := n0_; have BK271 := n1_; have HB := n2_; clear n0_ n1_ n2_; (try clear hb); (try clear hb2); (try clear hk); (try clear hi)))
                  go_roundg k1
                  case measure => have := HK1.out; omega
                  case rel => exact ⟨(wrap64 (x17_1 + 1)), (by first | rfl | (simp; done) | (simp [*]; done)), H', ⟨by have := HK1.out; omega⟩, ⟨by repeat (first | (with_reducible first | exact HB.out | apply below_alloc | apply pw_below_drewN | apply below_drew1 | refine below_set ?_ GE269.out | refine below_set ?_ GE271.out) | exact HB.out)⟩⟩
                · replace c10 := Bool.eq_false_iff.mpr c10
                  subst c10
                  have H1 : (some false) = some r := by rw [if_neg (show ¬ (false = true) by decide)] at H; exact H
                  clear H
                  have H := H1
                  clear H1
                  obtain rfl := Option.some.inj H
                  have p268 : 0 ≤ (x17_1 : Int) := of_decide_eq_true (by first | (with_reducible assumption) | assumption)
                  have q268 : x17_1 < (l0.length : Int) := of_decide_eq_true (by first | (with_reducible assumption) | assumption)
                  obtain ⟨ad268, e268, hx268_0, hx268_1, hx268_2⟩ := at_T46 HR0.out x17_1 p268 q268
                  cases e268
                  replace hx268_0 := (HB.out.cell (World.block_lt_of_cell? w _ hx268_0)).trans hx268_0
                  replace hx268_1 := (HB.out.cell (World.block_lt_of_cell? w _ hx268_1)).trans hx268_1
                  replace hx268_2 := (HB.out.cell (World.block_lt_of_cell? w _ hx268_2)).trans hx268_2
                  replace p268 := eq_true p268
                  replace q268 := eq_true q268
                  go_wp2_with (first | ((with_reducible refine gate_dst (N := 8) rfl ?_); refine box_event ?hg (N := 8) ?hd (cs := #[.int .i64 0, .string (⟨#[]⟩ : ByteArray), .int .i64 0]) (t := 46) ?hr ?_; (case hd => rfl); (case hg => rfl); (case hr => first | (go_simp; done) | (go_simp; rfl)); intro gb269 hg w18 hbox hb; have n0_ := Aside0.mk (below_step (by repeat (first | (with_reducible first | exact HB.out | apply below_alloc | apply pw_below_drewN | apply below_drew1) | exact HB.out)) hb); have n1_ := Aside0.mk (hbox); have n2_ := Aside0.mk ((by rw [hg]; exact (below_size (by repeat (first | (with_reducible first | exact HB.out | apply below_alloc | apply pw_below_drewN | apply below_drew1) | exact HB.out))) : w.heap.size ≤ gb269)); have n3_ := Aside0.mk ((by rw [hg]; exact (below_size (by repeat (first | (with_reducible first | exact HB.out | apply below_alloc | apply pw_below_drewN | apply below_drew1) | exact HB.out))) : w.heap.size ≤ gb269)); clear HB; have HB := n0_; have BK269 := n1_; have GW269 := n2_; have GE269 := n3_; clear n0_ n1_ n2_ n3_; clear hb hbox hg; have hcz19_0 : w18.cell? ⟨gb269, 0, none⟩ = some (.int .i64 0) := (blk_cell BK269.out 0).trans rfl; have hcz19_1 : w18.cell? ⟨gb269, 1, none⟩ = some (.string (⟨#[]⟩ : ByteArray)) := (blk_cell BK269.out 1).trans rfl; have hcz19_2 : w18.cell? ⟨gb269, 2, none⟩ = some (.int .i64 0) := (blk_cell BK269.out 2).trans rfl; have hfz19_0 := blk_frozen BK269.out 0; have hfz19_1 := blk_frozen BK269.out 1; have hfz19_2 := blk_frozen BK269.out 2; have p270 : 0 ≤ (x17_1 : Int) := of_decide_eq_true (by first | (with_reducible assumption) | assumption); have q270 : x17_1 < (l1.length : Int) := of_decide_eq_true (by first | (with_reducible assumption) | assumption); obtain ⟨ad270, e270, hx270_0, hx270_1, hx270_2⟩ := at_T46 HR1.out x17_1 p270 q270; cases e270; have hn270_0 : ad270.block ≠ gb269 := Nat.ne_of_lt (Nat.lt_of_lt_of_le (by have := World.block_lt_of_cell? _ _ hx270_0; first | rwa [add_block] at this | exact this) GW269.out); have hn270_1 : ad270.block ≠ gb269 := Nat.ne_of_lt (Nat.lt_of_lt_of_le (by have := World.block_lt_of_cell? _ _ hx270_0; first | rwa [add_block] at this | exact this) GW269.out); have hn270_2 : ad270.block ≠ gb269 := Nat.ne_of_lt (Nat.lt_of_lt_of_le (by have := World.block_lt_of_cell? _ _ hx270_0; first | rwa [add_block] at this | exact this) GW269.out); replace hx270_0 := (HB.out.cell (World.block_lt_of_cell? w _ hx270_0)).trans hx270_0; replace hx270_1 := (HB.out.cell (World.block_lt_of_cell? w _ hx270_1)).trans hx270_1; replace hx270_2 := (HB.out.cell (World.block_lt_of_cell? w _ hx270_2)).trans hx270_2; replace hx270_0 := (cell_far (p := ⟨gb269, 0, none⟩) (by first | (rw [add_block]; exact hn270_0) | (show (Addr.add _ _).block ≠ _; rw [add_block]; exact hn270_0) | exact hn270_0) (.int .i64 ((rd_T46 l0 x17_1).f0))).trans hx270_0; replace hx270_1 := (cell_far (p := ⟨gb269, 0, none⟩) (by first | (rw [add_block]; exact hn270_0) | (show (Addr.add _ _).block ≠ _; rw [add_block]; exact hn270_0) | exact hn270_0) (.int .i64 ((rd_T46 l0 x17_1).f0))).trans hx270_1; replace hx270_2 := (cell_far (p := ⟨gb269, 0, none⟩) (by first | (rw [add_block]; exact hn270_0) | (show (Addr.add _ _).block ≠ _; rw [add_block]; exact hn270_0) | exact hn270_0) (.int .i64 ((rd_T46 l0 x17_1).f0))).trans hx270_2; replace hx270_0 := (cell_far (p := ⟨gb269, 1, none⟩) (by first | (rw [add_block]; exact hn270_1) | (show (Addr.add _ _).block ≠ _; rw [add_block]; exact hn270_1) | exact hn270_1) (.string ((rd_T46 l0 x17_1).f1))).trans hx270_0; replace hx270_1 := (cell_far (p := ⟨gb269, 1, none⟩) (by first | (rw [add_block]; exact hn270_1) | (show (Addr.add _ _).block ≠ _; rw [add_block]; exact hn270_1) | exact hn270_1) (.string ((rd_T46 l0 x17_1).f1))).trans hx270_1; replace hx270_2 := (cell_far (p := ⟨gb269, 1, none⟩) (by first | (rw [add_block]; exact hn270_1) | (show (Addr.add _ _).block ≠ _; rw [add_block]; exact hn270_1) | exact hn270_1) (.string ((rd_T46 l0 x17_1).f1))).trans hx270_2; replace hx270_0 := (cell_far (p := ⟨gb269, 2, none⟩) (by first | (rw [add_block]; exact hn270_2) | (show (Addr.add _ _).block ≠ _; rw [add_block]; exact hn270_2) | exact hn270_2) (.int .i64 ((rd_T46 l0 x17_1).f2))).trans hx270_0; replace hx270_1 := (cell_far (p := ⟨gb269, 2, none⟩) (by first | (rw [add_block]; exact hn270_2) | (show (Addr.add _ _).block ≠ _; rw [add_block]; exact hn270_2) | exact hn270_2) (.int .i64 ((rd_T46 l0 x17_1).f2))).trans hx270_1; replace hx270_2 := (cell_far (p := ⟨gb269, 2, none⟩) (by first | (rw [add_block]; exact hn270_2) | (show (Addr.add _ _).block ≠ _; rw [add_block]; exact hn270_2) | exact hn270_2) (.int .i64 ((rd_T46 l0 x17_1).f2))).trans hx270_2; clear hn270_0; clear hn270_1; clear hn270_2; replace p270 := eq_true p270; replace q270 := eq_true q270) | ((with_reducible refine gate_dst (N := 9) rfl ?_); refine box_event ?hg (N := 9) ?hd (cs := #[.int .i64 0, .string (⟨#[]⟩ : ByteArray), .int .i64 0]) (t := 46) ?hr ?_; (case hd => rfl); (case hg => rfl); (case hr => first | (go_simp; done) | (go_simp; rfl)); intro gb271 hg w20 hbox hb; have n0_ := Aside0.mk (blk_below (g := gb269) (o := .cells #[.int .i64 ((rd_T46 l0 x17_1).f0), .string ((rd_T46 l0 x17_1).f1), .int .i64 ((rd_T46 l0 x17_1).f2)] 46 (0, 0)) (by (with_reducible repeat (first | refine blk_drewN ?_ _ | refine blk_drew ?_ | refine blk_alloc ?_ _)); refine blk_put (cs := #[.int .i64 ((rd_T46 l0 x17_1).f0), .string ((rd_T46 l0 x17_1).f1), .int .i64 0]) ?_ 2 _ rfl; (with_reducible repeat (first | refine blk_drewN ?_ _ | refine blk_drew ?_ | refine blk_alloc ?_ _)); refine blk_put (cs := #[.int .i64 ((rd_T46 l0 x17_1).f0), .string (⟨#[]⟩ : ByteArray), .int .i64 0]) ?_ 1 _ rfl; (with_reducible repeat (first | refine blk_drewN ?_ _ | refine blk_drew ?_ | refine blk_alloc ?_ _)); refine blk_put (cs := #[.int .i64 0, .string (⟨#[]⟩ : ByteArray), .int .i64 0]) ?_ 0 _ rfl; (with_reducible repeat (first | refine blk_drewN ?_ _ | refine blk_drew ?_ | refine blk_alloc ?_ _)); exact BK269.out) hb); have n1_ := Aside0.mk (below_step (by repeat (first | (with_reducible first | exact HB.out | apply below_alloc | apply pw_below_drewN | apply below_drew1 | refine below_set ?_ GE269.out) | exact HB.out)) hb); have n2_ := Aside0.mk (hbox); have n3_ := Aside0.mk ((by rw [hg]; exact (below_size (by repeat (first | (with_reducible first | exact HB.out | apply below_alloc | apply pw_below_drewN | apply below_drew1 | refine below_set ?_ GE269.out) | exact HB.out))) : w.heap.size ≤ gb271)); have n4_ := Aside0.mk ((by rw [hg]; exact (below_size (by repeat (first | (with_reducible first | exact HB.out | apply below_alloc | apply pw_below_drewN | apply below_drew1 | refine below_set ?_ GE269.out) | exact HB.out))) : w.heap.size ≤ gb271)); have n5_ := Aside0.mk ((by rw [hg]; exact Nat.ne_of_lt (blk_lt (g := gb269) (o := .cells #[.int .i64 ((rd_T46 l0 x17_1).f0), .string ((rd_T46 l0 x17_1).f1), .int .i64 ((rd_T46 l0 x17_1).f2)] 46 (0, 0)) (by (with_reducible repeat (first | refine blk_drewN ?_ _ | refine blk_drew ?_ | refine blk_alloc ?_ _)); refine blk_put (cs := #[.int .i64 ((rd_T46 l0 x17_1).f0), .string ((rd_T46 l0 x17_1).f1), .int .i64 0]) ?_ 2 _ rfl; (with_reducible repeat (first | refine blk_drewN ?_ _ | refine blk_drew ?_ | refine blk_alloc ?_ _)); refine blk_put (cs := #[.int .i64 ((rd_T46 l0 x17_1).f0), .string (⟨#[]⟩ : ByteArray), .int .i64 0]) ?_ 1 _ rfl; (with_reducible repeat (first | refine blk_drewN ?_ _ | refine blk_drew ?_ | refine blk_alloc ?_ _)); refine blk_put (cs := #[.int .i64 0, .string (⟨#[]⟩ : ByteArray), .int .i64 0]) ?_ 0 _ rfl; (with_reducible repeat (first | refine blk_drewN ?_ _ | refine blk_drew ?_ | refine blk_alloc ?_ _)); exact BK269.out)) : gb269 ≠ gb271)); have n6_ := Aside0.mk ((by rw [hg]; exact Nat.ne_of_gt (blk_lt (g := gb269) (o := .cells #[.int .i64 ((rd_T46 l0 x17_1).f0), .string ((rd_T46 l0 x17_1).f1), .int .i64 ((rd_T46 l0 x17_1).f2)] 46 (0, 0)) (by (with_reducible repeat (first | refine blk_drewN ?_ _ | refine blk_drew ?_ | refine blk_alloc ?_ _)); refine blk_put (cs := #[.int .i64 ((rd_T46 l0 x17_1).f0), .string ((rd_T46 l0 x17_1).f1), .int .i64 0]) ?_ 2 _ rfl; (with_reducible repeat (first | refine blk_drewN ?_ _ | refine blk_drew ?_ | refine blk_alloc ?_ _)); refine blk_put (cs := #[.int .i64 ((rd_T46 l0 x17_1).f0), .string (⟨#[]⟩ : ByteArray), .int .i64 0]) ?_ 1 _ rfl; (with_reducible repeat (first | refine blk_drewN ?_ _ | refine blk_drew ?_ | refine blk_alloc ?_ _)); refine blk_put (cs := #[.int .i64 0, .string (⟨#[]⟩ : ByteArray), .int .i64 0]) ?_ 0 _ rfl; (with_reducible repeat (first | refine blk_drewN ?_ _ | refine blk_drew ?_ | refine blk_alloc ?_ _)); exact BK269.out)) : gb271 ≠ gb269)); clear BK269; clear HB; have BK269 := n0_; have HB := n1_; have BK271 := n2_; have GW271 := n3_; have GE271 := n4_; have NB269_271 := n5_; have NB271_269 := n6_; clear n0_ n1_ n2_ n3_ n4_ n5_ n6_; clear hb hbox hg; have hnb21 := NB271_269.out; have hnc21 := NB269_271.out; have hcz22_0 : w20.cell? ⟨gb271, 0, none⟩ = some (.int .i64 0) := (blk_cell BK271.out 0).trans rfl; have hcz22_1 : w20.cell? ⟨gb271, 1, none⟩ = some (.string (⟨#[]⟩ : ByteArray)) := (blk_cell BK271.out 1).trans rfl; have hcz22_2 : w20.cell? ⟨gb271, 2, none⟩ = some (.int .i64 0) := (blk_cell BK271.out 2).trans rfl; have hfz22_0 := blk_frozen BK271.out 0; have hfz22_1 := blk_frozen BK271.out 1; have hfz22_2 := blk_frozen BK271.out 2; have hcz23_0 : w20.cell? ⟨gb269, 0, none⟩ = some (.int .i64 ((rd_T46 l0 x17_1).f0)) := (blk_cell BK269.out 0).trans rfl; have hcz23_1 : w20.cell? ⟨gb269, 1, none⟩ = some (.string ((rd_T46 l0 x17_1).f1)) := (blk_cell BK269.out 1).trans rfl; have hcz23_2 : w20.cell? ⟨gb269, 2, none⟩ = some (.int .i64 ((rd_T46 l0 x17_1).f2)) := (blk_cell BK269.out 2).trans rfl; have hfz23_0 := blk_frozen BK269.out 0; have hfz23_1 := blk_frozen BK269.out 1; have hfz23_2 := blk_frozen BK269.out 2) | ((with_reducible refine gate_dst (N := 29) rfl ?_); refine goesT_  (some 29) rfl rfl Try.func40 (by kernel_rfl) rfl #[.agg #[.int .i64 ((rd_T46 l0 x17_1).f0), .string ((rd_T46 l0 x17_1).f1), .int .i64 ((rd_T46 l0 x17_1).f2)], .agg #[.int .i64 ((rd_T46 l1 x17_1).f0), .string ((rd_T46 l1 x17_1).f1), .int .i64 ((rd_T46 l1 x17_1).f2)]] rfl (by rfl) (by (try simp only [List.map_toArray, List.map_cons, List.map_nil]); first | done | rfl | (simp only [List.length_drop, List.length_take]; rfl)) ?_; (with_reducible refine (token_Same_1.calls ((rd_T46 l0 x17_1).f0) ((rd_T46 l0 x17_1).f1) ((rd_T46 l0 x17_1).f2) ((rd_T46 l1 x17_1).f0) ((rd_T46 l1 x17_1).f1) ((rd_T46 l1 x17_1).f2) false _ A9.out).mono ?_); rintro e w24 ⟨rfl, hb⟩; refine ⟨_, rfl, ?_⟩; have n0_ := Aside0.mk (blk_below (g := gb269) (o := .cells #[.int .i64 ((rd_T46 l0 x17_1).f0), .string ((rd_T46 l0 x17_1).f1), .int .i64 ((rd_T46 l0 x17_1).f2)] 46 (0, 0)) (by (with_reducible repeat (first | refine blk_drewN ?_ _ | refine blk_drew ?_ | refine blk_alloc ?_ _)); refine blk_far ?_ NB269_271.out _; (with_reducible repeat (first | refine blk_drewN ?_ _ | refine blk_drew ?_ | refine blk_alloc ?_ _)); refine blk_far ?_ NB269_271.out _; (with_reducible repeat (first | refine blk_drewN ?_ _ | refine blk_drew ?_ | refine blk_alloc ?_ _)); refine blk_far ?_ NB269_271.out _; (with_reducible repeat (first | refine blk_drewN ?_ _ | refine blk_drew ?_ | refine blk_alloc ?_ _)); exact BK269.out) hb); have n1_ := Aside0.mk (blk_below (g := gb271) (o := .cells #[.int .i64 ((rd_T46 l1 x17_1).f0), .string ((rd_T46 l1 x17_1).f1), .int .i64 ((rd_T46 l1 x17_1).f2)] 46 (0, 0)) (by (with_reducible repeat (first | refine blk_drewN ?_ _ | refine blk_drew ?_ | refine blk_alloc ?_ _)); refine blk_put (cs := #[.int .i64 ((rd_T46 l1 x17_1).f0), .string ((rd_T46 l1 x17_1).f1), .int .i64 0]) ?_ 2 _ rfl; (with_reducible repeat (first | refine blk_drewN ?_ _ | refine blk_drew ?_ | refine blk_alloc ?_ _)); refine blk_put (cs := #[.int .i64 ((rd_T46 l1 x17_1).f0), .string (⟨#[]⟩ : ByteArray), .int .i64 0]) ?_ 1 _ rfl; (with_reducible repeat (first | refine blk_drewN ?_ _ | refine blk_drew ?_ | refine blk_alloc ?_ _)); refine blk_put (cs := #[.int .i64 0, .string (⟨#[]⟩ : ByteArray), .int .i64 0]) ?_ 0 _ rfl; (with_reducible repeat (first | refine blk_drewN ?_ _ | refine blk_drew ?_ | refine blk_alloc ?_ _)); exact BK271.out) hb); have n2_ := Aside0.mk (below_step (by repeat (first | (with_reducible first | exact HB.out | apply below_alloc | apply pw_below_drewN | apply below_drew1 | refine below_set ?_ GE269.out | refine below_set ?_ GE271.out) | exact HB.out)) hb); clear BK269; clear BK271; clear HB; have BK269 := n0_; have BK271 := n1_; have HB := n2_; clear n0_ n1_ n2_; (try clear hb); (try clear hb2); (try clear hk); (try clear hi)))
                  go_ret
                  exact ⟨by first | rfl | (simp [errW_none, errW_some] <;> rfl) | (simp [*, errW_none, errW_some] <;> rfl), by repeat (first | (with_reducible first | exact HB.out | apply below_alloc | apply pw_below_drewN | apply below_drew1 | refine below_set ?_ GE269.out | refine below_set ?_ GE271.out) | exact HB.out)⟩
              · rw [if_neg c8] at H
                exact absurd H (by simp)
            · rw [if_neg c7] at H
              exact absurd H (by simp)
          · rw [if_neg c6] at H
            exact absurd H (by simp)
        · rw [if_neg c5] at H
          have c5b0 : decide (x17_1 < (l0.length : Int)) = false := decide_eq_false c5
          clear c5
          obtain rfl := Option.some.inj H
          go_wp2
          go_ret
          exact ⟨by first | rfl | (simp [errW_none, errW_some] <;> rfl) | (simp [*, errW_none, errW_some] <;> rfl), by repeat (first | (with_reducible first | exact HB.out | apply below_alloc | apply pw_below_drewN | apply below_drew1) | exact HB.out)⟩
  · rw [if_neg c4] at H
    have c4b0 : ((l0.length : Int) == (l1.length : Int)) = false := beq_eq_false_iff_ne.mpr c4
    have c4b1 : ((l0.length : Int) != (l1.length : Int)) = true := bne_iff_ne.mpr c4
    have c4b2 : (l0.length == l1.length) = false := by first | simpa using c4 | (simp at c4 ⊢; omega)
    obtain rfl := Option.some.inj H
    go_enter Try.func39, Try.ntmps39
    go_wp2
    go_ret
    exact ⟨by first | rfl | (simp [errW_none, errW_some] <;> rfl) | (simp [*, errW_none, errW_some] <;> rfl), by repeat (first | (with_reducible first | exact HB.out | apply below_alloc | apply pw_below_drewN | apply below_drew1) | exact HB.out)⟩

/-! ### token_Same: function 26 -/
def token_Same.f (k : Nat) (l0 : List (S46)) (l1 : List (S46)) : Option (Bool) := (api_Token_c40.f k l0 l1).bind fun t273 => (some t273)
theorem token_Same.mono : ∀ a0 a1 k, LeO (token_Same.f k a0 a1) (token_Same.f (k + 1) a0 a1) := by
  intro a0 a1 k
  unfold token_Same.f
  repeat' first
      | (with_reducible exact api_Token_c40.mono _ _ _)
      | (with_reducible exact LeO.refl _)
      | (with_reducible exact LeO.none _)
      | (with_reducible refine LeO.ite ?_ ?_)
      | (with_reducible refine LeO.bind ?_ (fun _ => ?_))
      | exact api_Token_c40.mono _ _ _
      | exact LeO.none _
      | refine LeO.ite ?_ ?_
      | refine LeO.bind ?_ (fun _ => ?_)
set_option maxHeartbeats 8000000 in
set_option maxRecDepth 100000 in
theorem token_Same.calls (k : Nat) (A0 : Option Addr) (c0 : Nat) (l0 : List (S46)) (A1 : Option Addr) (c1 : Nat) (l1 : List (S46)) (r : Bool) (w : World) (hr0 : Kd.C k46 w A0 l0.length l0) (hc0 : l0.length ≤ c0) (hr1 : Kd.C k46 w A1 l1.length l1) (hc1 : l1.length ≤ c1) (h : token_Same.f k l0 l1 = some r) :
    Calls Try.prog 26 #[.slice A0 l0.length c0, .slice A1 l1.length c1] w fun e w' => e = .returned (.bool r) ∧ Below w.heap.size w w' := by
  have HR0 := Aside0.mk hr0
  have HC0 := Aside0.mk hc0
  clear hr0 hc0
  have HR1 := Aside0.mk hr1
  have HC1 := Aside0.mk hc1
  clear hr1 hc1
  have HB := Aside0.mk (Below.refl w.heap.size w)
  have H : ((api_Token_c40.f k l0 l1).bind fun t273 => (some t273)) = some r := h
  clear h
  replace H := Option.bind_eq_some_iff.mp H
  obtain ⟨t273, A30, H⟩ := H
  replace H : (some t273) = some r := H
  have A3 := Aside0.mk A30
  clear A30
  obtain rfl := Option.some.inj H
  go_enter Try.func26, Try.ntmps26
  go_wp2_with (first | ((with_reducible refine gate_callee (f := 39) rfl ?_); refine goesL_  (some 7) rfl rfl Try.func39 (by kernel_rfl) rfl #[.slice A0 l0.length c0, .slice A1 l1.length c1, .func (.func 40) #[] #[]] rfl (by (try simp only [List.map_toArray, List.map_cons, List.map_nil]); first | done | rfl | (simp only [List.length_drop, List.length_take]; rfl)) ?_; (with_reducible refine (api_Token_c40.calls k _ _ l0 _ _ l1  t273 _ ?side1 ?side2 ?side3 ?side4 A3.out).mono ?_); (case side1 => repeat (first | exact HR0.out | (with_reducible refine Kd.C_alloc ?_ _) | (with_reducible refine Kd.C_drewN ?_ _) | (with_reducible refine Kd.C_drew ?_))); (case side2 => exact HC0.out); (case side3 => repeat (first | exact HR1.out | (with_reducible refine Kd.C_alloc ?_ _) | (with_reducible refine Kd.C_drewN ?_ _) | (with_reducible refine Kd.C_drew ?_))); (case side4 => exact HC1.out); rintro e w4 ⟨rfl, hb⟩; refine ⟨_, rfl, ?_⟩; have n0_ := Aside0.mk (below_step (by repeat (first | (with_reducible first | exact HB.out | apply below_alloc | apply pw_below_drewN | apply below_drew1) | exact HB.out)) hb); clear HB; have HB := n0_; clear n0_; (try clear hb); (try clear hb2); (try clear hk); (try clear hi)))
  go_ret
  exact ⟨by first | rfl | (simp [errW_none, errW_some] <;> rfl) | (simp [*, errW_none, errW_some] <;> rfl), by repeat (first | (with_reducible first | exact HB.out | apply below_alloc | apply pw_below_drewN | apply below_drew1) | exact HB.out)⟩

def npSame.f := nSame.f
theorem npSame.ev (l0 l1 : List S46) (r : Bool) (h : npSame.f l0 l1 = some r) : ∃ k, token_Same.f k l0 l1 = some r := by
  unfold npSame.f nSame.f at h
  by_cases hs : l0.length ≤ 140737488355000
  · rw [if_pos hs] at h
    rw [← h]
    refine ⟨l0.length + 1, ?_⟩
    unfold token_Same.f api_Token_c40.f
    by_cases hl : l0.length = l1.length
    · rw [if_pos (by omega)]
      have := all2_gen (fun x y => decide (keyS x = keyS y)) (fun k i => api_Token_c40.l0 k l1 l0 (l0.length : Int) i) l0 l1 hl (fun k i hi hj => by
        simp only [api_Token_c40.l0, token_Same_1.f]
        rw [if_pos (by omega), if_pos (by omega), if_pos (by omega), if_pos (by omega), rdT_at l0 i hi, rdT_at l1 i hj, w64 (by omega) (by omega), L_toList, L_toList]
        simp only [keyS, decide_eq_true_eq, Prod.mk.injEq]
        generalize L l0[i].f1 = p_; generalize L l1[i].f1 = q_; by_cases h1 : l0[i].f0 = l1[i].f0 <;> by_cases h2 : p_ = q_ <;> simp [h1, h2]) (fun k => by simp only [api_Token_c40.l0]; rw [if_neg (by omega)]) l0.length (l0.length + 1) 0 (by omega) (by omega) (by omega)
      rw [all2_map keyS _ (fun _ _ => rfl) _ _ (by simpa using hl)] at this
      rw [show ((0 : Nat) : Int) = 0 from rfl] at this
      rw [this, Option.bind_some]
      simp
    · rw [if_neg (by omega), decide_eq_false]
      · rfl
      intro h
      have := congrArg List.length h
      simp at this
      exact hl this
  · rw [if_neg hs] at h; cases h

theorem npSame.calls (A0 : Option Addr) (c0 : Nat) (l0 : List (S46)) (A1 : Option Addr) (c1 : Nat) (l1 : List (S46)) (r : Bool) (w : World) (hr0 : Kd.C k46 w A0 l0.length l0) (hc0 : l0.length ≤ c0) (hr1 : Kd.C k46 w A1 l1.length l1) (hc1 : l1.length ≤ c1) (h : npSame.f l0 l1 = some r) :
    Calls Try.prog 26 #[.slice A0 l0.length c0, .slice A1 l1.length c1] w fun e w' => e = .returned (.bool r) ∧ Below w.heap.size w w' := by
  obtain ⟨k, hk⟩ := npSame.ev l0 l1 r h
  exact token_Same.calls k A0 c0 l0 A1 c1 l1 r w hr0 hc0 hr1 hc1 hk

-- NOT PRINTED: function 41 (utf8_RuneCountInString)

-- NOT PRINTED: function 42 (bytealg_CountString)

-- NOT PRINTED: function 60 (bytealg_IndexString)

-- LEFT OUT: function 61 (bytealg_Cutover)

-- LEFT OUT: function 65 (bytealg_hashStr_string)

-- LEFT OUT: function 62 (bytealg_IndexRabinKarp_string)

-- NOT PRINTED: function 56 (stringslite_Index)

-- NOT PRINTED: function 43 (strings_Index)

-- NOT PRINTED: function 28 (strings_Count)

-- NOT PRINTED: function 10 (scarfjointlaw01_TokenSpaced)

end Go.Proofs.Ytkjikcmjcdlifaa.P
