/- The walk of the law TokenSpaced. Proved: spaced_walk: called with any tokens and any row of bytes that the row admits it answers true and leaves older memory as it was. -/
import Derived.Test.YtkjikcmjcdlifaaPx4
import Derived.Test.YtkjikcmjcdlifaaPx5
import Derived.Test.YtkjikcmjcdlifaaPx8
import Derived.Test.YtkjikcmjcdlifaaPx9
import Derived.Test.YtkjikcmjcdlifaaPx11
import Derived.Test.YtkjikcmjcdlifaaSpecS
import Derived.Test.YtkjikcmjcdlifaaWSized
namespace Go.Proofs.Ytkjikcmjcdlifaa.P
open Sj Go.RowKit Go.Proofs.YtkjikcmjcdlifaaW.PrintWords Go.Proofs.YtkjikcmjcdlifaaW.PrintLast Go.Proofs.YtkjikcmjcdlifaaW.PrintMore
set_option linter.unusedVariables false
set_option linter.unusedSimpArgs false
theorem awake_t : scarfjointlaw01_awake.f = some true := by decide +kernel
def gi (gs : Nat → Int) (n1 i : Nat) : Nat := if i < n1 then (gs i).toNat % 5 else 0
open Sj in
def zsOf (l0 : List S46) (gs : Nat → Int) (n1 : Nat) : List (Nat × Tok) := (List.range l0.length).map fun i => (gi gs n1 i, toT (l0.getD i z46))
open Sj in
def stI (l0 : List S46) (gs : Nat → Int) (n1 i : Nat) : Bs × Int × List Tok := ((zsOf l0 gs n1).take i).foldl spF ([], 1, [])
theorem alloc_le (w : World) (o : Obj) : w.heap.size ≤ (w.alloc o).heap.size := by simp
theorem alloc_lt (w : World) (o : Obj) : w.heap.size < (w.alloc o).heap.size := by simp
theorem bld_type {w0 w : World} {b : Nat} {l : List UInt8} (h : Bld w0 w b l) : ∃ cells, w.heap[b]? = some (.cells cells 31 (0, 0)) := by
  rcases h.1 with z | z
  · obtain ⟨_, v, h, _⟩ := z; exact ⟨_, h⟩
  · obtain ⟨_, v, h, _⟩ := z; exact ⟨_, h⟩
theorem R_bld {w0 w w1 : World} {b base : Nat} {ok : Nat → Prop} {l : List UInt8} {v : Value} {xs : List S46} (h : Bld w0 w b l) (hR : Kd.R k46 46 w base ok v xs) (hk : Lib.OthersKept 5 (some b) w w1) : Kd.R k46 46 w1 base ok v xs := by
  obtain ⟨cells, hb⟩ := bld_type h
  refine Kd.R_mono (Kd.R_move (Kd.R_bound hR) (fun k hk2 => ?_)) (fun _ hk => hk.1)
  obtain ⟨_, _, _, q, hq, cs, hc⟩ := hk2
  have hq46 : q = 46 := by
    rcases List.mem_cons.1 hq with h | h
    · exact h
    · cases h
  subst hq46
  rw [hc]
  refine hk k _ hc ?_ ?_
  · rintro he
    injection he with he
    subst he
    rw [hb] at hc
    injection hc with hc
    injection hc with _ hc
    cases hc
  · intro c fz he
    injection he with _ he
    cases he
theorem own46 {w : World} {base : Nat} {ok : Nat → Prop} {v : Value} {xs : List S46} (hR : Kd.R k46 46 w base ok v xs) : ∀ k, v.ownBlock = some k → ∃ cells, w.heap[k]? = some (.cells cells 46 (0, 0)) := by
  intro k hk
  obtain ⟨_, _, _, q, hq, cs, hc⟩ := (Kd.R_bound hR).1 k hk
  rcases List.mem_cons.1 hq with h | h
  · subst h; exact ⟨cs, hc⟩
  · cases h
theorem bld_grown {w0 w w1 : World} {b : Nat} {l : List UInt8} {row : Option Nat} (h : Bld w0 w b l) (hv : ∀ k, row = some k → ∃ cells, w.heap[k]? = some (.cells cells 46 (0, 0))) (hg : w.grownBy w1 row) (hb : Below w0.heap.size w0 w1) : Bld w0 w1 b l := by
  obtain ⟨cells, hbt⟩ := bld_type h
  have hne : some b ≠ row := by
    intro he
    obtain ⟨cs, hc⟩ := hv b he.symm
    rw [hbt] at hc
    injection hc with hc
    injection hc with _ hc
    cases hc
  have one : ∀ {p : Value} {bs : List Value}, Lib.BuilderAtF 31 5 w0.heap.size b p bs w → Lib.BuilderAtF 31 5 w0.heap.size b p bs w1 := by
    intro p bs z
    have hlt := z.lt
    obtain ⟨hB, u, hbk, hown, hn⟩ := z
    refine ⟨hB, u, (hg.block b hlt hne).trans hbk, hown.kept hg ?_, hn⟩
    cases hu : u.ownBlock with
    | none => exact .inl rfl
    | some g =>
      right
      intro he
      obtain ⟨c, fz, hc⟩ := Lib.ownsRowF_kind hown g hu
      obtain ⟨cs, hc2⟩ := hv g he.symm
      rw [hc] at hc2
      injection hc2 with hc2
      injection hc2 with _ hc2
      cases hc2
  exact ⟨h.1.imp one one, hb⟩

theorem grown_set (W : World) (b j : Nat) (v : Value) : W.grownBy (W.setCell ⟨b, j, none⟩ v) (some b) :=
  ⟨rfl, rfl, rfl, by simp [World.setCell], fun k _ hne => Below.heap_setCell W ⟨b, j, none⟩ v k (fun h => hne (by rw [h]))⟩
theorem C_one (w : World) (x : S46) : Kd.C k46 (w.alloc (.cells #[.int .i64 x.f0, .string x.f1, .int .i64 x.f2] 46)) (some ⟨w.heap.size, 0, none⟩) ([x] : List S46).length [x] := by
  refine ⟨rfl, by simp, fun _ => ⟨_, rfl, fun j p hp => ?_⟩⟩
  have hb := heap_alloc_new w (Obj.cells #[.int .i64 x.f0, .string x.f1, .int .i64 x.f2] 46)
  cases j with
  | succ j => simp at hp
  | zero =>
    simp only [List.getElem?_cons_zero, Option.some.injEq] at hp
    subst hp
    refine ⟨_, rfl, k46_mk _ x, fun i u hu => ?_⟩
    match i, hu with
    | 0, hu => simp only [List.getElem?_cons_zero, Option.some.injEq] at hu; rw [← hu]; exact (blk_cell hb 0).trans rfl
    | 1, hu => simp at hu; rw [← hu]; exact (blk_cell hb 1).trans rfl
    | 2, hu => simp at hu; rw [← hu]; exact (blk_cell hb 2).trans rfl
    | i + 3, hu => simp at hu
open Sj in
theorem write_one (t : S46) (h : right t.f0 (L t.f1) = true) (hs : okW t.f1) : nrWrite.f [t] = some (⟨(quo t.f0 (L t.f1)).toArray⟩, 0) := by
  have hl := right_len h
  rw [nrWrite.f, if_pos (fun _ x hx => by rw [List.mem_singleton.1 hx]; exact hs)]
  have : writeT ([t].map toT) = (quo t.f0 (L t.f1), 0) := by
    unfold writeT
    rw [if_neg (by simp), if_pos (by simp [toT, h])]
    simp [joinA, joinT, toT]
    omega
  rw [writeS, this]
open Sj in
theorem stI_succ (l0 : List S46) (gs : Nat → Int) (n1 i : Nat) (h : i < l0.length) : stI l0 gs n1 (i + 1) = spF (stI l0 gs n1 i) (gi gs n1 i, toT l0[i]) := by
  unfold stI
  have hz : i < (zsOf l0 gs n1).length := by simp [zsOf]; exact h
  rw [List.take_succ_eq_append_getElem hz, List.foldl_append]
  have e : (zsOf l0 gs n1)[i] = (gi gs n1 i, toT l0[i]) := by simp [zsOf, List.getD, List.getElem?_eq_getElem h]
  rw [e]; rfl
theorem gapN_le (n : Nat) : gapN n ≤ 2 := by unfold gapN; split <;> (try split) <;> omega
open Sj in
theorem stI_line (l0 : List S46) (gs : Nat → Int) (n1 : Nat) : ∀ i, i ≤ l0.length → 1 ≤ (stI l0 gs n1 i).2.1 ∧ (stI l0 gs n1 i).2.1 ≤ 1 + 2 * i ∧ (stI l0 gs n1 i).2.2.length = i ∧ (stI l0 gs n1 i).1.length ≤ 12 * i + sumS (l0.take i)
  | 0, _ => by simp [stI, sumS]
  | i + 1, h => by
    have ih := stI_line l0 gs n1 i (by omega)
    rw [stI_succ l0 gs n1 i (by omega)]
    have h2 := gapN_le (gi gs n1 i)
    have h3 : (gapB (gi gs n1 i)).length ≤ 10 := (gap_len (by unfold gi; split <;> omega)).2
    have h4 : (quo (toT l0[i]).kind (toT l0[i]).text).length ≤ l0[i].f1.size + 2 := by rw [← L_len]; exact quo_len _ _
    have h5 := sumS_take l0 i (by omega)
    simp only [spF, List.length_append, List.length_cons, List.length_nil]
    omega
open Sj in
set_option maxHeartbeats 4000000 in
set_option maxRecDepth 100000 in
theorem spaced_walk (A0 : Option Addr) (c0 : Nat) (l0 : List S46) (A1 : Option Addr) (n1 c1 : Nat) (gs : Nat → Int) (w : World) (hr0 : Kd.C k46 w A0 l0.length l0) (hc0 : l0.length ≤ c0)
    (hl : l0.length * 32 ≤ 140737488351232) (ho : ∀ t ∈ l0, t.f1.size ≤ 140737488351232) (hn1 : n1 ≤ 140737488351232)
    (hg : ∀ i, i < n1 → ∃ ad, A1 = some ad ∧ w.cell? (ad.add i) = some (.int .u8 (gs i)) ∧ 0 ≤ gs i ∧ gs i ≤ 255) :
    Calls Try.prog 10 #[.slice A0 l0.length c0, .slice A1 n1 c1] w fun e w' => e = .returned (.bool true) ∧ Below w.heap.size w w' := by
  have HR := Aside0.mk hr0
  have HO := Aside0.mk ho
  have HG := Aside0.mk hg
  have hfew : nFew.f l0 = some (decide (l0.length ≤ 300) && decide (sumS l0 ≤ 3000)) := by
    rw [nFew.f, if_pos]
    intro t ht
    have := ho t ht
    unfold okT; omega
  have HF := Aside0.mk hfew
  clear hr0 ho hg hfew
  go_enter Try.func10, Try.ntmps10
  go_wp2_with fail
  refine (scarfjointlaw01_awake.calls true _ awake_t).mono ?_
  rintro e w1 ⟨rfl, hb1⟩
  have HB1 := Aside0.mk hb1
  have HR1 := Aside0.mk (Kd.C_below HR.out hb1)
  clear hb1
  go_wp2_with fail
  refine (nFew.calls A0 c0 l0 _ w1 HR1.out hc0 HF.out).mono ?_
  rintro e w2 ⟨rfl, hd2⟩
  have HB2 := Aside0.mk (below_then HB1.out HB1.out.size hd2.below)
  clear hd2 HB1 HR1 HF
  cases hfb : (decide (l0.length ≤ 300) && decide (sumS l0 ≤ 3000)) with
  | false =>
    clear hfb
    go_wp2_with fail
    refine (scarfjointlaw01_awake.calls true _ awake_t).mono ?_
    rintro e w3 ⟨rfl, hb3⟩
    have HB3 := Aside0.mk (below_then HB2.out HB2.out.size hb3)
    clear hb3
    go_wp2
    go_ret
    exact ⟨rfl, HB3.out⟩
  | true =>
    have hfb2 : l0.length ≤ 300 ∧ sumS l0 ≤ 3000 := by simpa using hfb
    have h300 := hfb2.1
    have HSUM := Aside0.mk hfb2.2
    clear hfb hfb2
    have HB0 := Aside0.mk (bld_new HB2.out)
    go_wp2
    obtain ⟨b, hbb⟩ : ∃ b, b = w2.heap.size := ⟨_, rfl⟩
    obtain ⟨wn, hwn⟩ : ∃ wn, wn = w2.alloc (Obj.cells #[Value.pointer none, Value.slice none 0 0] 31) := ⟨_, rfl⟩
    rw [← hwn, ← hbb] at HB0 ⊢
    clear hbb hwn HB2
    go_loopw [6, 7, 26] (fun v6 v7 v26 w' => ∃ (i : Nat), v26 = .int .i64 i ∧ v6 = .int .i64 (stI l0 gs n1 i).2.1 ∧ Aside0 (i ≤ l0.length) ∧ Aside0 (Bld w w' b (stI l0 gs n1 i).1) ∧ Aside0 (Kd.R k46 46 w' w.heap.size (fun _ => True) v7 ((stI l0 gs n1 i).2.2.map mkS)) ∧ Aside0 (∀ t ∈ l0.take i, right t.f0 (L t.f1) = true)) (fun _ _ v26 _ => l0.length - (intOf v26).toNat)
    case atStart => exact ⟨0, rfl, rfl, ⟨Nat.zero_le _⟩, HB0, ⟨Kd.R_nil _ _ _ _ _⟩, ⟨by simp⟩⟩
    case round =>
      obtain ⟨i, rfl, rfl, Hi, HB, HK, HALL⟩ := hrel
      have hile := Hi.out
      by_cases hlt : i < l0.length
      · have hd2 : decide ((i : Int) < (l0.length : Int)) = true := decide_eq_true (by omega)
        obtain ⟨ad, e, h0, h1, h2⟩ := at_natT HR.out i hlt
        cases e
        have hw := HB.out.2
        replace h0 := (hw.cell (World.block_lt_of_cell? w _ h0)).trans h0
        replace h1 := (hw.cell (World.block_lt_of_cell? w _ h1)).trans h1
        replace h2 := (hw.cell (World.block_lt_of_cell? w _ h2)).trans h2
        clear hw
        obtain ⟨t, ht⟩ : ∃ t, t = l0[i] := ⟨_, rfl⟩
        have Ht := Aside0.mk ht
        rw [← ht] at h0 h1 h2
        clear ht
        have hot := HO.out t (by rw [Ht.out]; exact List.getElem_mem hlt)
        have hrc : nRight.f t.f0 t.f1 t.f2 = some (right t.f0 (L t.f1)) := by rw [nRight.f, if_pos (by unfold okW; omega)]
        have HRC := Aside0.mk hrc
        clear hot hrc
        go_wp2_with fail
        refine (nRight.calls t.f0 t.f1 t.f2 _ _ HRC.out).mono ?_
        rintro e w3 ⟨rfl, hb3⟩
        have HG3 := Aside0.mk (show w3.heap[wr.heap.size]? = some (.cells #[.int .i64 t.f0, .string t.f1, .int .i64 t.f2] 46 (0, 0)) from (hb3.block wr.heap.size (alloc_lt _ _)).trans (heap_alloc_new wr _))
        have HBW := Aside0.mk (below_then (below_alloc (Below.refl wr.heap.size wr) (Obj.cells #[Value.int IntKind.i64 t.f0, Value.string t.f1, Value.int IntKind.i64 t.f2] 46)) (alloc_le _ _) hb3)
        have HBB := Aside0.mk (bld_below HB.out HBW.out)
        have HKB := Aside0.mk (Kd.R_bound HK.out)
        clear hb3 h0 h1 h2 HRC
        cases hrt : right t.f0 (L t.f1) with
        | false =>
          clear hrt
          go_wp2
          go_ret
          exact ⟨rfl, HBB.out.2⟩
        | true =>
          have Hrt := Aside0.mk hrt
          clear hrt
          obtain ⟨gn, hgn⟩ : ∃ gn, gn = gi gs n1 i := ⟨_, rfl⟩
          have Hgn := Aside0.mk hgn
          clear hgn
          go_upto_if 37 with (fail)
          go_cut [10] (fun v10 wc => v10 = .string ⟨(gapB gn).toArray⟩ ∧ Aside0 (Below w3.heap.size w3 wc))
          case first =>
            by_cases hi : i < n1
            · have hd3 : decide ((i : Int) < (n1 : Int)) = true := decide_eq_true (by omega)
              obtain ⟨ad1, e1, g0, g1, g2⟩ := HG.out i hi
              cases e1
              have hw := HBB.out.2
              replace g0 := (hw.cell (World.block_lt_of_cell? w _ g0)).trans g0
              clear hw
              have gA : ∀ o, (w3.alloc o).cell? (ad1.add i) = some (.int .u8 (gs i)) := fun o => by rw [World.cell?_alloc_some _ _ _ (by rw [g0]; rfl)]; exact g0
              obtain ⟨gv, hgv⟩ := Int.eq_ofNat_of_zero_le g1
              rw [hgv] at g0 g2
              simp only [hgv] at gA
              have h5 : gn = gv % 5 := by rw [Hgn.out, gi, if_pos hi, hgv]; rfl
              have h5lt : gn < 5 := by rw [h5]; exact Nat.mod_lt _ (by omega)
              clear hgv g1
              rcases gap_cases h5lt with h | h | h | h | h
              · have hm : ((gv : Int) % 5) = 0 := by omega
                subst h
                clear h5
                go_wp2
                go_meet
                case rel => exact ⟨rfl, ⟨by repeat (first | exact Below.refl _ _ | apply below_alloc | apply pw_below_drewN | apply below_drew1)⟩⟩
              · have hm : ((gv : Int) % 5) = 1 := by omega
                subst h
                clear h5
                go_wp2
                go_meet
                case rel => exact ⟨rfl, ⟨by repeat (first | exact Below.refl _ _ | apply below_alloc | apply pw_below_drewN | apply below_drew1)⟩⟩
              · have hm : ((gv : Int) % 5) = 2 := by omega
                subst h
                clear h5
                go_wp2
                go_meet
                case rel => exact ⟨rfl, ⟨by repeat (first | exact Below.refl _ _ | apply below_alloc | apply pw_below_drewN | apply below_drew1)⟩⟩
              · have hm : ((gv : Int) % 5) = 3 := by omega
                subst h
                clear h5
                go_wp2
                go_meet
                case rel => exact ⟨rfl, ⟨by repeat (first | exact Below.refl _ _ | apply below_alloc | apply pw_below_drewN | apply below_drew1)⟩⟩
              · have hm : ((gv : Int) % 5) = 4 := by omega
                subst h
                clear h5
                go_wp2
                go_meet
                case rel => exact ⟨rfl, ⟨by repeat (first | exact Below.refl _ _ | apply below_alloc | apply pw_below_drewN | apply below_drew1)⟩⟩
            · have hd3 : decide ((i : Int) < (n1 : Int)) = false := decide_eq_false (by omega)
              have h5 : gn = 0 := by rw [Hgn.out, gi, if_neg hi]
              subst h5
              go_wp2
              go_meet
              case rel => exact ⟨rfl, ⟨by repeat (first | exact Below.refl _ _ | apply below_alloc | apply pw_below_drewN | apply below_drew1)⟩⟩
          case rest =>
            obtain ⟨rfl, HBC⟩ := hcut
            have HG4 := Aside0.mk ((HBC.out.block wr.heap.size (by have := HBW.out.size; have := Array.getElem?_eq_some_iff.1 HG3.out; exact this.1)).trans HG3.out)
            have HBC2 := Aside0.mk (below_then HBW.out HBW.out.size HBC.out)
            have HBD := Aside0.mk (bld_below HBB.out HBC.out)
            clear HG3 HBW HBB HBC
            have h5lt : gn < 5 := by rw [Hgn.out, gi]; split <;> omega
            have hcount : Lib.countByte (gapB gn) 10 = (gapN gn : Int) := by rcases gap_cases h5lt with h | h | h | h | h <;> subst h <;> decide +kernel
            have HC := Aside0.mk hcount
            have H5 := Aside0.mk h5lt
            clear hcount h5lt
            go_wp2_with fail
            refine (Try.strings_Count_one ⟨(gapB gn).toArray⟩ 10 wc).mono ?_
            rintro e w4 ⟨rfl, hw4⟩
            rw [hw4]
            clear hw4
            rw [show (Lib.countByte (⟨(gapB gn).toArray⟩ : ByteArray).data.toList 10) = (gapN gn : Int) from HC.out]
            have hz0 : wc.cell? ⟨wr.heap.size, 0, none⟩ = some (.int .i64 t.f0) := (blk_cell HG4.out 0).trans rfl
            have hz1 : wc.cell? ⟨wr.heap.size, 1, none⟩ = some (.string t.f1) := (blk_cell HG4.out 1).trans rfl
            have hz2 : wc.cell? ⟨wr.heap.size, 2, none⟩ = some (.int .i64 t.f2) := (blk_cell HG4.out 2).trans rfl
            have hln := stI_line l0 gs n1 i hile
            have hgp := gapN_le gn
            have hwr : wrap64 ((stI l0 gs n1 i).2.1 + (gapN gn : Int)) = (stI l0 gs n1 i).2.1 + (gapN gn : Int) := w64 (by omega) (by omega)
            have HLN := Aside0.mk hln
            have HW1 := Aside0.mk (write_one t Hrt.out (by have := HO.out t (by rw [Ht.out]; exact List.getElem_mem hlt); unfold okW; omega))
            clear hln hgp
            go_wp2_with fail
            rw [hwr]
            refine (nrWrite.calls _ 1 [t] _ _ _ (C_one wc t) (by simp) HW1.out).mono ?_
            rintro e w5 ⟨rfl, hb5⟩
            have HB5 := Aside0.mk (below_then (below_alloc (Below.refl wc.heap.size wc) _) (alloc_le _ _) hb5)
            have HG5 := Aside0.mk ((HB5.out.block wr.heap.size (Array.getElem?_eq_some_iff.1 HG4.out).1).trans HG4.out)
            have HBE := Aside0.mk (bld_below HBD.out HB5.out)
            have HBC3 := Aside0.mk (below_then HBC2.out HBC2.out.size HB5.out)
            clear hb5 hz0 hz1 hz2 HBC2 HG4 HBD HB5
            have hov : ¬ 9223372036854775807 < (gapB gn).length + (quo t.f0 (L t.f1)).length := by
              have := (gap_len H5.out).2
              have := right_len Hrt.out
              omega
            have hq2 : L ((⟨(gapB gn).toArray⟩ : ByteArray) ++ ⟨(quo t.f0 (L t.f1)).toArray⟩) = gapB gn ++ quo t.f0 (L t.f1) := by rw [L_append]
            have HQ2 := Aside0.mk hq2
            have HLEN := Aside0.mk (show (stI l0 gs n1 i).1.length + ((⟨(gapB gn).toArray⟩ : ByteArray) ++ ⟨(quo t.f0 (L t.f1)).toArray⟩).size ≤ 140737488355328 by
              rw [← L_len, hq2, List.length_append]
              have h1 := HLN.out.2.2.2
              have h2 : sumS (l0.take i) ≤ sumS l0 := by
                have : sumS l0 = sumS (l0.take i) + sumS (l0.drop i) := by
                  unfold sumS
                  rw [← List.sum_append, ← List.map_append, List.take_append_drop]
                omega
              have := HSUM.out
              have := (gap_len H5.out).2
              have := right_len Hrt.out
              omega)
            clear hq2
            go_wp2_with fail
            refine (bld_ws w w5 b _ _ HBE.out HLEN.out).mono ?_
            rintro e w6 ⟨rfl, hB6, hk6⟩
            rw [HQ2.out] at hB6
            have HG6 := Aside0.mk (hk6 wr.heap.size _ HG5.out (by intro he; injection he with he; have := bld_lt HB.out; omega) (by intro c fz he; injection he with _ he; cases he))
            have HK6 := Aside0.mk (R_bld HBE.out (Kd.R_below (Kd.R_mono (Kd.R_bound HK.out) (fun k hk => (show k ≠ wr.heap.size from Nat.ne_of_lt hk.2.2.1))) HBC3.out) hk6)
            have HB6 := Aside0.mk hB6
            clear hB6 hk6 HBE HG5 HBC3
            have hfz : w6.frozen? ⟨wr.heap.size, 2, none⟩ = false := blk_frozen HG6.out 2
            have hz2 : w6.cell? ⟨wr.heap.size, 2, none⟩ = some (.int .i64 t.f2) := (blk_cell HG6.out 2).trans rfl
            go_upto_region 18 with (fail)
            obtain ⟨ln, hlnE⟩ : ∃ ln, ln = (stI l0 gs n1 i).2.1 + (gapN gn : Int) := ⟨_, rfl⟩
            have HLE := Aside0.mk hlnE
            rw [← hlnE]
            clear hlnE hwr
            obtain ⟨wS, hwS⟩ : ∃ wS, wS = w6.setCell ⟨wr.heap.size, 2, none⟩ (.int .i64 ln) := ⟨_, rfl⟩
            have HGS := Aside0.mk (show wS.heap[wr.heap.size]? = some (.cells #[.int .i64 t.f0, .string t.f1, .int .i64 ln] 46 (0, 0)) by rw [hwS]; exact blk_put HG6.out 2 _ rfl)
            have HKS := Aside0.mk (show Kd.R k46 46 wS w.heap.size (fun k => k ≠ wr.heap.size) u7 _ by rw [hwS]; exact Kd.R_far (p := ⟨wr.heap.size, 2, none⟩) HK6.out (fun _ hk => hk) _)
            have HBS := Aside0.mk (show Bld w wS b _ by
              rw [hwS]
              exact bld_grown (row := some wr.heap.size) HB6.out (fun k hk => by injection hk with hk; subst hk; exact ⟨_, HG6.out⟩) (grown_set _ _ _ _) (below_set HB6.out.2 HB.out.2.size))
            rw [← hwS]
            clear hwS HG6 HK6 HB6 hfz hz2
            have HXL := Aside0.mk (show (((stI l0 gs n1 i).2.2.map mkS).length + 1) * 32 ≤ 140737488355328 by rw [List.length_map, HLN.out.2.2.1]; omega)
            have hz0 : wS.cell? ⟨wr.heap.size, 0, none⟩ = some (.int .i64 t.f0) := (blk_cell HGS.out 0).trans rfl
            have hz1 : wS.cell? ⟨wr.heap.size, 1, none⟩ = some (.string t.f1) := (blk_cell HGS.out 1).trans rfl
            have hz2 : wS.cell? ⟨wr.heap.size, 2, none⟩ = some (.int .i64 ln) := (blk_cell HGS.out 2).trans rfl
            go_wp2_with (first | ((with_reducible refine gate_builtin (b := .append) (xs := #[.tmp 62, .tmp 64]) rfl ?_); (try (refine gate_guard (by rfl) ?_; dsimp only)); at_builtin; refine Kd.R_append k46 (w0 := w) w.heap.size rfl (.tmp 62) (.tmp 64) 36 46 (.agg #[(.int .i64 0), (.string ⟨#[]⟩), (.int .i64 0)]) 32 rfl Try.underlying36 info46 rfl (by decide) (by omega) u7 ((stI l0 gs n1 i).2.2.map mkS) (⟨t.f0, t.f1, ln⟩ : S46) [.int .i64 t.f0, .string t.f1, .int .i64 ln] (fun _ => True) (fun _ => False) rfl (by first | (go_simp; done) | (go_simp; rfl)) ?aP (fun _ hk => hk.elim) (fun _ _ => trivial) ?aO ?aB ?aS HXL.out ?_; (case aP => exact k46_mkM _ _ _ (⟨t.f0, t.f1, ln⟩ : S46)); (case aB => exact HBS.out.2); (case aO => exact Kd.R_mono HKS.out (fun _ _ => trivial)); (case aS => exact HBS.out.2.size); intro v7 w7 ho hb hg hat; have HB7 := Aside0.mk (bld_grown HBS.out (own46 HKS.out) hg hb); have HK7 := Aside0.mk ho; clear ho hb hg hat HBS HKS HGS hz0 hz1 hz2))
            go_roundw
            case rel =>
              have hst := stI_succ l0 gs n1 i hlt
              rw [← Hgn.out, ← Ht.out] at hst
              refine ⟨i + 1, by go_num, by rw [hst, HLE.out]; rfl, ⟨by omega⟩, ⟨by rw [hst]; exact HB7.out⟩, ⟨?_⟩, ⟨?_⟩⟩
              · have e : (stI l0 gs n1 (i + 1)).2.2.map mkS = (stI l0 gs n1 i).2.2.map mkS ++ [(⟨t.f0, t.f1, ln⟩ : S46)] := by
                  rw [hst, HLE.out]
                  simp [spF, mkS, toT]
                rw [e]
                exact HK7.out
              · intro x hx
                rw [List.take_succ_eq_append_getElem hlt, List.mem_append, List.mem_singleton] at hx
                rcases hx with hx | hx
                · exact HALL.out x hx
                · rw [hx, ← Ht.out]; exact Hrt.out
            case measure => simp [intOf]; omega
      · have hd2 : decide ((i : Int) < (l0.length : Int)) = false := decide_eq_false (by omega)
        obtain rfl : i = l0.length := by omega
        have hln := stI_line l0 gs n1 l0.length (Nat.le_refl _)
        have hzl : (zsOf l0 gs n1).length = l0.length := by simp [zsOf]
        have htake : (zsOf l0 gs n1).take l0.length = zsOf l0 gs n1 := List.take_of_length_le (by omega)
        have hall : ∀ z ∈ zsOf l0 gs n1, z.1 < 5 ∧ right z.2.kind z.2.text = true := by
          intro z hz
          obtain ⟨j, hj, rfl⟩ := List.mem_map.1 hz
          have hj' : j < l0.length := List.mem_range.1 hj
          refine ⟨by unfold gi; split <;> omega, ?_⟩
          have := HALL.out l0[j] (by rw [List.take_of_length_le (Nat.le_refl _)]; exact List.getElem_mem hj')
          simp only [List.getD, List.getElem?_eq_getElem hj', Option.getD_some, toT]
          exact this
        have htext : (stI l0 gs n1 l0.length).1 = textS (zsOf l0 gs n1) := by
          unfold stI
          rw [htake, spF_text]; rfl
        have hlex : lex (stI l0 gs n1 l0.length).1 = ((stI l0 gs n1 l0.length).2.2, 0, 0) := by
          have hlen := hln.2.2.2
          have h2 : sumS (l0.take l0.length) = sumS l0 := by rw [List.take_of_length_le (Nat.le_refl _)]
          have := HSUM.out
          unfold lex
          rw [if_neg (by omega)]
          have := lex_spaced (zsOf l0 gs n1) ((stI l0 gs n1 l0.length).1.length + 1) ([], 1, []) hall (by rw [htext]; omega) (by simp [hzl]; omega)
          rw [← htext] at this
          rw [this]
          unfold stI
          rw [htake]
        have hlen2 : (stI l0 gs n1 l0.length).2.2.length = l0.length := hln.2.2.1
        obtain ⟨st, hst⟩ : ∃ st, st = stI l0 gs n1 l0.length := ⟨_, rfl⟩
        rw [← hst] at hlex hlen2 HB HK ⊢
        have HLX := Aside0.mk hlex
        clear hln hzl htake hall htext hlex hst
        go_wp2_with fail
        refine (bld_str w wr b _ HB.out).mono ?_
        rintro e w3 ⟨rfl, hB3, hk3⟩
        have HB3 := Aside0.mk hB3
        have HK3 := Aside0.mk (R_bld HB.out HK.out hk3)
        clear hB3 hk3 HB HK
        go_wp2_with fail
        refine (nTokens.calls ⟨st.1.toArray⟩ (st.2.2.map mkS) 0 0 w3 (by rw [nTokens.f, L_of, HLX.out]; rfl)).mono ?_
        rintro e w4 ⟨v0, rfl, hR, hb4⟩
        have HB4 := Aside0.mk (below_then HB3.out.2 HB3.out.2.size hb4)
        obtain ⟨A_, c_, rfl, hc1_, hC1_⟩ := Kd.R_reads hR
        obtain ⟨A2_, c2_, rfl, hc2_, hC2_⟩ := Kd.R_reads (Kd.R_below HK3.out hb4)
        have HC1 := Aside0.mk hC1_
        have HC2 := Aside0.mk hC2_
        clear hR hb4 hC1_ hC2_ HK3 HB3
        go_wp2_with fail
        have hcall := nEqual.calls A_ c_ (st.2.2.map mkS) A2_ c2_ (st.2.2.map mkS) true w4 HC1.out hc1_ HC2.out hc2_ (by rw [nEqual.f, if_pos (by rw [List.length_map, hlen2]; omega)]; simp)
        rw [List.length_map, hlen2] at hcall
        refine hcall.mono ?_
        clear hcall
        rintro e w5 ⟨rfl, hd5⟩
        have HB5 := Aside0.mk (below_then HB4.out HB4.out.size hd5.below)
        clear hd5
        go_wp2
        go_ret
        exact ⟨rfl, HB5.out⟩
open Go.ChangeShapes Go.WideShapes
theorem cells5 : Try.prog.cellsOf 5 = 1 := by kernel_rfl
theorem bytes5 : Try.prog.bytesOf 5 = 1 := by kernel_rfl
theorem open_u8s {H : Type} {enc : TypeId × Value → H} {W : World} {a : Option Addr} {len cap : Nat} {d : DataW H} {ps : List MemPlace} {ts : List TypeId} {ds : List (DataW H)} {j : Nat}
    (hsz : (DataW.weightsEach Try.prog ts ds).all (· ≤ reachBytes) = true) (ht : ts[j]? = some 29) (hd : ds[j]? = some d)
    (h : DataW.Trod enc Try.prog W 0 (fun _ => true) true 29 (.slice a len cap) d ps) :
    ∃ gs : Nat → Int, (∀ i, i < len → ∃ ad, a = some ad ∧ W.cell? (ad.add i) = some (.int .u8 (gs i)) ∧ 0 ≤ gs i ∧ gs i ≤ 255) ∧ len ≤ 140737488351232 := by
  have hz := sized_ints hsz ht hd Try.underlying29 Try.underlying5 cells5 bytes5 h
  obtain ⟨fuel, hf⟩ := h
  rcases open_ints Try.underlying29 Try.underlying5 cells5 hf with ⟨hcs, _⟩ | ⟨x, l, c, zs, hcs, _, hl, hm, hz2, _, hcell, hwz⟩
  · simp [Value.cells] at hcs
    obtain ⟨rfl, rfl, rfl⟩ := hcs
    exact ⟨fun _ => 0, fun i hi => absurd hi (by omega), by omega⟩
  · simp [Value.cells] at hcs
    obtain ⟨rfl, rfl, rfl⟩ := hcs
    have hlen : zs.length = cap := by simpa using hz2
    have hlz : ∀ i, i < len → i < zs.length := fun i hi => by rw [hlen]; exact Nat.lt_of_lt_of_le hi hl
    have hz3 : len ≤ 140737488351232 := by rw [Nat.mul_one] at hz; exact hz
    refine ⟨fun i => zs.getD i 0, fun i hi => ?_, hz3⟩
    have hw : (Lit.int .u8 (zs.getD i 0)).wf = true := hwz _ (by
      rw [List.getD_eq_getElem?_getD, List.getElem?_eq_getElem (hlz i hi)]
      exact List.getElem_mem _)
    have e3 : IntKind.u8.min = 0 := rfl
    have e4 : IntKind.u8.max = 255 := rfl
    simp only [Lit.wf, Bool.and_eq_true, decide_eq_true_eq] at hw
    have hq : 0 ≤ zs.getD i 0 ∧ zs.getD i 0 ≤ 255 := by omega
    exact ⟨x, rfl, hcell i (hlz i hi), hq.1, hq.2⟩
end Go.Proofs.Ytkjikcmjcdlifaa.P
