/- Written by a program of this place (mk.py: the kit's print, turned). Proved here: each function of this text, called, computes what its plain function of Lean tells, wherever that tells something. -/
import Derived.Test.YtkjikcmjcdlifaaPx0
import Derived.Test.YtkjikcmjcdlifaaPx3
import Derived.Test.YtkjikcmjcdlifaaPx4
namespace Go.Proofs.Ytkjikcmjcdlifaa.P
open Go.RowKit Go.Proofs.YtkjikcmjcdlifaaW.PrintWords Go.Proofs.YtkjikcmjcdlifaaW.PrintLast Go.Proofs.YtkjikcmjcdlifaaW.PrintMore
attribute [local go_sem] max2_int min2_int max_two min_two max_three min_three max_four min_four   -- for this text's walks alone
set_option linter.unusedVariables false
set_option linter.unusedSimpArgs false

/-! ### token_Write: function 18 -/
--§M
/-! ### strings.Builder: the three writing functions, walked at this program (turned out of the shelf's walks of the same functions) -/
theorem bld_size : (Try.prog.info? 31).map (fun i => i.size) = some 2 := by kernel_rfl
theorem bld_lies : liesAt Try.prog Try.prog.depth 31 (2 / Try.prog.cellsOf 31) 0 31 1 = true := by kernel_rfl
theorem bld_info : (Try.prog.info? 5).map (fun i => (i.zero, i.size, i.bytes)) = some (some (.int .u8 0), 1, 1) := by kernel_rfl
set_option maxHeartbeats 1000000 in
set_option maxRecDepth 100000 in
theorem copyCheck_used (b : Nat) (w : World) (h0 : w.cell? ⟨b, 0, none⟩ = some (.pointer (some ⟨b, 0, none⟩))) :
    Calls Try.prog 30 #[.pointer (some ⟨b, 0, none⟩)] w fun e w' => e = .returned (.tuple #[]) ∧ w' = w := by
  obtain ⟨j, hj, _⟩ := Option.map_eq_some_iff.1 bld_size
  go_enter Try.func30, Try.ntmps30
  go_wp2
  rw [Lib.run_neq_ptr_same w _ Try.underlying28 hj]
  go_wp2
  go_end0
  exact ⟨rfl, rfl⟩
set_option maxHeartbeats 1000000 in
set_option maxRecDepth 100000 in
theorem copyCheck_fresh (b : Nat) (w : World) (h0 : w.cell? ⟨b, 0, none⟩ = some (.pointer none)) (hsh : w.shape? b = some (31, 2)) (hfz : w.frozen? ⟨b, 0, none⟩ = false) :
    Calls Try.prog 30 #[.pointer (some ⟨b, 0, none⟩)] w fun e w' => e = .returned (.tuple #[]) ∧ w' = w.setCell ⟨b, 0, none⟩ (.pointer (some ⟨b, 0, none⟩)) := by
  obtain ⟨j, hj, hjs⟩ := Option.map_eq_some_iff.1 bld_size
  go_enter Try.func30, Try.ntmps30
  go_wp2
  rw [Lib.run_to_unsafe w ⟨b, 0, none⟩ Try.underlying28 Try.underlying68 hj (by rw [hjs]; decide) hsh (Nat.zero_lt_succ 1)]
  simp only [Result.andThen]
  rw [Oper.upon_value]
  go_wp2
  rw [run_callFunc_extern Try.func44 (by kernel_rfl) (by kernel_rfl) (by kernel_rfl) (e := Extern.AbiNoEscape.same) (by kernel_rfl)]
  rw [Lib.run_noEscape]
  simp only [Result.andThen]
  rw [Oper.upon_value]
  go_wp2
  rw [Lib.run_from_unsafe w ⟨b, 0, none⟩ Try.underlying68 Try.underlying28 hj hsh bld_lies]
  simp only [Result.andThen]
  rw [Oper.upon_value]
  go_wp2
  go_end0
  exact ⟨rfl, rfl⟩
theorem copyCheck_k (B b : Nat) (bs : List Value) (w : World) (h : Lib.IsBuilderF 31 5 B b bs w) :
    Calls Try.prog 30 #[.pointer (some ⟨b, 0, none⟩)] w fun e w' => e = .returned (.tuple #[]) ∧ (Lib.BuilderAtF 31 5 B b (.pointer (some ⟨b, 0, none⟩)) bs w' ∧ Below B w w' ∧ Lib.OthersKept 5 (some b) w w') := by
  rcases h with h | h
  · refine (copyCheck_fresh b w h.cell0 h.shape h.frozen0).mono ?_
    rintro e w' ⟨rfl, rfl⟩
    exact ⟨rfl, h.used _, (Below.refl B w).setCell (p := ⟨b, 0, none⟩) h.1 _, (Lib.OthersKept.refl _ _ w).setCell ⟨b, 0, none⟩ rfl _⟩
  · refine (copyCheck_used b w h.cell0).mono ?_
    rintro e w' ⟨rfl, rfl⟩
    exact ⟨rfl, h, Below.refl B _, Lib.OthersKept.refl _ _ _⟩
set_option maxHeartbeats 2000000 in
set_option maxRecDepth 100000 in
theorem writeByte_k (B b : Nat) (bs : List Value) (c : Int) (w : World) (h : Lib.IsBuilderF 31 5 B b bs w) (hlen : bs.length + 1 ≤ 140737488355328) (hBw : B ≤ w.heap.size) :
    Calls Try.prog 34 #[.pointer (some ⟨b, 0, none⟩), .int .u8 c] w fun e w' => e = .returned .nilIface ∧ (Lib.BuilderAtF 31 5 B b (.pointer (some ⟨b, 0, none⟩)) (bs ++ [.int .u8 c]) w' ∧ Below B w w' ∧ Lib.OthersKept 5 (some b) w w') := by
  obtain ⟨i0, hi, hz0, hz1, hz2⟩ := info_parts bld_info
  go_enter Try.func34, Try.ntmps34
  go_wp2_with (go_at_call 30; refine (copyCheck_k B b bs _ h).mono ?_)
  rintro e w1 ⟨rfl, h1, hb1, hk1⟩
  obtain ⟨hB, v, hbk, hown, hne⟩ := h1
  have c0 : w1.cell? ⟨b, 0, none⟩ = some (.pointer (some ⟨b, 0, none⟩)) := by rw [Lib.cell_of_heap hbk]; rfl
  have c1 : w1.cell? ⟨b, 1, none⟩ = some v := by rw [Lib.cell_of_heap hbk]; rfl
  go_wp2_with (at_builtin; refine wpList_append_ownF _ rfl _ _ 29 rfl B 5 i0 (.int .u8 0) 1 1 Try.underlying29 hi hz0 hz1 hz2 rfl (by decide) _ _ _ rfl (hown.alloc _) ⟨w1.heap.size, 0, none⟩ 1 1 [.int .u8 c] rfl rfl ?c1 ?c2 ?c3 ?c4 ?c5 ?_)
  case c1 =>
    intro j u hj
    match j, hj with
    | 0, hj => simp at hj; subst hj; simp [Addr.add]
  case c2 => intro u hu; simp at hu; subst hu; rfl
  case c3 => unfold maxLen; omega
  case c4 => omega
  case c5 => have := hb1.size; simp; omega
  intro v' w2 hown' hgrow _
  have hlt : b < w1.heap.size := by
    rcases Nat.lt_or_ge b w1.heap.size with h' | h'
    · exact h'
    · simp [Array.getElem?_eq_none h'] at hbk
  have hb2 : w2.heap[b]? = some (.cells #[.pointer (some ⟨b, 0, none⟩), v] 31 (0, 0)) := by
    rw [hgrow.block b (by simp; omega) (fun e => hne e.symm), Lib.alloc_old w1 _ b hlt]
    exact hbk
  have d0 : w2.cell? ⟨b, 0, none⟩ = some (.pointer (some ⟨b, 0, none⟩)) := by rw [Lib.cell_of_heap hb2]; rfl
  have d1 : w2.cell? ⟨b, 1, none⟩ = some v := by rw [Lib.cell_of_heap hb2]; rfl
  have f1 : w2.frozen? ⟨b, 1, none⟩ = false := Lib.frozen_of_heap hb2 1
  obtain ⟨g, cap, rfl⟩ : ∃ g cap, v' = .slice (some ⟨g, 0, none⟩) (bs.length + 1) cap := by
    rcases hown'.2 with ⟨_, h0⟩ | ⟨g, cap, cur, fz, hv, _⟩
    · omega
    · exact ⟨g, cap, hv⟩
  go_wp2
  go_ret
  refine ⟨rfl, ?_, ?_, ((hk1.alloc _).grown hgrow (Lib.ownsRowF_kind (hown.alloc _))).setCell ⟨b, 1, none⟩ rfl _⟩
  · exact Lib.BuilderAtF.put (T := 31) (e := 5) hB hb2 (bs' := bs ++ [.int .u8 c]) (by simpa using hown') (by decide)
  · exact ((hb1.alloc (by have := hb1.size; omega) _).grown hgrow (by have := hb1.size; simp; omega) (fun k hk => (hown.lt k hk).1)).setCell (p := ⟨b, 1, none⟩) hB _
set_option maxHeartbeats 2000000 in
set_option maxRecDepth 100000 in
theorem writeString_k (B b : Nat) (bs : List Value) (s : ByteArray) (w : World) (h : Lib.IsBuilderF 31 5 B b bs w) (hlen : bs.length + s.size ≤ 140737488355328) (hBw : B ≤ w.heap.size) :
    Calls Try.prog 14 #[.pointer (some ⟨b, 0, none⟩), .string s] w fun e w' => e = .returned (.tuple #[.int .i64 s.size, .nilIface]) ∧ (Lib.BuilderAtF 31 5 B b (.pointer (some ⟨b, 0, none⟩)) (bs ++ Lib.strCells s) w' ∧ Below B w w' ∧ Lib.OthersKept 5 (some b) w w') := by
  obtain ⟨i0, hi, hz0, hz1, hz2⟩ := info_parts bld_info
  go_enter Try.func14, Try.ntmps14
  go_wp2_with (go_at_call 30; refine (copyCheck_k B b bs _ h).mono ?_)
  rintro e w1 ⟨rfl, h1, hb1, hk1⟩
  obtain ⟨hB, v, hbk, hown, hne⟩ := h1
  have c0 : w1.cell? ⟨b, 0, none⟩ = some (.pointer (some ⟨b, 0, none⟩)) := by rw [Lib.cell_of_heap hbk]; rfl
  have c1 : w1.cell? ⟨b, 1, none⟩ = some v := by rw [Lib.cell_of_heap hbk]; rfl
  go_wp2_with (at_builtin; refine Lib.wpList_append_own_stringF _ rfl _ _ 29 9 rfl B 5 i0 Try.underlying29 Try.underlying9 hi hz0 hz1 hz2 _ _ _ rfl hown s rfl ?c3 ?c4 ?c5 ?_)
  case c3 => unfold maxLen; omega
  case c4 => omega
  case c5 => have := hb1.size; omega
  intro v' w2 hown' hgrow _
  have hlt : b < w1.heap.size := by
    rcases Nat.lt_or_ge b w1.heap.size with h' | h'
    · exact h'
    · simp [Array.getElem?_eq_none h'] at hbk
  have hb2 : w2.heap[b]? = some (.cells #[.pointer (some ⟨b, 0, none⟩), v] 31 (0, 0)) := by
    rw [hgrow.block b hlt (fun e => hne e.symm)]
    exact hbk
  have d0 : w2.cell? ⟨b, 0, none⟩ = some (.pointer (some ⟨b, 0, none⟩)) := by rw [Lib.cell_of_heap hb2]; rfl
  have d1 : w2.cell? ⟨b, 1, none⟩ = some v := by rw [Lib.cell_of_heap hb2]; rfl
  have f1 : w2.frozen? ⟨b, 1, none⟩ = false := Lib.frozen_of_heap hb2 1
  obtain ⟨ao, n', cap, rfl⟩ : ∃ ao n' cap, v' = .slice ao n' cap := by
    rcases hown'.2 with ⟨hv, _⟩ | ⟨g, cap, cur, fz, hv, _⟩
    · exact ⟨_, _, _, hv⟩
    · exact ⟨_, _, _, hv⟩
  go_wp2
  go_ret2
  refine ⟨rfl, ?_, ?_, (hk1.grown hgrow (Lib.ownsRowF_kind hown)).setCell ⟨b, 1, none⟩ rfl _⟩
  · exact Lib.BuilderAtF.put (T := 31) (e := 5) hB hb2 (bs' := bs ++ Lib.strCells s) (by simpa [Lib.strCells_length] using hown') (by decide)
  · exact (hb1.grown hgrow (by have := hb1.size; omega) (fun k hk => (hown.lt k hk).1)).setCell (p := ⟨b, 1, none⟩) hB _
/-! ### a builder of the call's own, over the world w0 in which the call began -/
def Bld (w0 w : World) (b : Nat) (l : List UInt8) : Prop := Lib.IsBuilderF 31 5 w0.heap.size b (Lib.byteCells l) w ∧ Below w0.heap.size w0 w
theorem bldAt_grown {B b : Nat} {p : Value} {bs : List Value} {w w1 : World} (h : Lib.BuilderAtF 31 5 B b p bs w) (hb : Below w.heap.size w w1) : Lib.BuilderAtF 31 5 B b p bs w1 := by
  have hlt := h.lt
  obtain ⟨hB, v, hbk, hown, hne⟩ := h
  exact ⟨hB, v, (hb.block b hlt).trans hbk, hown.kept (grown_of_below hb none) (by cases v.ownBlock <;> simp), hne⟩
theorem bld_below {w0 w w1 : World} {b : Nat} {l : List UInt8} (h : Bld w0 w b l) (hb : Below w.heap.size w w1) : Bld w0 w1 b l :=
  ⟨h.1.imp (fun z => bldAt_grown z hb) (fun z => bldAt_grown z hb), below_then h.2 h.2.size hb⟩
theorem bld_lt {w0 w : World} {b : Nat} {l : List UInt8} (h : Bld w0 w b l) : b < w.heap.size := by
  rcases h.1 with z | z
  · exact z.lt
  · exact z.lt
theorem bld_base {w0 w : World} {b : Nat} {l : List UInt8} (h : Bld w0 w b l) : w0.heap.size ≤ b := by
  rcases h.1 with z | z
  · exact z.1
  · exact z.1
theorem bld_new {w0 w : World} (hb : Below w0.heap.size w0 w) : Bld w0 (w.alloc (.cells #[.pointer none, .slice none 0 0] 31)) w.heap.size [] :=
  ⟨.inl ⟨hb.size, .slice none 0 0, heap_alloc_new w _, World.ownsRowF_nil _ _ _ _, by simp [Value.ownBlock]⟩, below_then hb hb.size (below_alloc (Below.refl _ _) _)⟩
theorem bld_ws (w0 w : World) (b : Nat) (l : List UInt8) (s : ByteArray) (h : Bld w0 w b l) (hlen : l.length + s.size ≤ 140737488355328) :
    Calls Try.prog 14 #[.pointer (some ⟨b, 0, none⟩), .string s] w fun e w' => e = .returned (.tuple #[.int .i64 s.size, .nilIface]) ∧ Bld w0 w' b (l ++ L s) ∧ Lib.OthersKept 5 (some b) w w' := by
  refine (writeString_k w0.heap.size b (Lib.byteCells l) s w h.1 (by rw [Lib.byteCells_length]; exact hlen) h.2.size).mono ?_
  rintro e w' ⟨rfl, h1, h2, h3⟩
  refine ⟨rfl, ⟨.inr ?_, h.2.trans h2⟩, h3⟩
  rw [Lib.byteCells_append, ← Lib.strCells_eq]
  exact h1
theorem bld_wb (w0 w : World) (b : Nat) (l : List UInt8) (c : UInt8) (h : Bld w0 w b l) (hlen : l.length + 1 ≤ 140737488355328) :
    Calls Try.prog 34 #[.pointer (some ⟨b, 0, none⟩), .int .u8 (c.toNat : Int)] w fun e w' => e = .returned .nilIface ∧ Bld w0 w' b (l ++ [c]) ∧ Lib.OthersKept 5 (some b) w w' := by
  refine (writeByte_k w0.heap.size b (Lib.byteCells l) (c.toNat : Int) w h.1 (by rw [Lib.byteCells_length]; exact hlen) h.2.size).mono ?_
  rintro e w' ⟨rfl, h1, h2, h3⟩
  refine ⟨rfl, ⟨.inr ?_, h.2.trans h2⟩, h3⟩
  rw [Lib.byteCells_append]
  exact h1
theorem bld_len (w0 w : World) (b : Nat) (l : List UInt8) (h : Bld w0 w b l) :
    Calls Try.prog 35 #[.pointer (some ⟨b, 0, none⟩)] w fun e w' => e = .returned (.int .i64 (l.length : Nat)) ∧ w = w' := by
  refine (Try.Builder_Len_f w0.heap.size b (Lib.byteCells l) w h.1).mono ?_
  rintro e w' ⟨rfl, rfl⟩
  exact ⟨by rw [Lib.byteCells_length], rfl⟩
theorem bld_str (w0 w : World) (b : Nat) (l : List UInt8) (h : Bld w0 w b l) :
    Calls Try.prog 16 #[.pointer (some ⟨b, 0, none⟩)] w fun e w' => e = .returned (.string ⟨l.toArray⟩) ∧ Bld w0 w' b l ∧ Lib.OthersKept 5 (some b) w w' := by
  refine (Try.Builder_String_any_k w0.heap.size b l w h.1 h.2.size).mono ?_
  rintro e w' ⟨rfl, h1, h2, h3⟩
  exact ⟨rfl, ⟨h1, h.2.trans h2⟩, h3⟩
theorem bld_w32 (w0 w : World) (b : Nat) (l : List UInt8) (h : Bld w0 w b l) (hlen : l.length + 1 ≤ 140737488355328) :
    Calls Try.prog 34 #[.pointer (some ⟨b, 0, none⟩), .int .u8 32] w fun e w' => e = .returned .nilIface ∧ Bld w0 w' b (l ++ [32]) ∧ Lib.OthersKept 5 (some b) w w' := bld_wb w0 w b l 32 h hlen
theorem bld_w10 (w0 w : World) (b : Nat) (l : List UInt8) (h : Bld w0 w b l) (hlen : l.length + 1 ≤ 140737488355328) :
    Calls Try.prog 34 #[.pointer (some ⟨b, 0, none⟩), .int .u8 10] w fun e w' => e = .returned .nilIface ∧ Bld w0 w' b (l ++ [10]) ∧ Lib.OthersKept 5 (some b) w w' := bld_wb w0 w b l 10 h hlen
--§P
theorem rdT_at (xs : List S46) (i : Nat) (h : i < xs.length) : rd_T46 xs (i : Int) = xs[i] := by
  simp [rd_T46, List.getD_eq_getElem?_getD, List.getElem?_eq_getElem h]
open Sj in
theorem right_len {k : Int} {l : List UInt8} (h : right k l = true) : (quo k l).length ≤ 62 := by
  unfold right at h
  simp only [Bool.and_eq_true, decide_eq_true_eq] at h
  obtain ⟨h0, h1⟩ := h
  generalize quo k l = q at h0 h1
  cases q with
  | nil => exact absurd rfl h0
  | cons c t =>
    unfold nxt at h1
    simp only at h1
    split at h1
    · split at h1
      · simp at h1
      · simp only [Prod.mk.injEq] at h1; omega
    · split at h1
      · split at h1
        · simp at h1
        · simp only [Prod.mk.injEq] at h1; omega
      · split at h1
        · split at h1
          · split at h1
            · simp at h1
            · simp only [Prod.mk.injEq] at h1; omega
          · simp only [Prod.mk.injEq] at h1; omega
        · split at h1
          · simp only [Prod.mk.injEq] at h1; omega
          · split at h1
            · simp only [Prod.mk.injEq] at h1; omega
            · simp at h1
/-- A token of the program, as the plain law has it. -/
def toT (x : S46) : Sj.Tok := ⟨x.f0, L x.f1, x.f2⟩
open Sj in
def writeS (l : List S46) : ByteArray × Int := (⟨(writeT (l.map toT)).1.toArray⟩, (writeT (l.map toT)).2)
/-- What stands behind the first i tokens. -/
def restT (l : List Sj.Tok) : Nat → List UInt8
  | 0 => Sj.joinA l
  | i + 1 => match l[i]? with
    | some t => Sj.joinT (l.drop (i + 1)) t.line
    | none => []
open Sj in
theorem restT_end (l : List Tok) : restT l l.length = [] := by
  cases h : l.length with
  | zero => rw [List.eq_nil_of_length_eq_zero h]; rfl
  | succ n =>
    have : n < l.length := by omega
    simp only [restT, List.getElem?_eq_getElem this]
    rw [List.drop_of_length_le (by omega)]; rfl
open Sj in
theorem restT_zero (l : List Tok) (h : 0 < l.length) : restT l 0 = quo l[0].kind l[0].text ++ restT l 1 := by
  cases l with
  | nil => simp at h
  | cons t r => simp [restT, joinA]
open Sj in
theorem restT_succ (l : List Tok) (i : Nat) (h : i + 1 < l.length) : restT l (i + 1) = (if l[i].line ≠ l[i + 1].line then 10 else 32) :: (quo l[i + 1].kind l[i + 1].text ++ restT l (i + 2)) := by
  have h1 : i < l.length := by omega
  simp only [restT, List.getElem?_eq_getElem h1, List.getElem?_eq_getElem h]
  rw [List.drop_eq_getElem_cons h, joinT]
--§M
theorem at_natT {w : World} {A : Option Addr} {xs : List S46} (h : Kd.C k46 w A xs.length xs) (i : Nat) (hi : i < xs.length) : ∃ ad, A = some ad ∧ w.cell? (ad.add (i * 3)) = some (.int .i64 xs[i].f0) ∧ w.cell? ⟨(ad.add (i * 3)).block, (ad.add (i * 3)).off + 1, none⟩ = some (.string xs[i].f1) ∧ w.cell? ⟨(ad.add (i * 3)).block, (ad.add (i * 3)).off + 2, none⟩ = some (.int .i64 xs[i].f2) := by
  obtain ⟨ad, e, h0, h1, h2⟩ := at_T46 h (i : Int) (by omega) (by omega)
  rw [rdT_at xs i hi] at h0 h1 h2
  exact ⟨ad, e, h0, h1, h2⟩
theorem bcell {W w1 : World} (hb : Below W.heap.size W w1) : (∀ b o, b < W.heap.size → w1.cell? ⟨b, o, none⟩ = W.cell? ⟨b, o, none⟩) ∧ (∀ b o, b < W.heap.size → w1.frozen? ⟨b, o, none⟩ = W.frozen? ⟨b, o, none⟩) :=
  ⟨fun b o h => hb.cell (p := ⟨b, o, none⟩) h, fun b o h => hb.frozen (p := ⟨b, o, none⟩) h⟩
open Sj in
set_option maxHeartbeats 4000000 in
set_option maxRecDepth 100000 in
theorem nWrite_few (A0 : Option Addr) (c0 : Nat) (l0 : List S46) (w : World) (r1 : ByteArray) (r2 : Int) (hr0 : Kd.C k46 w A0 l0.length l0) (hc0 : l0.length ≤ c0) (hle : ¬ 4000 < l0.length) (ho : ∀ t ∈ l0, okT t.f1) (hres : writeS l0 = (r1, r2)) :
    Calls Try.prog 18 #[.slice A0 l0.length c0] w fun e w' => e = .returned (.tuple #[.string r1, .int .i64 r2]) ∧ Below w.heap.size w w' := by
  have HRES := Aside0.mk hres
  clear hres
  have hd : decide (4000 < l0.length) = false := decide_eq_false hle
  have HR := Aside0.mk hr0
  have HO := Aside0.mk ho
  clear hr0 ho
  go_enter Try.func18, Try.ntmps18
  go_wp2
  have HB0 := Aside0.mk (bld_new (Below.refl w.heap.size w))
  obtain ⟨b, hbb⟩ : ∃ b, b = w.heap.size := ⟨_, rfl⟩
  obtain ⟨wn, hwn⟩ : ∃ wn, wn = w.alloc (Obj.cells #[Value.pointer none, Value.slice none 0 0] 31) := ⟨_, rfl⟩
  rw [← hwn, ← hbb] at HB0 ⊢
  clear hbb hwn
  go_loopw [15] (fun v w' => ∃ (i : Nat) (q : List UInt8), v = .int .i64 i ∧ Aside0 (i ≤ l0.length) ∧ Aside0 (Bld w w' b q) ∧ Aside0 (q ++ restT (l0.map toT) i = joinA (l0.map toT)) ∧ Aside0 (q.length ≤ i * 63) ∧ Aside0 (∀ t ∈ l0.take i, right t.f0 (L t.f1) = true)) (fun v _ => l0.length - (intOf v).toNat)
  case atStart => exact ⟨0, [], rfl, ⟨Nat.zero_le _⟩, HB0, ⟨rfl⟩, ⟨by simp⟩, ⟨by simp⟩⟩
  case round =>
    obtain ⟨i, q, rfl, Hi, HB, HJ, HQ, HALL⟩ := hrel
    have hile := Hi.out
    by_cases hlt : i < l0.length
    · have hd2 : decide ((i : Int) < (l0.length : Int)) = true := decide_eq_true (by omega)
      obtain ⟨ad, e, h0, h1, h2⟩ := at_natT HR.out i hlt
      cases e
      have hw := HB.out.2
      replace h0 := (hw.cell (World.block_lt_of_cell? w _ h0)).trans h0
      replace h1 := (hw.cell (World.block_lt_of_cell? w _ h1)).trans h1
      replace h2 := (hw.cell (World.block_lt_of_cell? w _ h2)).trans h2
      clear hw
      obtain ⟨t, ht⟩ : ∃ t, t = l0[i] := ⟨_, rfl⟩
      have Ht := Aside0.mk ht
      rw [← ht] at h0 h1 h2
      clear ht
      have hot := HO.out t (by rw [Ht.out]; exact List.getElem_mem hlt)
      have hwc : nwhole.f t.f0 t.f1 t.f2 = some (⟨(quo t.f0 (L t.f1)).toArray⟩, right t.f0 (L t.f1)) := by unfold nwhole.f; rw [if_pos hot]
      clear hot
      obtain ⟨rt, hrt⟩ : ∃ rt, rt = right t.f0 (L t.f1) := ⟨_, rfl⟩
      obtain ⟨qt, hqt⟩ : ∃ qt, qt = quo t.f0 (L t.f1) := ⟨_, rfl⟩
      rw [← hrt, ← hqt] at hwc
      have HWC := Aside0.mk hwc
      have Hrt := Aside0.mk hrt
      have Hqt := Aside0.mk hqt
      clear hwc hrt hqt
      go_wp2_with fail
      refine (nwhole.calls t.f0 t.f1 t.f2 ⟨qt.toArray⟩ rt _ HWC.out).mono ?_
      rintro e w1 ⟨rfl, hb1⟩
      obtain ⟨hc1, hf1⟩ := bcell hb1
      have hz2 : w1.cell? ⟨wr.heap.size, 2, none⟩ = some (.int .i64 t.f2) := (hc1 _ 2 (by simp)).trans (by simp)
      have hsz : wr.heap.size + 1 ≤ w1.heap.size := by have := hb1.size; simpa using this
      have HB1 := Aside0.mk (bld_below HB.out (below_then (below_alloc (Below.refl _ _) _) (by simp) hb1))
      have HBW := Aside0.mk (below_then (below_alloc (Below.refl wr.heap.size wr) (Obj.cells #[Value.int IntKind.i64 t.f0, Value.string t.f1, Value.int IntKind.i64 t.f2] 46)) (by simp) hb1)
      clear hb1 hc1 hf1 h0 h1 h2
      cases rt with
      | false =>
        have hfin : r1 = (⟨#[]⟩ : ByteArray) ∧ r2 = 1 := by
          have h1 := HRES.out
          have hnr : ¬ (l0.map toT).all (fun t => right t.kind t.text) = true := by
            intro h
            rw [List.all_map] at h
            have := (List.all_eq_true.1 h) l0[i] (List.getElem_mem hlt)
            rw [← Ht.out] at this
            have h2 := Hrt.out
            simp only [Function.comp, toT] at this
            rw [this] at h2
            cases h2
          unfold writeS writeT at h1
          rw [List.length_map, if_neg hle, if_neg hnr] at h1
          simp only [Prod.mk.injEq] at h1
          exact ⟨h1.1.symm, h1.2.symm⟩
        have HF := Aside0.mk hfin
        clear hfin
        go_wp2
        go_ret2
        exact ⟨by rw [HF.out.1, HF.out.2]; rfl, HB1.out.2⟩
      | true =>
        have Hqz := Aside0.mk (show q.length + qt.length ≤ 140737488355000 by
          have h1 := HQ.out; have h2 := right_len (Hrt.out).symm; rw [← Hqt.out] at h2; have : i * 63 ≤ 4000 * 63 := Nat.mul_le_mul_right _ (by omega); omega)
        have HALL1 := Aside0.mk (show ∀ x ∈ l0.take (i + 1), right x.f0 (L x.f1) = true by
          intro x hx
          rw [List.take_succ_eq_append_getElem hlt, List.mem_append, List.mem_singleton] at hx
          rcases hx with hx | hx
          · exact HALL.out x hx
          · rw [hx, ← Ht.out]; exact (Hrt.out).symm)
        have hqs : (⟨qt.toArray⟩ : ByteArray).size = qt.length := by rw [← L_len]
        cases i with
        | zero =>
          have hq0 : ((0 : Int) == 0) = true := rfl
          go_wp2_with fail
          refine (bld_ws w w1 b q ⟨qt.toArray⟩ HB1.out (by rw [hqs]; have := Hqz.out; omega)).mono ?_
          rintro e w2 ⟨rfl, hB2, hk2⟩
          have HB2 := Aside0.mk hB2
          clear hB2 hk2
          go_wp2
          go_roundw
          case rel => exact ⟨1, q ++ qt, rfl, ⟨by omega⟩, HB2, ⟨by rw [List.append_assoc, ← HJ.out, restT_zero _ (by simpa using hlt)]; congr 1; rw [Hqt.out, Ht.out]; simp [toT]⟩, ⟨by have := HQ.out; have h2 := right_len (Hrt.out).symm; rw [← Hqt.out] at h2; rw [List.length_append]; omega⟩, HALL1⟩
          case measure => simp [intOf]; omega
        | succ j =>
          have hlj : j < l0.length := by omega
          have hj0 : ((((j + 1 : Nat) : Int)) == 0) = false := by rw [beq_eq_false_iff_ne]; omega
          have hj0' : (((j : Nat) : Int) + 1 == 0) = false := by rw [beq_eq_false_iff_ne]; omega
          obtain ⟨ad2, e2, g0, g1, g2⟩ := at_natT HR.out j hlj
          cases e2
          have hw := HB1.out.2
          replace g2 := (hw.cell (World.block_lt_of_cell? w _ g2)).trans g2
          clear hw g0 g1
          obtain ⟨tj, htj⟩ : ∃ tj, tj = l0[j] := ⟨_, rfl⟩
          have Htj := Aside0.mk htj
          rw [← htj] at g2
          clear htj
          by_cases hln : tj.f2 = t.f2
          · have hb0 : (tj.f2 != t.f2) = false := by simp [hln]
            have hb1 : (tj.f2 == t.f2) = true := by simp [hln]
            have Hln := Aside0.mk hln
            clear hln
            have hj1 : (j : Int) < (l0.length : Int) := by omega
            have hj2 : (0 : Int) ≤ (j : Int) := by omega
            go_wp2_with fail
            have hwj : IntKind.i64.wrap ((j : Int) + 1 - 1) = (j : Int) := by rw [show ((j : Int) + 1 - 1) = (j : Int) by omega]; exact IntWalk.i64_in _ (by omega)
            have HWJ := Aside0.mk hwj
            go_quiet (fail)
            go_wp2_with fail
            refine (bld_w32 w _ b q (bld_below HB1.out (pw_below_drewN (Below.refl _ _) _)) (by have := Hqz.out; omega)).mono ?_
            rintro e w2 ⟨rfl, hB2, hk2⟩
            have HB2 := Aside0.mk hB2
            clear hB2 hk2
            go_wp2_with fail
            refine (bld_ws w w2 b (q ++ [32]) ⟨qt.toArray⟩ HB2.out (by rw [hqs, List.length_append]; simp only [List.length_cons, List.length_nil]; have := Hqz.out; omega)).mono ?_
            rintro e w3 ⟨rfl, hB3, hk3⟩
            have HB3 := Aside0.mk hB3
            clear hB3 hk3
            go_wp2
            go_roundw
            case rel => exact ⟨j + 1 + 1, (q ++ [32]) ++ qt, by go_num, ⟨by omega⟩, HB3, ⟨by
              rw [← HJ.out, restT_succ _ j (by simpa using hlt), List.append_assoc, List.append_assoc]
              congr 1
              have e1 : (l0.map toT)[j]'(by simpa using hlj) = toT l0[j] := by simp
              have e2 : (l0.map toT)[j + 1]'(by simpa using hlt) = toT l0[j + 1] := by simp
              rw [e1, e2, ← Htj.out, ← Ht.out, Hqt.out]
              have := Hln.out
              simp [toT, this]⟩, ⟨by have := HQ.out; have h2 := right_len (Hrt.out).symm; rw [← Hqt.out] at h2; rw [List.length_append, List.length_append]; simp only [List.length_cons, List.length_nil]; omega⟩, HALL1⟩
            case measure => simp [intOf]; omega
          · have hb0 : (tj.f2 != t.f2) = true := by simp [hln]
            have hb1 : (tj.f2 == t.f2) = false := by simp [hln]
            have Hln := Aside0.mk hln
            clear hln
            have hj1 : (j : Int) < (l0.length : Int) := by omega
            have hj2 : (0 : Int) ≤ (j : Int) := by omega
            go_wp2_with fail
            have hwj : IntKind.i64.wrap ((j : Int) + 1 - 1) = (j : Int) := by rw [show ((j : Int) + 1 - 1) = (j : Int) by omega]; exact IntWalk.i64_in _ (by omega)
            have HWJ := Aside0.mk hwj
            go_quiet (fail)
            go_wp2_with fail
            refine (bld_w10 w _ b q (bld_below HB1.out (pw_below_drewN (Below.refl _ _) _)) (by have := Hqz.out; omega)).mono ?_
            rintro e w2 ⟨rfl, hB2, hk2⟩
            have HB2 := Aside0.mk hB2
            clear hB2 hk2
            go_wp2_with fail
            refine (bld_ws w w2 b (q ++ [10]) ⟨qt.toArray⟩ HB2.out (by rw [hqs, List.length_append]; simp only [List.length_cons, List.length_nil]; have := Hqz.out; omega)).mono ?_
            rintro e w3 ⟨rfl, hB3, hk3⟩
            have HB3 := Aside0.mk hB3
            clear hB3 hk3
            go_wp2
            go_roundw
            case rel => exact ⟨j + 1 + 1, (q ++ [10]) ++ qt, by go_num, ⟨by omega⟩, HB3, ⟨by
              rw [← HJ.out, restT_succ _ j (by simpa using hlt), List.append_assoc, List.append_assoc]
              congr 1
              have e1 : (l0.map toT)[j]'(by simpa using hlj) = toT l0[j] := by simp
              have e2 : (l0.map toT)[j + 1]'(by simpa using hlt) = toT l0[j + 1] := by simp
              rw [e1, e2, ← Htj.out, ← Ht.out, Hqt.out]
              have := Hln.out
              simp [toT, this]⟩, ⟨by have := HQ.out; have h2 := right_len (Hrt.out).symm; rw [← Hqt.out] at h2; rw [List.length_append, List.length_append]; simp only [List.length_cons, List.length_nil]; omega⟩, HALL1⟩
            case measure => simp [intOf]; omega
    · have hd2 : decide ((i : Int) < (l0.length : Int)) = false := decide_eq_false (by omega)
      have hjq : joinA (l0.map toT) = q := by
        have := HJ.out
        rw [show i = (l0.map toT).length by simp; omega, restT_end, List.append_nil] at this
        exact this.symm
      have hall : (l0.map toT).all (fun t => right t.kind t.text) = true := by
        rw [List.all_map, List.all_eq_true]
        intro x hx
        have := HALL.out
        rw [List.take_of_length_le (by omega)] at this
        exact this x hx
      have hres : (if 20000 < q.length then ((⟨#[]⟩ : ByteArray), (3 : Int)) else (⟨q.toArray⟩, 0)) = (r1, r2) := by
        rw [← HRES.out]
        unfold writeS writeT
        rw [List.length_map, if_neg hle, if_pos hall, hjq]
        by_cases h2 : 20000 < q.length
        · rw [if_pos h2, if_pos h2]
        · rw [if_neg h2, if_neg h2]
      have HRES2 := Aside0.mk hres
      clear hall hjq hres
      go_wp2_with fail
      refine (bld_len w wr b q HB.out).mono ?_
      rintro e w2 ⟨rfl, rfl⟩
      by_cases h2 : 20000 < q.length
      · have hq2 : (decide ((20000 : Int) < (q.length : Int))) = true := decide_eq_true (by omega)
        go_wp2
        go_ret2
        have := HRES2.out
        rw [if_pos h2] at this
        simp only [Prod.mk.injEq] at this
        exact ⟨by rw [← this.1, ← this.2]; rfl, HB.out.2⟩
      · have hq2 : (decide ((20000 : Int) < (q.length : Int))) = false := decide_eq_false (by omega)
        go_wp2_with fail
        refine (bld_str w wr b q HB.out).mono ?_
        rintro e w3 ⟨rfl, hB3, _⟩
        have HB3 := Aside0.mk hB3
        clear hB3
        go_wp2
        go_ret2
        have := HRES2.out
        rw [if_neg h2] at this
        simp only [Prod.mk.injEq] at this
        exact ⟨by rw [← this.1, ← this.2]; rfl, HB3.out.2⟩
set_option maxHeartbeats 1000000 in
theorem nWrite_many (A0 : Option Addr) (c0 : Nat) (l0 : List S46) (w : World) (hle : 4000 < l0.length) :
    Calls Try.prog 18 #[.slice A0 l0.length c0] w fun e w' => e = .returned (.tuple #[.string ⟨#[]⟩, .int .i64 3]) ∧ Below w.heap.size w w' := by
  have hd : decide (4000 < l0.length) = true := decide_eq_true hle
  go_enter Try.func18, Try.ntmps18
  go_wp2
  go_ret2
  exact ⟨rfl, Below.refl _ _⟩
--§P
def nWrite.f (l0 : List S46) : Option (ByteArray × Int) := if l0.length ≤ 4000 → ∀ t ∈ l0, okT t.f1 then some (writeS l0) else none
--§M
theorem nWrite.calls (A0 : Option Addr) (c0 : Nat) (l0 : List S46) (r1 : ByteArray) (r2 : Int) (w : World) (hr0 : Kd.C k46 w A0 l0.length l0) (hc0 : l0.length ≤ c0) (h : nWrite.f l0 = some (r1, r2)) :
    Calls Try.prog 18 #[.slice A0 l0.length c0] w fun e w' => e = .returned (.tuple #[.string r1, .int .i64 r2]) ∧ Below w.heap.size w w' := by
  unfold nWrite.f at h
  by_cases hs : l0.length ≤ 4000 → ∀ t ∈ l0, okT t.f1
  · rw [if_pos hs] at h
    have h := Option.some.inj h
    by_cases hl : 4000 < l0.length
    · have : r1 = ⟨#[]⟩ ∧ r2 = 3 := by
        unfold writeS Sj.writeT at h
        rw [List.length_map, if_pos hl] at h
        simp only [Prod.mk.injEq] at h
        exact ⟨h.1.symm, h.2.symm⟩
      rw [this.1, this.2]
      exact nWrite_many A0 c0 l0 w hl
    · exact nWrite_few A0 c0 l0 w r1 r2 hr0 hc0 hl (hs (by omega)) h
  · rw [if_neg hs] at h; cases h

/-! ### token_IsName: function 24 -/
def token_IsName.f (a0 : ByteArray) : Option (Bool) := (nwhole.f 1 a0 0).bind fun bt141 => (some bt141.2)
set_option maxHeartbeats 8000000 in
set_option maxRecDepth 100000 in
theorem token_IsName.calls (a0 : ByteArray) (r : Bool) (w : World) (h : token_IsName.f a0 = some r) :
    Calls Try.prog 24 #[.string a0] w fun e w' => e = .returned (.bool r) ∧ Below w.heap.size w w' := by
  have hu46 := Try.underlying46
  have HB := Aside0.mk (Below.refl w.heap.size w)
  have H : ((nwhole.f 1 a0 0).bind fun bt141 => (some bt141.2)) = some r := h
  clear h
  replace H := Option.bind_eq_some_iff.mp H
  obtain ⟨⟨t141, t142⟩, A20, H⟩ := H
  replace H : (some t142) = some r := H
  have A2 := Aside0.mk A20
  clear A20
  obtain rfl := Option.some.inj H
  go_enter Try.func24, Try.ntmps24
  go_wp2_with (first | ((with_reducible refine gate_callee (f := 29) rfl ?_); refine goesL_  (some 8) rfl rfl Try.func29 (by kernel_rfl) rfl #[.agg #[.int .i64 1, .string a0, .int .i64 0]] rfl (by (try simp only [List.map_toArray, List.map_cons, List.map_nil]); first | done | rfl | (simp only [List.length_drop, List.length_take]; rfl)) ?_; (with_reducible refine (nwhole.calls 1 a0 0 t141 t142 _ A2.out).mono ?_); rintro e w3 ⟨rfl, hb⟩; refine ⟨_, rfl, ?_⟩; have n0_ := Aside0.mk (below_step (by repeat (first | (with_reducible first | exact HB.out | apply below_alloc | apply pw_below_drewN | apply below_drew1) | exact HB.out)) hb); clear HB; have HB := n0_; clear n0_; (try clear hb); (try clear hb2); (try clear hk); (try clear hi)))
  go_ret
  exact ⟨by first | rfl | (simp [errW_none, errW_some] <;> rfl) | (simp [*, errW_none, errW_some] <;> rfl), by repeat (first | (with_reducible first | exact HB.out | apply below_alloc | apply pw_below_drewN | apply below_drew1) | exact HB.out)⟩

open Sj in
def nIsName.f (a0 : ByteArray) : Option Bool := if okT a0 then some (isName (L a0)) else none
open Sj in
theorem nIsName.ev (a0 : ByteArray) (r : Bool) (h : nIsName.f a0 = some r) : token_IsName.f a0 = some r := by
  unfold nIsName.f at h
  by_cases hs : okT a0
  · rw [if_pos hs] at h
    unfold token_IsName.f nwhole.f
    rw [if_pos hs, Option.bind_some]
    exact h
  · rw [if_neg hs] at h; cases h

theorem nIsName.calls (a0 : ByteArray) (r : Bool) (w : World) (h : nIsName.f a0 = some r) :
    Calls Try.prog 24 #[.string a0] w fun e w' => e = .returned (.bool r) ∧ Below w.heap.size w w' := by
  exact token_IsName.calls a0 r w (nIsName.ev a0 r h)

/-! ### scarfjointlaw01_awake: function 11 -/
def scarfjointlaw01_awake.f  : Option (Bool) := (nTokens.f (⟨#[101, 100, 103, 101, 32, 97, 45, 62, 10, 98, 32, 35, 32, 120]⟩ : ByteArray)).bind fun bt143 => ((nWrite.f bt143.1).bind fun bt148 => ((nNumber.f (⟨#[48, 48, 55]⟩ : ByteArray)).bind fun bt150 => (if bt143.2.2 = 0 then (if bt143.2.1 = 0 then (if (bt143.1.length : Int) = 4 then (if 3 < (bt143.1.length : Int) then (if ((rd_T46 bt143.1 3).f2) = 2 then (if bt148.2 = 0 then (if bt148.1.toList = ([101, 100, 103, 101, 32, 97, 32, 45, 62, 10, 98] : List UInt8) then (if bt150.2 = 0 then (if bt150.1 = 7 then ((nIsName.f (⟨#[101, 100, 103, 101]⟩ : ByteArray)).bind fun t153 => (some t153)) else (some false)) else (some false)) else (some false)) else (some false)) else (some false)) else (none)) else (some false)) else (some false)) else (some false))))
set_option maxHeartbeats 8000000 in
set_option maxRecDepth 100000 in
theorem scarfjointlaw01_awake.calls  (r : Bool) (w : World) (h : scarfjointlaw01_awake.f  = some r) :
    Calls Try.prog 11 #[] w fun e w' => e = .returned (.bool r) ∧ Below w.heap.size w w' := by
  have HB := Aside0.mk (Below.refl w.heap.size w)
  have H : ((nTokens.f (⟨#[101, 100, 103, 101, 32, 97, 45, 62, 10, 98, 32, 35, 32, 120]⟩ : ByteArray)).bind fun bt143 => ((nWrite.f bt143.1).bind fun bt148 => ((nNumber.f (⟨#[48, 48, 55]⟩ : ByteArray)).bind fun bt150 => (if bt143.2.2 = 0 then (if bt143.2.1 = 0 then (if (bt143.1.length : Int) = 4 then (if 3 < (bt143.1.length : Int) then (if ((rd_T46 bt143.1 3).f2) = 2 then (if bt148.2 = 0 then (if bt148.1.toList = ([101, 100, 103, 101, 32, 97, 32, 45, 62, 10, 98] : List UInt8) then (if bt150.2 = 0 then (if bt150.1 = 7 then ((nIsName.f (⟨#[101, 100, 103, 101]⟩ : ByteArray)).bind fun t153 => (some t153)) else (some false)) else (some false)) else (some false)) else (some false)) else (some false)) else (none)) else (some false)) else (some false)) else (some false))))) = some r := h
  clear h
  replace H := Option.bind_eq_some_iff.mp H
  obtain ⟨⟨t143, t144, t145⟩, A10, H⟩ := H
  replace H : ((nWrite.f t143).bind fun bt148 => ((nNumber.f (⟨#[48, 48, 55]⟩ : ByteArray)).bind fun bt150 => (if t145 = 0 then (if t144 = 0 then (if (t143.length : Int) = 4 then (if 3 < (t143.length : Int) then (if ((rd_T46 t143 3).f2) = 2 then (if bt148.2 = 0 then (if bt148.1.toList = ([101, 100, 103, 101, 32, 97, 32, 45, 62, 10, 98] : List UInt8) then (if bt150.2 = 0 then (if bt150.1 = 7 then ((nIsName.f (⟨#[101, 100, 103, 101]⟩ : ByteArray)).bind fun t153 => (some t153)) else (some false)) else (some false)) else (some false)) else (some false)) else (some false)) else (none)) else (some false)) else (some false)) else (some false)))) = some r := H
  have A1 := Aside0.mk A10
  clear A10
  replace H := Option.bind_eq_some_iff.mp H
  obtain ⟨⟨t148, t149⟩, A20, H⟩ := H
  replace H : ((nNumber.f (⟨#[48, 48, 55]⟩ : ByteArray)).bind fun bt150 => (if t145 = 0 then (if t144 = 0 then (if (t143.length : Int) = 4 then (if 3 < (t143.length : Int) then (if ((rd_T46 t143 3).f2) = 2 then (if t149 = 0 then (if t148.toList = ([101, 100, 103, 101, 32, 97, 32, 45, 62, 10, 98] : List UInt8) then (if bt150.2 = 0 then (if bt150.1 = 7 then ((nIsName.f (⟨#[101, 100, 103, 101]⟩ : ByteArray)).bind fun t153 => (some t153)) else (some false)) else (some false)) else (some false)) else (some false)) else (some false)) else (none)) else (some false)) else (some false)) else (some false))) = some r := H
  have A2 := Aside0.mk A20
  clear A20
  replace H := Option.bind_eq_some_iff.mp H
  obtain ⟨⟨t150, t151⟩, A30, H⟩ := H
  replace H : (if t145 = 0 then (if t144 = 0 then (if (t143.length : Int) = 4 then (if 3 < (t143.length : Int) then (if ((rd_T46 t143 3).f2) = 2 then (if t149 = 0 then (if t148.toList = ([101, 100, 103, 101, 32, 97, 32, 45, 62, 10, 98] : List UInt8) then (if t151 = 0 then (if t150 = 7 then ((nIsName.f (⟨#[101, 100, 103, 101]⟩ : ByteArray)).bind fun t153 => (some t153)) else (some false)) else (some false)) else (some false)) else (some false)) else (some false)) else (none)) else (some false)) else (some false)) else (some false)) = some r := H
  have A3 := Aside0.mk A30
  clear A30
  by_cases c4 : t145 = 0
  · rw [if_pos c4] at H
    have c4b0 : (t145 == 0) = true := beq_iff_eq.mpr c4
    have c4b1 : (t145 != 0) = false := bne_eq_false_iff_eq.mpr c4
    clear c4
    by_cases c5 : t144 = 0
    · rw [if_pos c5] at H
      have c5b0 : (t144 == 0) = true := beq_iff_eq.mpr c5
      have c5b1 : (t144 != 0) = false := bne_eq_false_iff_eq.mpr c5
      clear c5
      by_cases c6 : (t143.length : Int) = 4
      · rw [if_pos c6] at H
        have c6b0 : ((t143.length : Int) == 4) = true := beq_iff_eq.mpr c6
        have c6b1 : ((t143.length : Int) != 4) = false := bne_eq_false_iff_eq.mpr c6
        clear c6
        by_cases c7 : 3 < (t143.length : Int)
        · rw [if_pos c7] at H
          have c7b0 : decide (3 < (t143.length : Int)) = true := decide_eq_true c7
          have c7b1 : decide (3 < t143.length) = true := decide_eq_true (by omega)
          clear c7
          by_cases c8 : ((rd_T46 t143 3).f2) = 2
          · rw [if_pos c8] at H
            have c8b0 : (((rd_T46 t143 3).f2) == 2) = true := beq_iff_eq.mpr c8
            have c8b1 : (((rd_T46 t143 3).f2) != 2) = false := bne_eq_false_iff_eq.mpr c8
            clear c8
            by_cases c9 : t149 = 0
            · rw [if_pos c9] at H
              have c9b0 : (t149 == 0) = true := beq_iff_eq.mpr c9
              have c9b1 : (t149 != 0) = false := bne_eq_false_iff_eq.mpr c9
              clear c9
              by_cases c10 : t148.toList = ([101, 100, 103, 101, 32, 97, 32, 45, 62, 10, 98] : List UInt8)
              · rw [if_pos c10] at H
                have c10b0 : (t148.toList == ([101, 100, 103, 101, 32, 97, 32, 45, 62, 10, 98] : List UInt8)) = true := beq_iff_eq.mpr c10
                have c10b1 : (t148.toList != ([101, 100, 103, 101, 32, 97, 32, 45, 62, 10, 98] : List UInt8)) = false := bne_eq_false_iff_eq.mpr c10
                clear c10
                by_cases c11 : t151 = 0
                · rw [if_pos c11] at H
                  have c11b0 : (t151 == 0) = true := beq_iff_eq.mpr c11
                  have c11b1 : (t151 != 0) = false := bne_eq_false_iff_eq.mpr c11
                  clear c11
                  by_cases c12 : t150 = 7
                  · rw [if_pos c12] at H
                    have c12b0 : (t150 == 7) = true := beq_iff_eq.mpr c12
                    have c12b1 : (t150 != 7) = false := bne_eq_false_iff_eq.mpr c12
                    clear c12
                    replace H := Option.bind_eq_some_iff.mp H
                    obtain ⟨t153, A130, H⟩ := H
                    replace H : (some t153) = some r := H
                    have A13 := Aside0.mk A130
                    clear A130
                    obtain rfl := Option.some.inj H
                    go_enter Try.func11, Try.ntmps11
                    go_wp2_with (first | ((with_reducible refine gate_callee (f := 15) rfl ?_); refine goesL_  (some 9) rfl rfl Try.func15 (by kernel_rfl) rfl #[.string (⟨#[101, 100, 103, 101, 32, 97, 45, 62, 10, 98, 32, 35, 32, 120]⟩ : ByteArray)] rfl (by (try simp only [List.map_toArray, List.map_cons, List.map_nil]); first | done | rfl | (simp only [List.length_drop, List.length_take]; rfl)) ?_; (with_reducible refine (nTokens.calls (⟨#[101, 100, 103, 101, 32, 97, 45, 62, 10, 98, 32, 35, 32, 120]⟩ : ByteArray) t143 t144 t145 _ A1.out).mono ?_); rintro e w14 ⟨v146, rfl, ho0, hb⟩; refine ⟨_, rfl, ?_⟩; have n0_ := Aside0.mk (Kd.R_lower ho0 (below_size (by repeat (first | (with_reducible first | exact HB.out | apply below_alloc | apply pw_below_drewN | apply below_drew1) | exact HB.out)))); have n1_ := Aside0.mk (below_step (by repeat (first | (with_reducible first | exact HB.out | apply below_alloc | apply pw_below_drewN | apply below_drew1) | exact HB.out)) hb); clear HB; have HO147 := n0_; have HB := n1_; clear n0_ n1_; (try clear hb); (try clear hb2); (try clear hk); (try clear hi); (try clear ho0); obtain ⟨Ao15, co15, eo15⟩ := Kd.R_slice HO147.out; subst eo15) | ((with_reducible refine gate_callee (f := 18) rfl ?_); refine goesL_  (some 15) rfl rfl Try.func18 (by kernel_rfl) rfl #[.slice Ao15 t143.length co15] rfl (by (try simp only [List.map_toArray, List.map_cons, List.map_nil]); first | done | rfl | (simp only [List.length_drop, List.length_take]; rfl)) ?_; (with_reducible refine (nWrite.calls _ _ t143 t148 t149 _ ?side1 ?side2 A2.out).mono ?_); (case side1 => repeat (first | exact (Kd.R_reads' HO147.out).2.2 | (with_reducible refine Kd.C_alloc ?_ _) | (with_reducible refine Kd.C_drewN ?_ _) | (with_reducible refine Kd.C_drew ?_))); (case side2 => exact (Kd.R_reads' HO147.out).2.1); rintro e w16 ⟨rfl, hb⟩; refine ⟨_, rfl, ?_⟩; have n0_ := Aside0.mk (Kd.R_below (by (with_reducible repeat (first | apply Kd.R_alloc | apply Kd.R_drewN | apply Kd.R_drew)); exact HO147.out) hb); have n1_ := Aside0.mk (below_step (by repeat (first | (with_reducible first | exact HB.out | apply below_alloc | apply pw_below_drewN | apply below_drew1) | exact HB.out)) hb); clear HO147; clear HB; have HO147 := n0_; have HB := n1_; clear n0_ n1_; (try clear hb); (try clear hb2); (try clear hk); (try clear hi)) | ((with_reducible refine gate_callee (f := 12) rfl ?_); refine goesL_  (some 19) rfl rfl Try.func12 (by kernel_rfl) rfl #[.string (⟨#[48, 48, 55]⟩ : ByteArray)] rfl (by (try simp only [List.map_toArray, List.map_cons, List.map_nil]); first | done | rfl | (simp only [List.length_drop, List.length_take]; rfl)) ?_; (with_reducible refine (nNumber.calls (⟨#[48, 48, 55]⟩ : ByteArray) t150 t151 _ A3.out).mono ?_); rintro e w17 ⟨rfl, hb⟩; refine ⟨_, rfl, ?_⟩; have n0_ := Aside0.mk (Kd.R_below (by (with_reducible repeat (first | apply Kd.R_alloc | apply Kd.R_drewN | apply Kd.R_drew)); exact HO147.out) hb); have n1_ := Aside0.mk (below_step (by repeat (first | (with_reducible first | exact HB.out | apply below_alloc | apply pw_below_drewN | apply below_drew1) | exact HB.out)) hb); clear HO147; clear HB; have HO147 := n0_; have HB := n1_; clear n0_ n1_; (try clear hb); (try clear hb2); (try clear hk); (try clear hi); have p152 : 0 ≤ (3 : Int) := (by omega); have q152 : 3 < (t143.length : Int) := of_decide_eq_true (by first | (with_reducible assumption) | assumption); obtain ⟨ad152, e152, hx152_0, hx152_1, hx152_2⟩ := at_T46 (Kd.R_reads' HO147.out).2.2 3 p152 q152; cases e152; (try simp only [show (3 : Int).toNat = 3 from rfl, Nat.reduceMul, Nat.reduceEqDiff, Go.Addr.add, ↓reduceIte] at hx152_0); (try simp only [show (3 : Int).toNat = 3 from rfl, Nat.reduceMul, Nat.reduceEqDiff, Go.Addr.add, ↓reduceIte] at hx152_1); (try simp only [show (3 : Int).toNat = 3 from rfl, Nat.reduceMul, Nat.reduceEqDiff, Go.Addr.add, ↓reduceIte] at hx152_2); have qi152 : (3 < t143.length) = True := eq_true (by omega); (try rw [show ((3 : Int)).toNat = 3 from rfl] at hx152_0); (try rw [show 3 * 3 = 9 from rfl] at hx152_0); (try rw [show ((3 : Int)).toNat = 3 from rfl] at hx152_1); (try rw [show 3 * 3 = 9 from rfl] at hx152_1); (try rw [show ((3 : Int)).toNat = 3 from rfl] at hx152_2); (try rw [show 3 * 3 = 9 from rfl] at hx152_2); replace p152 := eq_true p152; replace q152 := eq_true q152) | (go_at_call 24; (with_reducible refine (nIsName.calls (⟨#[101, 100, 103, 101]⟩ : ByteArray) t153 _ A13.out).mono ?_); rintro e w18 ⟨rfl, hb⟩; have n0_ := Aside0.mk (Kd.R_below (by (with_reducible repeat (first | apply Kd.R_alloc | apply Kd.R_drewN | apply Kd.R_drew)); exact HO147.out) hb); have n1_ := Aside0.mk (below_step (by repeat (first | (with_reducible first | exact HB.out | apply below_alloc | apply pw_below_drewN | apply below_drew1) | exact HB.out)) hb); clear HO147; clear HB; have HO147 := n0_; have HB := n1_; clear n0_ n1_; (try clear hb); (try clear hb2); (try clear hk); (try clear hi)))
                    go_ret
                    exact ⟨by first | rfl | (simp [errW_none, errW_some] <;> rfl) | (simp [*, errW_none, errW_some] <;> rfl), by repeat (first | (with_reducible first | exact HB.out | apply below_alloc | apply pw_below_drewN | apply below_drew1) | exact HB.out)⟩
                  · rw [if_neg c12] at H
                    have c12b0 : (t150 == 7) = false := beq_eq_false_iff_ne.mpr c12
                    have c12b1 : (t150 != 7) = true := bne_iff_ne.mpr c12
                    obtain rfl := Option.some.inj H
                    go_enter Try.func11, Try.ntmps11
                    go_wp2_with (first | ((with_reducible refine gate_callee (f := 15) rfl ?_); refine goesL_  (some 9) rfl rfl Try.func15 (by kernel_rfl) rfl #[.string (⟨#[101, 100, 103, 101, 32, 97, 45, 62, 10, 98, 32, 35, 32, 120]⟩ : ByteArray)] rfl (by (try simp only [List.map_toArray, List.map_cons, List.map_nil]); first | done | rfl | (simp only [List.length_drop, List.length_take]; rfl)) ?_; (with_reducible refine (nTokens.calls (⟨#[101, 100, 103, 101, 32, 97, 45, 62, 10, 98, 32, 35, 32, 120]⟩ : ByteArray) t143 t144 t145 _ A1.out).mono ?_); rintro e w19 ⟨v146, rfl, ho0, hb⟩; refine ⟨_, rfl, ?_⟩; have n0_ := Aside0.mk (Kd.R_lower ho0 (below_size (by repeat (first | (with_reducible first | exact HB.out | apply below_alloc | apply pw_below_drewN | apply below_drew1) | exact HB.out)))); have n1_ := Aside0.mk (below_step (by repeat (first | (with_reducible first | exact HB.out | apply below_alloc | apply pw_below_drewN | apply below_drew1) | exact HB.out)) hb); clear HB; have HO147 := n0_; have HB := n1_; clear n0_ n1_; (try clear hb); (try clear hb2); (try clear hk); (try clear hi); (try clear ho0); obtain ⟨Ao20, co20, eo20⟩ := Kd.R_slice HO147.out; subst eo20) | ((with_reducible refine gate_callee (f := 18) rfl ?_); refine goesL_  (some 15) rfl rfl Try.func18 (by kernel_rfl) rfl #[.slice Ao20 t143.length co20] rfl (by (try simp only [List.map_toArray, List.map_cons, List.map_nil]); first | done | rfl | (simp only [List.length_drop, List.length_take]; rfl)) ?_; (with_reducible refine (nWrite.calls _ _ t143 t148 t149 _ ?side1 ?side2 A2.out).mono ?_); (case side1 => repeat (first | exact (Kd.R_reads' HO147.out).2.2 | (with_reducible refine Kd.C_alloc ?_ _) | (with_reducible refine Kd.C_drewN ?_ _) | (with_reducible refine Kd.C_drew ?_))); (case side2 => exact (Kd.R_reads' HO147.out).2.1); rintro e w21 ⟨rfl, hb⟩; refine ⟨_, rfl, ?_⟩; have n0_ := Aside0.mk (Kd.R_below (by (with_reducible repeat (first | apply Kd.R_alloc | apply Kd.R_drewN | apply Kd.R_drew)); exact HO147.out) hb); have n1_ := Aside0.mk (below_step (by repeat (first | (with_reducible first | exact HB.out | apply below_alloc | apply pw_below_drewN | apply below_drew1) | exact HB.out)) hb); clear HO147; clear HB; have HO147 := n0_; have HB := n1_; clear n0_ n1_; (try clear hb); (try clear hb2); (try clear hk); (try clear hi)) | ((with_reducible refine gate_callee (f := 12) rfl ?_); refine goesL_  (some 19) rfl rfl Try.func12 (by kernel_rfl) rfl #[.string (⟨#[48, 48, 55]⟩ : ByteArray)] rfl (by (try simp only [List.map_toArray, List.map_cons, List.map_nil]); first | done | rfl | (simp only [List.length_drop, List.length_take]; rfl)) ?_; (with_reducible refine (nNumber.calls (⟨#[48, 48, 55]⟩ : ByteArray) t150 t151 _ A3.out).mono ?_); rintro e w22 ⟨rfl, hb⟩; refine ⟨_, rfl, ?_⟩; have n0_ := Aside0.mk (Kd.R_below (by (with_reducible repeat (first | apply Kd.R_alloc | apply Kd.R_drewN | apply Kd.R_drew)); exact HO147.out) hb); have n1_ := Aside0.mk (below_step (by repeat (first | (with_reducible first | exact HB.out | apply below_alloc | apply pw_below_drewN | apply below_drew1) | exact HB.out)) hb); clear HO147; clear HB; have HO147 := n0_; have HB := n1_; clear n0_ n1_; (try clear hb); (try clear hb2); (try clear hk); (try clear hi); have p152 : 0 ≤ (3 : Int) := (by omega); have q152 : 3 < (t143.length : Int) := of_decide_eq_true (by first | (with_reducible assumption) | assumption); obtain ⟨ad152, e152, hx152_0, hx152_1, hx152_2⟩ := at_T46 (Kd.R_reads' HO147.out).2.2 3 p152 q152; cases e152; (try simp only [show (3 : Int).toNat = 3 from rfl, Nat.reduceMul, Nat.reduceEqDiff, Go.Addr.add, ↓reduceIte] at hx152_0); (try simp only [show (3 : Int).toNat = 3 from rfl, Nat.reduceMul, Nat.reduceEqDiff, Go.Addr.add, ↓reduceIte] at hx152_1); (try simp only [show (3 : Int).toNat = 3 from rfl, Nat.reduceMul, Nat.reduceEqDiff, Go.Addr.add, ↓reduceIte] at hx152_2); have qi152 : (3 < t143.length) = True := eq_true (by omega); (try rw [show ((3 : Int)).toNat = 3 from rfl] at hx152_0); (try rw [show 3 * 3 = 9 from rfl] at hx152_0); (try rw [show ((3 : Int)).toNat = 3 from rfl] at hx152_1); (try rw [show 3 * 3 = 9 from rfl] at hx152_1); (try rw [show ((3 : Int)).toNat = 3 from rfl] at hx152_2); (try rw [show 3 * 3 = 9 from rfl] at hx152_2); replace p152 := eq_true p152; replace q152 := eq_true q152))
                    go_ret
                    exact ⟨by first | rfl | (simp [errW_none, errW_some] <;> rfl) | (simp [*, errW_none, errW_some] <;> rfl), by repeat (first | (with_reducible first | exact HB.out | apply below_alloc | apply pw_below_drewN | apply below_drew1) | exact HB.out)⟩
                · rw [if_neg c11] at H
                  have c11b0 : (t151 == 0) = false := beq_eq_false_iff_ne.mpr c11
                  have c11b1 : (t151 != 0) = true := bne_iff_ne.mpr c11
                  obtain rfl := Option.some.inj H
                  go_enter Try.func11, Try.ntmps11
                  go_wp2_with (first | ((with_reducible refine gate_callee (f := 15) rfl ?_); refine goesL_  (some 9) rfl rfl Try.func15 (by kernel_rfl) rfl #[.string (⟨#[101, 100, 103, 101, 32, 97, 45, 62, 10, 98, 32, 35, 32, 120]⟩ : ByteArray)] rfl (by (try simp only [List.map_toArray, List.map_cons, List.map_nil]); first | done | rfl | (simp only [List.length_drop, List.length_take]; rfl)) ?_; (with_reducible refine (nTokens.calls (⟨#[101, 100, 103, 101, 32, 97, 45, 62, 10, 98, 32, 35, 32, 120]⟩ : ByteArray) t143 t144 t145 _ A1.out).mono ?_); rintro e w23 ⟨v146, rfl, ho0, hb⟩; refine ⟨_, rfl, ?_⟩; have n0_ := Aside0.mk (Kd.R_lower ho0 (below_size (by repeat (first | (with_reducible first | exact HB.out | apply below_alloc | apply pw_below_drewN | apply below_drew1) | exact HB.out)))); have n1_ := Aside0.mk (below_step (by repeat (first | (with_reducible first | exact HB.out | apply below_alloc | apply pw_below_drewN | apply below_drew1) | exact HB.out)) hb); clear HB; have HO147 := n0_; have HB := n1_; clear n0_ n1_; (try clear hb); (try clear hb2); (try clear hk); (try clear hi); (try clear ho0); obtain ⟨Ao24, co24, eo24⟩ := Kd.R_slice HO147.out; subst eo24) | ((with_reducible refine gate_callee (f := 18) rfl ?_); refine goesL_  (some 15) rfl rfl Try.func18 (by kernel_rfl) rfl #[.slice Ao24 t143.length co24] rfl (by (try simp only [List.map_toArray, List.map_cons, List.map_nil]); first | done | rfl | (simp only [List.length_drop, List.length_take]; rfl)) ?_; (with_reducible refine (nWrite.calls _ _ t143 t148 t149 _ ?side1 ?side2 A2.out).mono ?_); (case side1 => repeat (first | exact (Kd.R_reads' HO147.out).2.2 | (with_reducible refine Kd.C_alloc ?_ _) | (with_reducible refine Kd.C_drewN ?_ _) | (with_reducible refine Kd.C_drew ?_))); (case side2 => exact (Kd.R_reads' HO147.out).2.1); rintro e w25 ⟨rfl, hb⟩; refine ⟨_, rfl, ?_⟩; have n0_ := Aside0.mk (Kd.R_below (by (with_reducible repeat (first | apply Kd.R_alloc | apply Kd.R_drewN | apply Kd.R_drew)); exact HO147.out) hb); have n1_ := Aside0.mk (below_step (by repeat (first | (with_reducible first | exact HB.out | apply below_alloc | apply pw_below_drewN | apply below_drew1) | exact HB.out)) hb); clear HO147; clear HB; have HO147 := n0_; have HB := n1_; clear n0_ n1_; (try clear hb); (try clear hb2); (try clear hk); (try clear hi)) | ((with_reducible refine gate_callee (f := 12) rfl ?_); refine goesL_  (some 19) rfl rfl Try.func12 (by kernel_rfl) rfl #[.string (⟨#[48, 48, 55]⟩ : ByteArray)] rfl (by (try simp only [List.map_toArray, List.map_cons, List.map_nil]); first | done | rfl | (simp only [List.length_drop, List.length_take]; rfl)) ?_; (with_reducible refine (nNumber.calls (⟨#[48, 48, 55]⟩ : ByteArray) t150 t151 _ A3.out).mono ?_); rintro e w26 ⟨rfl, hb⟩; refine ⟨_, rfl, ?_⟩; have n0_ := Aside0.mk (Kd.R_below (by (with_reducible repeat (first | apply Kd.R_alloc | apply Kd.R_drewN | apply Kd.R_drew)); exact HO147.out) hb); have n1_ := Aside0.mk (below_step (by repeat (first | (with_reducible first | exact HB.out | apply below_alloc | apply pw_below_drewN | apply below_drew1) | exact HB.out)) hb); clear HO147; clear HB; have HO147 := n0_; have HB := n1_; clear n0_ n1_; (try clear hb); (try clear hb2); (try clear hk); (try clear hi); have p152 : 0 ≤ (3 : Int) := (by omega); have q152 : 3 < (t143.length : Int) := of_decide_eq_true (by first | (with_reducible assumption) | assumption); obtain ⟨ad152, e152, hx152_0, hx152_1, hx152_2⟩ := at_T46 (Kd.R_reads' HO147.out).2.2 3 p152 q152; cases e152; (try simp only [show (3 : Int).toNat = 3 from rfl, Nat.reduceMul, Nat.reduceEqDiff, Go.Addr.add, ↓reduceIte] at hx152_0); (try simp only [show (3 : Int).toNat = 3 from rfl, Nat.reduceMul, Nat.reduceEqDiff, Go.Addr.add, ↓reduceIte] at hx152_1); (try simp only [show (3 : Int).toNat = 3 from rfl, Nat.reduceMul, Nat.reduceEqDiff, Go.Addr.add, ↓reduceIte] at hx152_2); have qi152 : (3 < t143.length) = True := eq_true (by omega); (try rw [show ((3 : Int)).toNat = 3 from rfl] at hx152_0); (try rw [show 3 * 3 = 9 from rfl] at hx152_0); (try rw [show ((3 : Int)).toNat = 3 from rfl] at hx152_1); (try rw [show 3 * 3 = 9 from rfl] at hx152_1); (try rw [show ((3 : Int)).toNat = 3 from rfl] at hx152_2); (try rw [show 3 * 3 = 9 from rfl] at hx152_2); replace p152 := eq_true p152; replace q152 := eq_true q152))
                  go_ret
                  exact ⟨by first | rfl | (simp [errW_none, errW_some] <;> rfl) | (simp [*, errW_none, errW_some] <;> rfl), by repeat (first | (with_reducible first | exact HB.out | apply below_alloc | apply pw_below_drewN | apply below_drew1) | exact HB.out)⟩
              · rw [if_neg c10] at H
                have c10b0 : (t148.toList == ([101, 100, 103, 101, 32, 97, 32, 45, 62, 10, 98] : List UInt8)) = false := beq_eq_false_iff_ne.mpr c10
                have c10b1 : (t148.toList != ([101, 100, 103, 101, 32, 97, 32, 45, 62, 10, 98] : List UInt8)) = true := bne_iff_ne.mpr c10
                obtain rfl := Option.some.inj H
                go_enter Try.func11, Try.ntmps11
                go_wp2_with (first | ((with_reducible refine gate_callee (f := 15) rfl ?_); refine goesL_  (some 9) rfl rfl Try.func15 (by kernel_rfl) rfl #[.string (⟨#[101, 100, 103, 101, 32, 97, 45, 62, 10, 98, 32, 35, 32, 120]⟩ : ByteArray)] rfl (by (try simp only [List.map_toArray, List.map_cons, List.map_nil]); first | done | rfl | (simp only [List.length_drop, List.length_take]; rfl)) ?_; (with_reducible refine (nTokens.calls (⟨#[101, 100, 103, 101, 32, 97, 45, 62, 10, 98, 32, 35, 32, 120]⟩ : ByteArray) t143 t144 t145 _ A1.out).mono ?_); rintro e w27 ⟨v146, rfl, ho0, hb⟩; refine ⟨_, rfl, ?_⟩; have n0_ := Aside0.mk (Kd.R_lower ho0 (below_size (by repeat (first | (with_reducible first | exact HB.out | apply below_alloc | apply pw_below_drewN | apply below_drew1) | exact HB.out)))); have n1_ := Aside0.mk (below_step (by repeat (first | (with_reducible first | exact HB.out | apply below_alloc | apply pw_below_drewN | apply below_drew1) | exact HB.out)) hb); clear HB; have HO147 := n0_; have HB := n1_; clear n0_ n1_; (try clear hb); (try clear hb2); (try clear hk); (try clear hi); (try clear ho0); obtain ⟨Ao28, co28, eo28⟩ := Kd.R_slice HO147.out; subst eo28) | ((with_reducible refine gate_callee (f := 18) rfl ?_); refine goesL_  (some 15) rfl rfl Try.func18 (by kernel_rfl) rfl #[.slice Ao28 t143.length co28] rfl (by (try simp only [List.map_toArray, List.map_cons, List.map_nil]); first | done | rfl | (simp only [List.length_drop, List.length_take]; rfl)) ?_; (with_reducible refine (nWrite.calls _ _ t143 t148 t149 _ ?side1 ?side2 A2.out).mono ?_); (case side1 => repeat (first | exact (Kd.R_reads' HO147.out).2.2 | (with_reducible refine Kd.C_alloc ?_ _) | (with_reducible refine Kd.C_drewN ?_ _) | (with_reducible refine Kd.C_drew ?_))); (case side2 => exact (Kd.R_reads' HO147.out).2.1); rintro e w29 ⟨rfl, hb⟩; refine ⟨_, rfl, ?_⟩; have n0_ := Aside0.mk (Kd.R_below (by (with_reducible repeat (first | apply Kd.R_alloc | apply Kd.R_drewN | apply Kd.R_drew)); exact HO147.out) hb); have n1_ := Aside0.mk (below_step (by repeat (first | (with_reducible first | exact HB.out | apply below_alloc | apply pw_below_drewN | apply below_drew1) | exact HB.out)) hb); clear HO147; clear HB; have HO147 := n0_; have HB := n1_; clear n0_ n1_; (try clear hb); (try clear hb2); (try clear hk); (try clear hi)) | ((with_reducible refine gate_callee (f := 12) rfl ?_); refine goesL_  (some 19) rfl rfl Try.func12 (by kernel_rfl) rfl #[.string (⟨#[48, 48, 55]⟩ : ByteArray)] rfl (by (try simp only [List.map_toArray, List.map_cons, List.map_nil]); first | done | rfl | (simp only [List.length_drop, List.length_take]; rfl)) ?_; (with_reducible refine (nNumber.calls (⟨#[48, 48, 55]⟩ : ByteArray) t150 t151 _ A3.out).mono ?_); rintro e w30 ⟨rfl, hb⟩; refine ⟨_, rfl, ?_⟩; have n0_ := Aside0.mk (Kd.R_below (by (with_reducible repeat (first | apply Kd.R_alloc | apply Kd.R_drewN | apply Kd.R_drew)); exact HO147.out) hb); have n1_ := Aside0.mk (below_step (by repeat (first | (with_reducible first | exact HB.out | apply below_alloc | apply pw_below_drewN | apply below_drew1) | exact HB.out)) hb); clear HO147; clear HB; have HO147 := n0_; have HB := n1_; clear n0_ n1_; (try clear hb); (try clear hb2); (try clear hk); (try clear hi); have p152 : 0 ≤ (3 : Int) := (by omega); have q152 : 3 < (t143.length : Int) := of_decide_eq_true (by first | (with_reducible assumption) | assumption); obtain ⟨ad152, e152, hx152_0, hx152_1, hx152_2⟩ := at_T46 (Kd.R_reads' HO147.out).2.2 3 p152 q152; cases e152; (try simp only [show (3 : Int).toNat = 3 from rfl, Nat.reduceMul, Nat.reduceEqDiff, Go.Addr.add, ↓reduceIte] at hx152_0); (try simp only [show (3 : Int).toNat = 3 from rfl, Nat.reduceMul, Nat.reduceEqDiff, Go.Addr.add, ↓reduceIte] at hx152_1); (try simp only [show (3 : Int).toNat = 3 from rfl, Nat.reduceMul, Nat.reduceEqDiff, Go.Addr.add, ↓reduceIte] at hx152_2); have qi152 : (3 < t143.length) = True := eq_true (by omega); (try rw [show ((3 : Int)).toNat = 3 from rfl] at hx152_0); (try rw [show 3 * 3 = 9 from rfl] at hx152_0); (try rw [show ((3 : Int)).toNat = 3 from rfl] at hx152_1); (try rw [show 3 * 3 = 9 from rfl] at hx152_1); (try rw [show ((3 : Int)).toNat = 3 from rfl] at hx152_2); (try rw [show 3 * 3 = 9 from rfl] at hx152_2); replace p152 := eq_true p152; replace q152 := eq_true q152))
                go_ret
                exact ⟨by first | rfl | (simp [errW_none, errW_some] <;> rfl) | (simp [*, errW_none, errW_some] <;> rfl), by repeat (first | (with_reducible first | exact HB.out | apply below_alloc | apply pw_below_drewN | apply below_drew1) | exact HB.out)⟩
            · rw [if_neg c9] at H
              have c9b0 : (t149 == 0) = false := beq_eq_false_iff_ne.mpr c9
              have c9b1 : (t149 != 0) = true := bne_iff_ne.mpr c9
              obtain rfl := Option.some.inj H
              go_enter Try.func11, Try.ntmps11
              go_wp2_with (first | ((with_reducible refine gate_callee (f := 15) rfl ?_); refine goesL_  (some 9) rfl rfl Try.func15 (by kernel_rfl) rfl #[.string (⟨#[101, 100, 103, 101, 32, 97, 45, 62, 10, 98, 32, 35, 32, 120]⟩ : ByteArray)] rfl (by (try simp only [List.map_toArray, List.map_cons, List.map_nil]); first | done | rfl | (simp only [List.length_drop, List.length_take]; rfl)) ?_; (with_reducible refine (nTokens.calls (⟨#[101, 100, 103, 101, 32, 97, 45, 62, 10, 98, 32, 35, 32, 120]⟩ : ByteArray) t143 t144 t145 _ A1.out).mono ?_); rintro e w31 ⟨v146, rfl, ho0, hb⟩; refine ⟨_, rfl, ?_⟩; have n0_ := Aside0.mk (Kd.R_lower ho0 (below_size (by repeat (first | (with_reducible first | exact HB.out | apply below_alloc | apply pw_below_drewN | apply below_drew1) | exact HB.out)))); have n1_ := Aside0.mk (below_step (by repeat (first | (with_reducible first | exact HB.out | apply below_alloc | apply pw_below_drewN | apply below_drew1) | exact HB.out)) hb); clear HB; have HO147 := n0_; have HB := n1_; clear n0_ n1_; (try clear hb); (try clear hb2); (try clear hk); (try clear hi); (try clear ho0); obtain ⟨Ao32, co32, eo32⟩ := Kd.R_slice HO147.out; subst eo32) | ((with_reducible refine gate_callee (f := 18) rfl ?_); refine goesL_  (some 15) rfl rfl Try.func18 (by kernel_rfl) rfl #[.slice Ao32 t143.length co32] rfl (by (try simp only [List.map_toArray, List.map_cons, List.map_nil]); first | done | rfl | (simp only [List.length_drop, List.length_take]; rfl)) ?_; (with_reducible refine (nWrite.calls _ _ t143 t148 t149 _ ?side1 ?side2 A2.out).mono ?_); (case side1 => repeat (first | exact (Kd.R_reads' HO147.out).2.2 | (with_reducible refine Kd.C_alloc ?_ _) | (with_reducible refine Kd.C_drewN ?_ _) | (with_reducible refine Kd.C_drew ?_))); (case side2 => exact (Kd.R_reads' HO147.out).2.1); rintro e w33 ⟨rfl, hb⟩; refine ⟨_, rfl, ?_⟩; have n0_ := Aside0.mk (Kd.R_below (by (with_reducible repeat (first | apply Kd.R_alloc | apply Kd.R_drewN | apply Kd.R_drew)); exact HO147.out) hb); have n1_ := Aside0.mk (below_step (by repeat (first | (with_reducible first | exact HB.out | apply below_alloc | apply pw_below_drewN | apply below_drew1) | exact HB.out)) hb); clear HO147; clear HB; have HO147 := n0_; have HB := n1_; clear n0_ n1_; (try clear hb); (try clear hb2); (try clear hk); (try clear hi)) | ((with_reducible refine gate_callee (f := 12) rfl ?_); refine goesL_  (some 19) rfl rfl Try.func12 (by kernel_rfl) rfl #[.string (⟨#[48, 48, 55]⟩ : ByteArray)] rfl (by (try simp only [List.map_toArray, List.map_cons, List.map_nil]); first | done | rfl | (simp only [List.length_drop, List.length_take]; rfl)) ?_; (with_reducible refine (nNumber.calls (⟨#[48, 48, 55]⟩ : ByteArray) t150 t151 _ A3.out).mono ?_); rintro e w34 ⟨rfl, hb⟩; refine ⟨_, rfl, ?_⟩; have n0_ := Aside0.mk (Kd.R_below (by (with_reducible repeat (first | apply Kd.R_alloc | apply Kd.R_drewN | apply Kd.R_drew)); exact HO147.out) hb); have n1_ := Aside0.mk (below_step (by repeat (first | (with_reducible first | exact HB.out | apply below_alloc | apply pw_below_drewN | apply below_drew1) | exact HB.out)) hb); clear HO147; clear HB; have HO147 := n0_; have HB := n1_; clear n0_ n1_; (try clear hb); (try clear hb2); (try clear hk); (try clear hi); have p152 : 0 ≤ (3 : Int) := (by omega); have q152 : 3 < (t143.length : Int) := of_decide_eq_true (by first | (with_reducible assumption) | assumption); obtain ⟨ad152, e152, hx152_0, hx152_1, hx152_2⟩ := at_T46 (Kd.R_reads' HO147.out).2.2 3 p152 q152; cases e152; (try simp only [show (3 : Int).toNat = 3 from rfl, Nat.reduceMul, Nat.reduceEqDiff, Go.Addr.add, ↓reduceIte] at hx152_0); (try simp only [show (3 : Int).toNat = 3 from rfl, Nat.reduceMul, Nat.reduceEqDiff, Go.Addr.add, ↓reduceIte] at hx152_1); (try simp only [show (3 : Int).toNat = 3 from rfl, Nat.reduceMul, Nat.reduceEqDiff, Go.Addr.add, ↓reduceIte] at hx152_2); have qi152 : (3 < t143.length) = True := eq_true (by omega); (try rw [show ((3 : Int)).toNat = 3 from rfl] at hx152_0); (try rw [show 3 * 3 = 9 from rfl] at hx152_0); (try rw [show ((3 : Int)).toNat = 3 from rfl] at hx152_1); (try rw [show 3 * 3 = 9 from rfl] at hx152_1); (try rw [show ((3 : Int)).toNat = 3 from rfl] at hx152_2); (try rw [show 3 * 3 = 9 from rfl] at hx152_2); replace p152 := eq_true p152; replace q152 := eq_true q152))
              go_ret
              exact ⟨by first | rfl | (simp [errW_none, errW_some] <;> rfl) | (simp [*, errW_none, errW_some] <;> rfl), by repeat (first | (with_reducible first | exact HB.out | apply below_alloc | apply pw_below_drewN | apply below_drew1) | exact HB.out)⟩
          · rw [if_neg c8] at H
            have c8b0 : (((rd_T46 t143 3).f2) == 2) = false := beq_eq_false_iff_ne.mpr c8
            have c8b1 : (((rd_T46 t143 3).f2) != 2) = true := bne_iff_ne.mpr c8
            obtain rfl := Option.some.inj H
            go_enter Try.func11, Try.ntmps11
            go_wp2_with (first | ((with_reducible refine gate_callee (f := 15) rfl ?_); refine goesL_  (some 9) rfl rfl Try.func15 (by kernel_rfl) rfl #[.string (⟨#[101, 100, 103, 101, 32, 97, 45, 62, 10, 98, 32, 35, 32, 120]⟩ : ByteArray)] rfl (by (try simp only [List.map_toArray, List.map_cons, List.map_nil]); first | done | rfl | (simp only [List.length_drop, List.length_take]; rfl)) ?_; (with_reducible refine (nTokens.calls (⟨#[101, 100, 103, 101, 32, 97, 45, 62, 10, 98, 32, 35, 32, 120]⟩ : ByteArray) t143 t144 t145 _ A1.out).mono ?_); rintro e w35 ⟨v146, rfl, ho0, hb⟩; refine ⟨_, rfl, ?_⟩; have n0_ := Aside0.mk (Kd.R_lower ho0 (below_size (by repeat (first | (with_reducible first | exact HB.out | apply below_alloc | apply pw_below_drewN | apply below_drew1) | exact HB.out)))); have n1_ := Aside0.mk (below_step (by repeat (first | (with_reducible first | exact HB.out | apply below_alloc | apply pw_below_drewN | apply below_drew1) | exact HB.out)) hb); clear HB; have HO147 := n0_; have HB := n1_; clear n0_ n1_; (try clear hb); (try clear hb2); (try clear hk); (try clear hi); (try clear ho0); obtain ⟨Ao36, co36, eo36⟩ := Kd.R_slice HO147.out; subst eo36) | ((with_reducible refine gate_callee (f := 18) rfl ?_); refine goesL_  (some 15) rfl rfl Try.func18 (by kernel_rfl) rfl #[.slice Ao36 t143.length co36] rfl (by (try simp only [List.map_toArray, List.map_cons, List.map_nil]); first | done | rfl | (simp only [List.length_drop, List.length_take]; rfl)) ?_; (with_reducible refine (nWrite.calls _ _ t143 t148 t149 _ ?side1 ?side2 A2.out).mono ?_); (case side1 => repeat (first | exact (Kd.R_reads' HO147.out).2.2 | (with_reducible refine Kd.C_alloc ?_ _) | (with_reducible refine Kd.C_drewN ?_ _) | (with_reducible refine Kd.C_drew ?_))); (case side2 => exact (Kd.R_reads' HO147.out).2.1); rintro e w37 ⟨rfl, hb⟩; refine ⟨_, rfl, ?_⟩; have n0_ := Aside0.mk (Kd.R_below (by (with_reducible repeat (first | apply Kd.R_alloc | apply Kd.R_drewN | apply Kd.R_drew)); exact HO147.out) hb); have n1_ := Aside0.mk (below_step (by repeat (first | (with_reducible first | exact HB.out | apply below_alloc | apply pw_below_drewN | apply below_drew1) | exact HB.out)) hb); clear HO147; clear HB; have HO147 := n0_; have HB := n1_; clear n0_ n1_; (try clear hb); (try clear hb2); (try clear hk); (try clear hi)) | ((with_reducible refine gate_callee (f := 12) rfl ?_); refine goesL_  (some 19) rfl rfl Try.func12 (by kernel_rfl) rfl #[.string (⟨#[48, 48, 55]⟩ : ByteArray)] rfl (by (try simp only [List.map_toArray, List.map_cons, List.map_nil]); first | done | rfl | (simp only [List.length_drop, List.length_take]; rfl)) ?_; (with_reducible refine (nNumber.calls (⟨#[48, 48, 55]⟩ : ByteArray) t150 t151 _ A3.out).mono ?_); rintro e w38 ⟨rfl, hb⟩; refine ⟨_, rfl, ?_⟩; have n0_ := Aside0.mk (Kd.R_below (by (with_reducible repeat (first | apply Kd.R_alloc | apply Kd.R_drewN | apply Kd.R_drew)); exact HO147.out) hb); have n1_ := Aside0.mk (below_step (by repeat (first | (with_reducible first | exact HB.out | apply below_alloc | apply pw_below_drewN | apply below_drew1) | exact HB.out)) hb); clear HO147; clear HB; have HO147 := n0_; have HB := n1_; clear n0_ n1_; (try clear hb); (try clear hb2); (try clear hk); (try clear hi); have p152 : 0 ≤ (3 : Int) := (by omega); have q152 : 3 < (t143.length : Int) := of_decide_eq_true (by first | (with_reducible assumption) | assumption); obtain ⟨ad152, e152, hx152_0, hx152_1, hx152_2⟩ := at_T46 (Kd.R_reads' HO147.out).2.2 3 p152 q152; cases e152; (try simp only [show (3 : Int).toNat = 3 from rfl, Nat.reduceMul, Nat.reduceEqDiff, Go.Addr.add, ↓reduceIte] at hx152_0); (try simp only [show (3 : Int).toNat = 3 from rfl, Nat.reduceMul, Nat.reduceEqDiff, Go.Addr.add, ↓reduceIte] at hx152_1); (try simp only [show (3 : Int).toNat = 3 from rfl, Nat.reduceMul, Nat.reduceEqDiff, Go.Addr.add, ↓reduceIte] at hx152_2); have qi152 : (3 < t143.length) = True := eq_true (by omega); (try rw [show ((3 : Int)).toNat = 3 from rfl] at hx152_0); (try rw [show 3 * 3 = 9 from rfl] at hx152_0); (try rw [show ((3 : Int)).toNat = 3 from rfl] at hx152_1); (try rw [show 3 * 3 = 9 from rfl] at hx152_1); (try rw [show ((3 : Int)).toNat = 3 from rfl] at hx152_2); (try rw [show 3 * 3 = 9 from rfl] at hx152_2); replace p152 := eq_true p152; replace q152 := eq_true q152))
            go_ret
            exact ⟨by first | rfl | (simp [errW_none, errW_some] <;> rfl) | (simp [*, errW_none, errW_some] <;> rfl), by repeat (first | (with_reducible first | exact HB.out | apply below_alloc | apply pw_below_drewN | apply below_drew1) | exact HB.out)⟩
        · rw [if_neg c7] at H
          exact absurd H (by simp)
      · rw [if_neg c6] at H
        have c6b0 : ((t143.length : Int) == 4) = false := beq_eq_false_iff_ne.mpr c6
        have c6b1 : ((t143.length : Int) != 4) = true := bne_iff_ne.mpr c6
        obtain rfl := Option.some.inj H
        go_enter Try.func11, Try.ntmps11
        go_wp2_with (first | ((with_reducible refine gate_callee (f := 15) rfl ?_); refine goesL_  (some 9) rfl rfl Try.func15 (by kernel_rfl) rfl #[.string (⟨#[101, 100, 103, 101, 32, 97, 45, 62, 10, 98, 32, 35, 32, 120]⟩ : ByteArray)] rfl (by (try simp only [List.map_toArray, List.map_cons, List.map_nil]); first | done | rfl | (simp only [List.length_drop, List.length_take]; rfl)) ?_; (with_reducible refine (nTokens.calls (⟨#[101, 100, 103, 101, 32, 97, 45, 62, 10, 98, 32, 35, 32, 120]⟩ : ByteArray) t143 t144 t145 _ A1.out).mono ?_); rintro e w39 ⟨v146, rfl, ho0, hb⟩; refine ⟨_, rfl, ?_⟩; have n0_ := Aside0.mk (Kd.R_lower ho0 (below_size (by repeat (first | (with_reducible first | exact HB.out | apply below_alloc | apply pw_below_drewN | apply below_drew1) | exact HB.out)))); have n1_ := Aside0.mk (below_step (by repeat (first | (with_reducible first | exact HB.out | apply below_alloc | apply pw_below_drewN | apply below_drew1) | exact HB.out)) hb); clear HB; have HO147 := n0_; have HB := n1_; clear n0_ n1_; (try clear hb); (try clear hb2); (try clear hk); (try clear hi); (try clear ho0); obtain ⟨Ao40, co40, eo40⟩ := Kd.R_slice HO147.out; subst eo40) | ((with_reducible refine gate_callee (f := 18) rfl ?_); refine goesL_  (some 15) rfl rfl Try.func18 (by kernel_rfl) rfl #[.slice Ao40 t143.length co40] rfl (by (try simp only [List.map_toArray, List.map_cons, List.map_nil]); first | done | rfl | (simp only [List.length_drop, List.length_take]; rfl)) ?_; (with_reducible refine (nWrite.calls _ _ t143 t148 t149 _ ?side1 ?side2 A2.out).mono ?_); (case side1 => repeat (first | exact (Kd.R_reads' HO147.out).2.2 | (with_reducible refine Kd.C_alloc ?_ _) | (with_reducible refine Kd.C_drewN ?_ _) | (with_reducible refine Kd.C_drew ?_))); (case side2 => exact (Kd.R_reads' HO147.out).2.1); rintro e w41 ⟨rfl, hb⟩; refine ⟨_, rfl, ?_⟩; have n0_ := Aside0.mk (Kd.R_below (by (with_reducible repeat (first | apply Kd.R_alloc | apply Kd.R_drewN | apply Kd.R_drew)); exact HO147.out) hb); have n1_ := Aside0.mk (below_step (by repeat (first | (with_reducible first | exact HB.out | apply below_alloc | apply pw_below_drewN | apply below_drew1) | exact HB.out)) hb); clear HO147; clear HB; have HO147 := n0_; have HB := n1_; clear n0_ n1_; (try clear hb); (try clear hb2); (try clear hk); (try clear hi)) | ((with_reducible refine gate_callee (f := 12) rfl ?_); refine goesL_  (some 19) rfl rfl Try.func12 (by kernel_rfl) rfl #[.string (⟨#[48, 48, 55]⟩ : ByteArray)] rfl (by (try simp only [List.map_toArray, List.map_cons, List.map_nil]); first | done | rfl | (simp only [List.length_drop, List.length_take]; rfl)) ?_; (with_reducible refine (nNumber.calls (⟨#[48, 48, 55]⟩ : ByteArray) t150 t151 _ A3.out).mono ?_); rintro e w42 ⟨rfl, hb⟩; refine ⟨_, rfl, ?_⟩; have n0_ := Aside0.mk (Kd.R_below (by (with_reducible repeat (first | apply Kd.R_alloc | apply Kd.R_drewN | apply Kd.R_drew)); exact HO147.out) hb); have n1_ := Aside0.mk (below_step (by repeat (first | (with_reducible first | exact HB.out | apply below_alloc | apply pw_below_drewN | apply below_drew1) | exact HB.out)) hb); clear HO147; clear HB; have HO147 := n0_; have HB := n1_; clear n0_ n1_; (try clear hb); (try clear hb2); (try clear hk); (try clear hi)))
        go_ret
        exact ⟨by first | rfl | (simp [errW_none, errW_some] <;> rfl) | (simp [*, errW_none, errW_some] <;> rfl), by repeat (first | (with_reducible first | exact HB.out | apply below_alloc | apply pw_below_drewN | apply below_drew1) | exact HB.out)⟩
    · rw [if_neg c5] at H
      have c5b0 : (t144 == 0) = false := beq_eq_false_iff_ne.mpr c5
      have c5b1 : (t144 != 0) = true := bne_iff_ne.mpr c5
      obtain rfl := Option.some.inj H
      go_enter Try.func11, Try.ntmps11
      go_wp2_with (first | ((with_reducible refine gate_callee (f := 15) rfl ?_); refine goesL_  (some 9) rfl rfl Try.func15 (by kernel_rfl) rfl #[.string (⟨#[101, 100, 103, 101, 32, 97, 45, 62, 10, 98, 32, 35, 32, 120]⟩ : ByteArray)] rfl (by (try simp only [List.map_toArray, List.map_cons, List.map_nil]); first | done | rfl | (simp only [List.length_drop, List.length_take]; rfl)) ?_; (with_reducible refine (nTokens.calls (⟨#[101, 100, 103, 101, 32, 97, 45, 62, 10, 98, 32, 35, 32, 120]⟩ : ByteArray) t143 t144 t145 _ A1.out).mono ?_); rintro e w43 ⟨v146, rfl, ho0, hb⟩; refine ⟨_, rfl, ?_⟩; have n0_ := Aside0.mk (Kd.R_lower ho0 (below_size (by repeat (first | (with_reducible first | exact HB.out | apply below_alloc | apply pw_below_drewN | apply below_drew1) | exact HB.out)))); have n1_ := Aside0.mk (below_step (by repeat (first | (with_reducible first | exact HB.out | apply below_alloc | apply pw_below_drewN | apply below_drew1) | exact HB.out)) hb); clear HB; have HO147 := n0_; have HB := n1_; clear n0_ n1_; (try clear hb); (try clear hb2); (try clear hk); (try clear hi); (try clear ho0); obtain ⟨Ao44, co44, eo44⟩ := Kd.R_slice HO147.out; subst eo44) | ((with_reducible refine gate_callee (f := 18) rfl ?_); refine goesL_  (some 15) rfl rfl Try.func18 (by kernel_rfl) rfl #[.slice Ao44 t143.length co44] rfl (by (try simp only [List.map_toArray, List.map_cons, List.map_nil]); first | done | rfl | (simp only [List.length_drop, List.length_take]; rfl)) ?_; (with_reducible refine (nWrite.calls _ _ t143 t148 t149 _ ?side1 ?side2 A2.out).mono ?_); (case side1 => repeat (first | exact (Kd.R_reads' HO147.out).2.2 | (with_reducible refine Kd.C_alloc ?_ _) | (with_reducible refine Kd.C_drewN ?_ _) | (with_reducible refine Kd.C_drew ?_))); (case side2 => exact (Kd.R_reads' HO147.out).2.1); rintro e w45 ⟨rfl, hb⟩; refine ⟨_, rfl, ?_⟩; have n0_ := Aside0.mk (Kd.R_below (by (with_reducible repeat (first | apply Kd.R_alloc | apply Kd.R_drewN | apply Kd.R_drew)); exact HO147.out) hb); have n1_ := Aside0.mk (below_step (by repeat (first | (with_reducible first | exact HB.out | apply below_alloc | apply pw_below_drewN | apply below_drew1) | exact HB.out)) hb); clear HO147; clear HB; have HO147 := n0_; have HB := n1_; clear n0_ n1_; (try clear hb); (try clear hb2); (try clear hk); (try clear hi)) | ((with_reducible refine gate_callee (f := 12) rfl ?_); refine goesL_  (some 19) rfl rfl Try.func12 (by kernel_rfl) rfl #[.string (⟨#[48, 48, 55]⟩ : ByteArray)] rfl (by (try simp only [List.map_toArray, List.map_cons, List.map_nil]); first | done | rfl | (simp only [List.length_drop, List.length_take]; rfl)) ?_; (with_reducible refine (nNumber.calls (⟨#[48, 48, 55]⟩ : ByteArray) t150 t151 _ A3.out).mono ?_); rintro e w46 ⟨rfl, hb⟩; refine ⟨_, rfl, ?_⟩; have n0_ := Aside0.mk (Kd.R_below (by (with_reducible repeat (first | apply Kd.R_alloc | apply Kd.R_drewN | apply Kd.R_drew)); exact HO147.out) hb); have n1_ := Aside0.mk (below_step (by repeat (first | (with_reducible first | exact HB.out | apply below_alloc | apply pw_below_drewN | apply below_drew1) | exact HB.out)) hb); clear HO147; clear HB; have HO147 := n0_; have HB := n1_; clear n0_ n1_; (try clear hb); (try clear hb2); (try clear hk); (try clear hi)))
      go_ret
      exact ⟨by first | rfl | (simp [errW_none, errW_some] <;> rfl) | (simp [*, errW_none, errW_some] <;> rfl), by repeat (first | (with_reducible first | exact HB.out | apply below_alloc | apply pw_below_drewN | apply below_drew1) | exact HB.out)⟩
  · rw [if_neg c4] at H
    have c4b0 : (t145 == 0) = false := beq_eq_false_iff_ne.mpr c4
    have c4b1 : (t145 != 0) = true := bne_iff_ne.mpr c4
    obtain rfl := Option.some.inj H
    go_enter Try.func11, Try.ntmps11
    go_wp2_with (first | ((with_reducible refine gate_callee (f := 15) rfl ?_); refine goesL_  (some 9) rfl rfl Try.func15 (by kernel_rfl) rfl #[.string (⟨#[101, 100, 103, 101, 32, 97, 45, 62, 10, 98, 32, 35, 32, 120]⟩ : ByteArray)] rfl (by (try simp only [List.map_toArray, List.map_cons, List.map_nil]); first | done | rfl | (simp only [List.length_drop, List.length_take]; rfl)) ?_; (with_reducible refine (nTokens.calls (⟨#[101, 100, 103, 101, 32, 97, 45, 62, 10, 98, 32, 35, 32, 120]⟩ : ByteArray) t143 t144 t145 _ A1.out).mono ?_); rintro e w47 ⟨v146, rfl, ho0, hb⟩; refine ⟨_, rfl, ?_⟩; have n0_ := Aside0.mk (Kd.R_lower ho0 (below_size (by repeat (first | (with_reducible first | exact HB.out | apply below_alloc | apply pw_below_drewN | apply below_drew1) | exact HB.out)))); have n1_ := Aside0.mk (below_step (by repeat (first | (with_reducible first | exact HB.out | apply below_alloc | apply pw_below_drewN | apply below_drew1) | exact HB.out)) hb); clear HB; have HO147 := n0_; have HB := n1_; clear n0_ n1_; (try clear hb); (try clear hb2); (try clear hk); (try clear hi); (try clear ho0); obtain ⟨Ao48, co48, eo48⟩ := Kd.R_slice HO147.out; subst eo48) | ((with_reducible refine gate_callee (f := 18) rfl ?_); refine goesL_  (some 15) rfl rfl Try.func18 (by kernel_rfl) rfl #[.slice Ao48 t143.length co48] rfl (by (try simp only [List.map_toArray, List.map_cons, List.map_nil]); first | done | rfl | (simp only [List.length_drop, List.length_take]; rfl)) ?_; (with_reducible refine (nWrite.calls _ _ t143 t148 t149 _ ?side1 ?side2 A2.out).mono ?_); (case side1 => repeat (first | exact (Kd.R_reads' HO147.out).2.2 | (with_reducible refine Kd.C_alloc ?_ _) | (with_reducible refine Kd.C_drewN ?_ _) | (with_reducible refine Kd.C_drew ?_))); (case side2 => exact (Kd.R_reads' HO147.out).2.1); rintro e w49 ⟨rfl, hb⟩; refine ⟨_, rfl, ?_⟩; have n0_ := Aside0.mk (Kd.R_below (by (with_reducible repeat (first | apply Kd.R_alloc | apply Kd.R_drewN | apply Kd.R_drew)); exact HO147.out) hb); have n1_ := Aside0.mk (below_step (by repeat (first | (with_reducible first | exact HB.out | apply below_alloc | apply pw_below_drewN | apply below_drew1) | exact HB.out)) hb); clear HO147; clear HB; have HO147 := n0_; have HB := n1_; clear n0_ n1_; (try clear hb); (try clear hb2); (try clear hk); (try clear hi)) | ((with_reducible refine gate_callee (f := 12) rfl ?_); refine goesL_  (some 19) rfl rfl Try.func12 (by kernel_rfl) rfl #[.string (⟨#[48, 48, 55]⟩ : ByteArray)] rfl (by (try simp only [List.map_toArray, List.map_cons, List.map_nil]); first | done | rfl | (simp only [List.length_drop, List.length_take]; rfl)) ?_; (with_reducible refine (nNumber.calls (⟨#[48, 48, 55]⟩ : ByteArray) t150 t151 _ A3.out).mono ?_); rintro e w50 ⟨rfl, hb⟩; refine ⟨_, rfl, ?_⟩; have n0_ := Aside0.mk (Kd.R_below (by (with_reducible repeat (first | apply Kd.R_alloc | apply Kd.R_drewN | apply Kd.R_drew)); exact HO147.out) hb); have n1_ := Aside0.mk (below_step (by repeat (first | (with_reducible first | exact HB.out | apply below_alloc | apply pw_below_drewN | apply below_drew1) | exact HB.out)) hb); clear HO147; clear HB; have HO147 := n0_; have HB := n1_; clear n0_ n1_; (try clear hb); (try clear hb2); (try clear hk); (try clear hi)))
    go_ret
    exact ⟨by first | rfl | (simp [errW_none, errW_some] <;> rfl) | (simp [*, errW_none, errW_some] <;> rfl), by repeat (first | (with_reducible first | exact HB.out | apply below_alloc | apply pw_below_drewN | apply below_drew1) | exact HB.out)⟩

/-! ### scarfjointref01_text: function 36 -/
def scarfjointref01_text.f (a0_0 : Int) (a0_1 : ByteArray) (a0_2 : Int) : Option (ByteArray) := if a0_0 = 3 then (if 1 + a0_1.size ≤ 9223372036854775807 then (if 1 + a0_1.size + 1 ≤ 9223372036854775807 then (some (((⟨#[34]⟩ : ByteArray) ++ a0_1) ++ (⟨#[34]⟩ : ByteArray))) else (none)) else (none)) else (some a0_1)
set_option maxHeartbeats 8000000 in
set_option maxRecDepth 100000 in
theorem scarfjointref01_text.calls (a0_0 : Int) (a0_1 : ByteArray) (a0_2 : Int) (r : ByteArray) (w : World) (h : scarfjointref01_text.f a0_0 a0_1 a0_2 = some r) :
    Calls Try.prog 36 #[.agg #[.int .i64 a0_0, .string a0_1, .int .i64 a0_2]] w fun e w' => e = .returned (.string r) ∧ Below w.heap.size w w' := by
  have hu46 := Try.underlying46
  have HB := Aside0.mk (Below.refl w.heap.size w)
  have H : (if a0_0 = 3 then (if 1 + a0_1.size ≤ 9223372036854775807 then (if 1 + a0_1.size + 1 ≤ 9223372036854775807 then (some (((⟨#[34]⟩ : ByteArray) ++ a0_1) ++ (⟨#[34]⟩ : ByteArray))) else (none)) else (none)) else (some a0_1)) = some r := h
  clear h
  by_cases c2 : a0_0 = 3
  · rw [if_pos c2] at H
    have c2b0 : (a0_0 == 3) = true := beq_iff_eq.mpr c2
    have c2b1 : (a0_0 != 3) = false := bne_eq_false_iff_eq.mpr c2
    clear c2
    by_cases c3 : 1 + a0_1.size ≤ 9223372036854775807
    · rw [if_pos c3] at H
      have c3b0 := eq_true c3
      have c3b1 : decide (1 + a0_1.size ≤ 9223372036854775807) = true := decide_eq_true c3
      try have c3b2 : (9223372036854775807 < 1 + a0_1.size) = False := eq_false (Nat.not_lt.2 c3)
      by_cases c4 : 1 + a0_1.size + 1 ≤ 9223372036854775807
      · rw [if_pos c4] at H
        have c4b0 := eq_true c4
        have c4b1 : decide (1 + a0_1.size + 1 ≤ 9223372036854775807) = true := decide_eq_true c4
        try have c4b2 : (9223372036854775807 < 1 + a0_1.size + 1) = False := eq_false (Nat.not_lt.2 c4)
        obtain rfl := Option.some.inj H
        go_enter Try.func36, Try.ntmps36
        go_wp2_with (first | ((with_reducible refine gate_dst (N := 1) rfl ?_); refine box_event ?hg (N := 1) ?hd (cs := #[.int .i64 a0_0, .string a0_1, .int .i64 a0_2]) (t := 46) ?hr ?_; (case hd => rfl); (case hg => rfl); (case hr => first | (go_simp; done) | (go_simp; rfl)); intro gb154 hg w5 hbox hb; have n0_ := Aside0.mk (below_step (by repeat (first | (with_reducible first | exact HB.out | apply below_alloc | apply pw_below_drewN | apply below_drew1) | exact HB.out)) hb); have n1_ := Aside0.mk (hbox); have n2_ := Aside0.mk ((by rw [hg]; exact (below_size (by repeat (first | (with_reducible first | exact HB.out | apply below_alloc | apply pw_below_drewN | apply below_drew1) | exact HB.out))) : w.heap.size ≤ gb154)); have n3_ := Aside0.mk ((by rw [hg]; exact (below_size (by repeat (first | (with_reducible first | exact HB.out | apply below_alloc | apply pw_below_drewN | apply below_drew1) | exact HB.out))) : w.heap.size ≤ gb154)); clear HB; have HB := n0_; have BK154 := n1_; have GW154 := n2_; have GE154 := n3_; clear n0_ n1_ n2_ n3_; clear hb hbox hg; have hcz6_0 : w5.cell? ⟨gb154, 0, none⟩ = some (.int .i64 a0_0) := (blk_cell BK154.out 0).trans rfl; have hcz6_1 : w5.cell? ⟨gb154, 1, none⟩ = some (.string a0_1) := (blk_cell BK154.out 1).trans rfl; have hcz6_2 : w5.cell? ⟨gb154, 2, none⟩ = some (.int .i64 a0_2) := (blk_cell BK154.out 2).trans rfl; have hfz6_0 := blk_frozen BK154.out 0; have hfz6_1 := blk_frozen BK154.out 1; have hfz6_2 := blk_frozen BK154.out 2))
        go_ret
        exact ⟨by first | rfl | (simp [errW_none, errW_some] <;> rfl) | (simp [*, errW_none, errW_some] <;> rfl), by repeat (first | (with_reducible first | exact HB.out | apply below_alloc | apply pw_below_drewN | apply below_drew1 | refine below_set ?_ GE154.out) | exact HB.out)⟩
      · rw [if_neg c4] at H
        exact absurd H (by simp)
    · rw [if_neg c3] at H
      exact absurd H (by simp)
  · rw [if_neg c2] at H
    have c2b0 : (a0_0 == 3) = false := beq_eq_false_iff_ne.mpr c2
    have c2b1 : (a0_0 != 3) = true := bne_iff_ne.mpr c2
    obtain rfl := Option.some.inj H
    go_enter Try.func36, Try.ntmps36
    go_wp2_with (first | ((with_reducible refine gate_dst (N := 1) rfl ?_); refine box_event ?hg (N := 1) ?hd (cs := #[.int .i64 a0_0, .string a0_1, .int .i64 a0_2]) (t := 46) ?hr ?_; (case hd => rfl); (case hg => rfl); (case hr => first | (go_simp; done) | (go_simp; rfl)); intro gb154 hg w7 hbox hb; have n0_ := Aside0.mk (below_step (by repeat (first | (with_reducible first | exact HB.out | apply below_alloc | apply pw_below_drewN | apply below_drew1) | exact HB.out)) hb); have n1_ := Aside0.mk (hbox); have n2_ := Aside0.mk ((by rw [hg]; exact (below_size (by repeat (first | (with_reducible first | exact HB.out | apply below_alloc | apply pw_below_drewN | apply below_drew1) | exact HB.out))) : w.heap.size ≤ gb154)); have n3_ := Aside0.mk ((by rw [hg]; exact (below_size (by repeat (first | (with_reducible first | exact HB.out | apply below_alloc | apply pw_below_drewN | apply below_drew1) | exact HB.out))) : w.heap.size ≤ gb154)); clear HB; have HB := n0_; have BK154 := n1_; have GW154 := n2_; have GE154 := n3_; clear n0_ n1_ n2_ n3_; clear hb hbox hg; have hcz8_0 : w7.cell? ⟨gb154, 0, none⟩ = some (.int .i64 a0_0) := (blk_cell BK154.out 0).trans rfl; have hcz8_1 : w7.cell? ⟨gb154, 1, none⟩ = some (.string a0_1) := (blk_cell BK154.out 1).trans rfl; have hcz8_2 : w7.cell? ⟨gb154, 2, none⟩ = some (.int .i64 a0_2) := (blk_cell BK154.out 2).trans rfl; have hfz8_0 := blk_frozen BK154.out 0; have hfz8_1 := blk_frozen BK154.out 1; have hfz8_2 := blk_frozen BK154.out 2))
    go_ret
    exact ⟨by first | rfl | (simp [errW_none, errW_some] <;> rfl) | (simp [*, errW_none, errW_some] <;> rfl), by repeat (first | (with_reducible first | exact HB.out | apply below_alloc | apply pw_below_drewN | apply below_drew1 | refine below_set ?_ GE154.out) | exact HB.out)⟩

/-! ### scarfjointref01_letter: function 51 -/
def scarfjointref01_letter.f (a0 : Int) : Option (Bool) := if a0 ≥ 97 then (if a0 ≤ 122 then (some true) else (if a0 ≥ 65 then (some (decide (a0 ≤ 90))) else (some false))) else (if a0 ≥ 65 then (some (decide (a0 ≤ 90))) else (some false))
set_option maxHeartbeats 8000000 in
set_option maxRecDepth 100000 in
theorem scarfjointref01_letter.calls (a0 : Int) (r : Bool) (w : World) (h : scarfjointref01_letter.f a0 = some r) :
    Calls Try.prog 51 #[.int .u8 a0] w fun e w' => e = .returned (.bool r) ∧ Drawn0 w w' := by
  have H : (if a0 ≥ 97 then (if a0 ≤ 122 then (some true) else (if a0 ≥ 65 then (some (decide (a0 ≤ 90))) else (some false))) else (if a0 ≥ 65 then (some (decide (a0 ≤ 90))) else (some false))) = some r := h
  clear h
  by_cases c2 : a0 ≥ 97
  · rw [if_pos c2] at H
    have c2b0 : decide (97 ≤ a0) = true := decide_eq_true c2
    clear c2
    by_cases c3 : a0 ≤ 122
    · rw [if_pos c3] at H
      have c3b0 : decide (a0 ≤ 122) = true := decide_eq_true c3
      clear c3
      obtain rfl := Option.some.inj H
      go_enter Try.func51, Try.ntmps51
      go_wp2
      go_ret
      exact ⟨by first | rfl | (simp; done) | (simp [*]; done), by repeat (first | exact Drawn0.refl _ | apply Drawn0.step)⟩
    · rw [if_neg c3] at H
      have c3b0 : decide (a0 ≤ 122) = false := decide_eq_false c3
      clear c3
      by_cases c4 : a0 ≥ 65
      · rw [if_pos c4] at H
        have c4b0 : decide (65 ≤ a0) = true := decide_eq_true c4
        clear c4
        obtain rfl := Option.some.inj H
        go_enter Try.func51, Try.ntmps51
        go_wp2
        go_ret
        exact ⟨by first | rfl | (simp; done) | (simp [*]; done), by repeat (first | exact Drawn0.refl _ | apply Drawn0.step)⟩
      · rw [if_neg c4] at H
        have c4b0 : decide (65 ≤ a0) = false := decide_eq_false c4
        clear c4
        obtain rfl := Option.some.inj H
        go_enter Try.func51, Try.ntmps51
        go_wp2
        go_ret
        exact ⟨by first | rfl | (simp; done) | (simp [*]; done), by repeat (first | exact Drawn0.refl _ | apply Drawn0.step)⟩
  · rw [if_neg c2] at H
    have c2b0 : decide (97 ≤ a0) = false := decide_eq_false c2
    clear c2
    by_cases c5 : a0 ≥ 65
    · rw [if_pos c5] at H
      have c5b0 : decide (65 ≤ a0) = true := decide_eq_true c5
      clear c5
      obtain rfl := Option.some.inj H
      go_enter Try.func51, Try.ntmps51
      go_wp2
      go_ret
      exact ⟨by first | rfl | (simp; done) | (simp [*]; done), by repeat (first | exact Drawn0.refl _ | apply Drawn0.step)⟩
    · rw [if_neg c5] at H
      have c5b0 : decide (65 ≤ a0) = false := decide_eq_false c5
      clear c5
      obtain rfl := Option.some.inj H
      go_enter Try.func51, Try.ntmps51
      go_wp2
      go_ret
      exact ⟨by first | rfl | (simp; done) | (simp [*]; done), by repeat (first | exact Drawn0.refl _ | apply Drawn0.step)⟩

/-! ### scarfjointref01_digit: function 52 -/
def scarfjointref01_digit.f (a0 : Int) : Option (Bool) := if a0 ≥ 48 then (some (decide (a0 ≤ 57))) else (some false)
set_option maxHeartbeats 8000000 in
set_option maxRecDepth 100000 in
theorem scarfjointref01_digit.calls (a0 : Int) (r : Bool) (w : World) (h : scarfjointref01_digit.f a0 = some r) :
    Calls Try.prog 52 #[.int .u8 a0] w fun e w' => e = .returned (.bool r) ∧ Drawn0 w w' := by
  have H : (if a0 ≥ 48 then (some (decide (a0 ≤ 57))) else (some false)) = some r := h
  clear h
  by_cases c2 : a0 ≥ 48
  · rw [if_pos c2] at H
    have c2b0 : decide (48 ≤ a0) = true := decide_eq_true c2
    clear c2
    obtain rfl := Option.some.inj H
    go_enter Try.func52, Try.ntmps52
    go_wp2
    go_ret
    exact ⟨by first | rfl | (simp; done) | (simp [*]; done), by repeat (first | exact Drawn0.refl _ | apply Drawn0.step)⟩
  · rw [if_neg c2] at H
    have c2b0 : decide (48 ≤ a0) = false := decide_eq_false c2
    clear c2
    obtain rfl := Option.some.inj H
    go_enter Try.func52, Try.ntmps52
    go_wp2
    go_ret
    exact ⟨by first | rfl | (simp; done) | (simp [*]; done), by repeat (first | exact Drawn0.refl _ | apply Drawn0.step)⟩

end Go.Proofs.Ytkjikcmjcdlifaa.P
