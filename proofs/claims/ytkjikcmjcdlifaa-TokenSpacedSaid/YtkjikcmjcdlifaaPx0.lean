/- Written by a program of this place (mk.py: the kit's print, turned). Proved here: each function of this text, called, computes what its plain function of Lean tells, wherever that tells something. -/
import Derived.Test.YtkjikcmjcdlifaaProg
import Derived.Below
import Derived.Deep.Draws
import Derived.Deep.AppendLies
import Derived.Maps.AppendAt
import Derived.OwnWalk
import Derived.Laws.BytesArg
import Derived.Laws.MakeOwn
import Derived.Laws.OwnMore
import Derived.Deep.OwnRows
import Derived.Tactics
import Derived.Lib.ConvBytes
import Derived.Laws.Slices
import Derived.WalkKit
import Derived.KernelRfl
import Derived.RowKit3
import Derived.Deep.LoopGhost
import Derived.Deep.QuietTactic
import Derived.BigQuiet
import Derived.WideLaws
import Derived.Deep.DeepCutAuto
import Derived.Deep.CutBlock
import Derived.Deep.RegionHeld3
import Derived.Laws.Rows
import Derived.Lib.AppendStr
import Derived.ArgAppend
import Derived.Laws.IdiomCopy
import Derived.OrdersHeld
import Derived.Laws.BitsLemmas
import Derived.RowKit
import Derived.Lib.Bytealg
import Derived.Shelf.Strings.BuilderK
import Derived.Lib.UnsafeStr
import Derived.Lib.MakeNoZero
import Derived.Laws.Externs
import Derived.IntWalk
import Derived.Lib.LazyBuf
import Derived.WalkSpells
import Derived.Test.YtkjikcmjcdlifaaShelf
import Derived.Test.YtkjikcmjcdlifaaSpec
import Derived.Test.YtkjikcmjcdlifaaWWords
import Derived.Test.YtkjikcmjcdlifaaWLast
import Derived.Test.YtkjikcmjcdlifaaWTab
import Derived.Test.YtkjikcmjcdlifaaWFour
import Derived.Test.YtkjikcmjcdlifaaWQPut
import Derived.Test.YtkjikcmjcdlifaaWApart
import Derived.Test.YtkjikcmjcdlifaaWArr
import Derived.Test.YtkjikcmjcdlifaaWZeros
import Derived.Test.YtkjikcmjcdlifaaWFoot
import Derived.Test.YtkjikcmjcdlifaaWKept
import Derived.Test.YtkjikcmjcdlifaaWShare
import Derived.Test.YtkjikcmjcdlifaaWN
import Derived.Test.YtkjikcmjcdlifaaWFootNe
import Derived.Test.YtkjikcmjcdlifaaWAt
import Derived.Test.YtkjikcmjcdlifaaWEqStruct
import Derived.Test.YtkjikcmjcdlifaaWRepsOne
import Derived.Test.YtkjikcmjcdlifaaWInv
import Derived.Test.YtkjikcmjcdlifaaWInvWords
import Derived.Test.YtkjikcmjcdlifaaWGuard
import Derived.Test.YtkjikcmjcdlifaaWNEv
import Derived.Test.YtkjikcmjcdlifaaWMore
namespace Go.Proofs.Ytkjikcmjcdlifaa.P
open Go.RowKit Go.Proofs.YtkjikcmjcdlifaaW.PrintWords Go.Proofs.YtkjikcmjcdlifaaW.PrintLast Go.Proofs.YtkjikcmjcdlifaaW.PrintMore
attribute [local go_sem] max2_int min2_int max_two min_two max_three min_three max_four min_four   -- for this text's walks alone
set_option linter.unusedVariables false
set_option linter.unusedSimpArgs false



def errW : Option Int → Value
  | none => .nilIface
  | some c => .iface 0 (.int .i64 c)
theorem errW_none : errW none = .nilIface := rfl
theorem errW_some (c : Int) : errW (some c) = .iface 0 (.int .i64 c) := rfl

/-! ### words of this place: a call through a variable that holds a known function -/
section
variable {P : Program} {ops : Array Oper} {rest : List Oper} {o : Oper} {a : Act} {Q : Exit → Act → World → Prop} {W : World}
/-- A call in a plain region through a variable that holds a function without captured variables. -/
theorem goesT_ {oi : Oper} {w : World} (N : Option Tmp) (hd : oi.dst = N) (hg : oi.guard = none) {t : Tmp} {f : FuncId} {fn : Func} {xs : Array Operand} {ts : Array TypeId} (hf : P.funcs[f]? = some fn) (hname : (fn.name == "runtime.NumGoroutine") = false) (hb : fn.body.isSome = true) (args : Array Value)
    (hop : oi.op = .call { callee := .value (.tmp t), args := xs, argTypes := ts }) (ht : a.eval (.tmp t) = .func (.func f) #[] #[]) (hargs : xs.map a.eval = args)
    (h : Calls P f args w fun e w' => ∃ v, e = .returned v ∧ wpList P ops Q rest (a.put N v) w') : wpList P ops Q (oi :: rest) a w := by
  refine wpList_plain hg fun K hK => ?_
  have he := enters_ hf hname hb args w
  have hrun : (execOp a.eval oi).run P w = .ok (.enter f args) w := by
    unfold execOp
    simp [hop, resolve, Deferred.ofValue, invoke, ht, hargs, he]
  unfold Oper.wp
  rw [hrun, Oper.upon_enter]
  refine h.mono fun e w'' hh => ?_
  obtain ⟨v, rfl, hk⟩ := hh
  subst hd
  exact hK _ _ hk
end
/-! ### strings as lists of bytes -/
abbrev L (s : ByteArray) : List UInt8 := s.data.toList
theorem L_len (s : ByteArray) : (L s).length = s.size := by rw [L, Array.length_toList]; rfl
theorem L_nil (s : ByteArray) : L s = [] ↔ s.size = 0 := by rw [← L_len]; exact List.eq_nil_iff_length_eq_zero
theorem L_inj {s t : ByteArray} (h : L s = L t) : s = t := by
  cases s with | mk a => cases t with | mk b => simp only [L] at h; rw [Array.toList_inj.1 h]
theorem L_extract (s : ByteArray) (a b : Nat) : L (s.extract a b) = ((L s).drop a).take (b - a) := Lib.extract_data s a b
theorem L_tail (s : ByteArray) (a : Nat) : L (s.extract a s.size) = (L s).drop a := by
  rw [L_extract, List.take_of_length_le]
  rw [List.length_drop, L_len]; omega
theorem L_head (s : ByteArray) (b : Nat) : L (s.extract 0 b) = (L s).take b := by rw [L_extract]; simp
theorem L_toList (s : ByteArray) : s.toList = L s := ByteArray.toList_eq s
theorem L_append (s t : ByteArray) : L (s ++ t) = L s ++ L t := by simp [L, ByteArray.data_append]
theorem L_of (l : List UInt8) : L ⟨l.toArray⟩ = l := rfl
theorem of_L (s : ByteArray) : (⟨(L s).toArray⟩ : ByteArray) = s := rfl
theorem bt_nat (s : ByteArray) (i : Nat) (h : i < (L s).length) : bt s (i : Int) = (((L s)[i]).toNat : Int) := by
  have h' : ((i : Int).toNat) < s.size := by rw [← L_len]; simpa using h
  rw [← bt_at s (i : Int) h']
  simp only [Int.toNat_natCast]
  rfl
theorem bt_cons {s : ByteArray} {c : UInt8} {t : List UInt8} (h : L s = c :: t) : bt s 0 = (c.toNat : Int) := by
  have := bt_nat s 0 (by rw [h]; simp)
  simpa [h] using this
theorem size_cons {s : ByteArray} {c : UInt8} {t : List UInt8} (h : L s = c :: t) : s.size = t.length + 1 := by rw [← L_len, h]; rfl
theorem w64 {x : Int} (h : -9223372036854775808 ≤ x) (h' : x ≤ 9223372036854775807) : wrap64 x = x := by unfold wrap64; omega
theorem u8_eq (c : UInt8) (n : Nat) (hn : n < 256) : ((c.toNat : Int) = (n : Int)) ↔ c = UInt8.ofNat n := by
  constructor
  · intro h
    apply UInt8.toNat_inj.1
    rw [UInt8.toNat_ofNat']
    omega
  · intro h
    rw [h, UInt8.toNat_ofNat']
    omega
def okS (s : ByteArray) : Prop := s.size ≤ 140737488355328
instance (s : ByteArray) : Decidable (okS s) := inferInstanceAs (Decidable (_ ≤ _))
open Sj in
/-- A loop that counts bytes: 'for n < len(s) && ok(s[n])'. -/
theorem run_gen {lf : Nat → ByteArray → Int → Option Int} {pf : Int → Option Bool} {p : UInt8 → Bool}
    (hlf : ∀ k s x, lf (k + 1) s x = if x < (s.size : Int) then (if 0 ≤ x then ((pf (bt s x)).bind fun t => (if t = true then (lf k s (wrap64 (x + 1))) else (some x))) else (none)) else (some x))
    (hpf : ∀ c : UInt8, pf (c.toNat : Int) = some (p c)) (s : ByteArray) (hs : okS s) : ∀ (d k i : Nat), s.size - i = d → i ≤ s.size → d < k → lf k s (i : Int) = some ((i + runB p ((L s).drop i) : Nat) : Int) := by
  intro d
  induction d with
  | zero =>
    intro k i hd hi hk
    obtain ⟨k, rfl⟩ : ∃ m, k = m + 1 := ⟨k - 1, by omega⟩
    have e : i = s.size := by omega
    rw [hlf, if_neg (by omega), List.drop_of_length_le (by rw [L_len]; omega)]
    simp [runB]
  | succ d ih =>
    intro k i hd hi hk
    obtain ⟨k, rfl⟩ : ∃ m, k = m + 1 := ⟨k - 1, by omega⟩
    have hlt : i < (L s).length := by rw [L_len]; omega
    have hw : wrap64 ((i : Int) + 1) = ((i + 1 : Nat) : Int) := by
      unfold okS at hs
      rw [w64 (by omega) (by omega)]; rfl
    rw [hlf, if_pos (by rw [L_len] at hlt; omega), if_pos (by omega), bt_nat s i hlt, hpf, Option.bind_some, hw]
    rw [List.drop_eq_getElem_cons hlt]
    by_cases hc : p (L s)[i] = true
    · rw [if_pos hc, ih k (i + 1) (by omega) (by omega) (by omega)]
      simp only [runB, hc, if_true]
      congr 1
      omega
    · rw [if_neg hc]
      simp only [runB, hc]
      simp

theorem info9 : (Try.prog.info? 9).map (fun i => (i.zero, i.size, i.bytes)) = some (some (.string ⟨#[]⟩), 1, 16) := by kernel_rfl
theorem info46 : (Try.prog.info? 46).map (fun i => (i.zero, i.size, i.bytes)) = some (some (.agg #[(.int .i64 0), (.string ⟨#[]⟩), (.int .i64 0)]), 3, 32) := by kernel_rfl
-- the values' own types
/-! #### struct type 46 -/
structure S46 where
  f0 : Int
  f1 : ByteArray
  f2 : Int
def z46 : S46 := ⟨(0 : Int), (⟨#[]⟩ : ByteArray), (0 : Int)⟩
def k46 : Kd S46 := Kd.iso (Kd.pair (Kd.int .i64) (Kd.pair Kd.string (Kd.int .i64))) (fun x : S46 => (x.f0, x.f1, x.f2))
theorem k46_open {w : World} {x : S46} {cs : List Value} (h : k46.K w x cs) : cs = [.int .i64 x.f0, .string x.f1, .int .i64 x.f2] := by
  obtain ⟨_, _, rfl, rfl, ⟨_, _, rfl, rfl, rfl⟩⟩ := h
  exact rfl
theorem k46_openM {w : World} {base : Nat} {ok : Nat → Prop} {x : S46} {cs : List Value} (h : k46.M w base ok x cs) : cs = [.int .i64 x.f0, .string x.f1, .int .i64 x.f2] := by
  obtain ⟨_, _, rfl, rfl, ⟨_, _, rfl, rfl, rfl⟩⟩ := h
  exact rfl
theorem k46_mk (w : World) (x : S46)  : k46.K w x [.int .i64 x.f0, .string x.f1, .int .i64 x.f2] := ⟨[.int .i64 x.f0], [.string x.f1, .int .i64 x.f2], rfl, rfl, ⟨[.string x.f1], [.int .i64 x.f2], rfl, rfl, rfl⟩⟩
theorem k46_mkM (w : World) (base : Nat) (ok : Nat → Prop) (x : S46)  : k46.M w base ok x [.int .i64 x.f0, .string x.f1, .int .i64 x.f2] := ⟨[.int .i64 x.f0], [.string x.f1, .int .i64 x.f2], rfl, rfl, ⟨[.string x.f1], [.int .i64 x.f2], rfl, rfl, rfl⟩⟩
def rd_T46 (xs : List S46) (i : Int) : S46 := xs.getD i.toNat z46
theorem at_T46 {w : World} {A : Option Addr} {n : Nat} {xs : List S46} (h : Kd.C k46 w A n xs) (i : Int) (h0 : 0 ≤ i) (h1 : i < n) : ∃ ad , A = some ad ∧ w.cell? (ad.add (i.toNat * 3)) = some (.int .i64 (rd_T46 xs i).f0) ∧ w.cell? ⟨(ad.add (i.toNat * 3)).block, (ad.add (i.toNat * 3)).off + 1, none⟩ = some (.string (rd_T46 xs i).f1) ∧ w.cell? ⟨(ad.add (i.toNat * 3)).block, (ad.add (i.toNat * 3)).off + 2, none⟩ = some (.int .i64 (rd_T46 xs i).f2) := by
  obtain ⟨ad, c, e, _, hK, hc0⟩ := Kd.C_get h z46 i h0 h1
  have hc : ∀ j u, c[j]? = some u → w.cell? (ad.add (i.toNat * 3 + j)) = some u := hc0
  obtain rfl := k46_open hK
  exact ⟨ad, e, hc 0 _ rfl, by rw [← add_field _ _ 1 (by omega)]; exact hc 1 _ rfl, by rw [← add_field _ _ 2 (by omega)]; exact hc 2 _ rfl⟩

end Go.Proofs.Ytkjikcmjcdlifaa.P
