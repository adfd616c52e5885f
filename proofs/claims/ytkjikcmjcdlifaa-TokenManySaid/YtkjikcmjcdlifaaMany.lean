/- The walk of the law TokenMany. Proved: many_law: called with any two numbers of its types it answers true and leaves older memory as it was. -/
import Derived.Test.YtkjikcmjcdlifaaPx4
import Derived.Test.YtkjikcmjcdlifaaPx5
import Derived.Test.YtkjikcmjcdlifaaSpecM
namespace Go.Proofs.Ytkjikcmjcdlifaa.P
open Go.RowKit Go.Proofs.YtkjikcmjcdlifaaW.PrintWords Go.Proofs.YtkjikcmjcdlifaaW.PrintLast Go.Proofs.YtkjikcmjcdlifaaW.PrintMore
set_option linter.unusedVariables false
set_option linter.unusedSimpArgs false
theorem awake_t : scarfjointlaw01_awake.f = some true := by decide +kernel
theorem a2 (i : Nat) : (⟨#[97, 59]⟩ : ByteArray).extract (i % 2) (i % 2 + 1) = ⟨#[if i % 2 = 0 then 97 else 59]⟩ := by
  rcases Nat.mod_two_eq_zero_or_one i with h | h <;> rw [h] <;> decide +kernel
open Sj in
set_option maxHeartbeats 4000000 in
set_option maxRecDepth 100000 in
theorem many_walk (n r : Nat) (hn : n ≤ 65535) (hr : r ≤ 255) (w : World) : Calls Try.prog 4 #[.int .u16 n, .int .u8 r] w fun e w' => e = .returned (.bool true) ∧ Below w.heap.size w w' := by
  go_enter Try.func4, Try.ntmps4
  go_wp2_with fail
  refine (scarfjointlaw01_awake.calls true _ awake_t).mono ?_
  rintro e w1 ⟨rfl, hb1⟩
  have HB0 := Aside0.mk (bld_new hb1)
  clear hb1
  go_wp2
  obtain ⟨b, hbb⟩ : ∃ b, b = w1.heap.size := ⟨_, rfl⟩
  obtain ⟨wn, hwn⟩ : ∃ wn, wn = w1.alloc (Obj.cells #[Value.pointer none, Value.slice none 0 0] 31) := ⟨_, rfl⟩
  rw [← hwn, ← hbb] at HB0 ⊢
  clear hbb hwn
  obtain ⟨c, hc⟩ : ∃ c : Nat, c = 3990 + n % 20 := ⟨_, rfl⟩
  obtain ⟨v, hv⟩ : ∃ v : Nat, v = 1 + r := ⟨_, rfl⟩
  have ec : (3990 + (n : Int) % 20) = (c : Int) := by omega
  have ev : (1 + (r : Int)) = (v : Int) := by omega
  rw [ec, ev]
  have HC := Aside0.mk (show c ≤ 4009 by omega)
  have HV := Aside0.mk (show 0 < v ∧ v ≤ 256 by omega)
  clear ec ev hc hv
  go_loopw [22] (fun x w' => ∃ (i : Nat), x = .int .i64 i ∧ Aside0 (i ≤ c) ∧ Aside0 (Bld w w' b (restM v 0 i))) (fun x _ => c - (intOf x).toNat)
  case atStart => exact ⟨0, rfl, ⟨Nat.zero_le _⟩, HB0⟩
  case round =>
    obtain ⟨i, rfl, Hi, HB⟩ := hrel
    have hile := Hi.out
    by_cases hlt : i < c
    · have hd2 : decide ((i : Int) < (c : Int)) = true := decide_eq_true (by omega)
      have HLT := Aside0.mk hlt
      have hc4 := HC.out
      have hv0 : ¬ v = 0 := by have := HV.out; omega
      have HQ := Aside0.mk (show (restM v 0 i).length + 10 ≤ 140737488355000 by have := restM_len v i 0; have := HC.out; omega)
      have hqs : ∀ x : UInt8, (⟨#[x]⟩ : ByteArray).size = 1 := fun x => rfl
      by_cases h0 : 0 < i
      · by_cases hm : i % v = 0
        · have hb : (((i : Int) % (v : Int)) == 0) = true := by rw [beq_iff_eq]; omega
          have HM := Aside0.mk (show restM v 0 (i + 1) = restM v 0 i ++ [10] ++ [if i % 2 = 0 then 97 else 59] by rw [restM_succ, pieceM, Nat.zero_add, if_pos ⟨h0, hm⟩, List.append_assoc])
          clear hm
          go_wp2_with fail
          refine (bld_ws w wr b _ ⟨#[10]⟩ HB.out (by rw [hqs]; have := HQ.out; omega)).mono ?_
          rintro e w2 ⟨rfl, hB2, hk2⟩
          have HB2 := Aside0.mk hB2
          clear hB2 hk2
          go_wp2_with fail
          rw [a2]
          refine (bld_ws w w2 b _ ⟨#[if i % 2 = 0 then 97 else 59]⟩ HB2.out (by rw [hqs, List.length_append, L_len, hqs]; have := HQ.out; omega)).mono ?_
          rintro e w3 ⟨rfl, hB3, hk3⟩
          have HB3 := Aside0.mk hB3
          clear hB3 hk3
          go_wp2
          go_roundw
          case rel => exact ⟨i + 1, by go_num, ⟨by have := HLT.out; omega⟩, ⟨by rw [HM.out]; exact HB3.out⟩⟩
          case measure => have := HLT.out; simp [intOf]; omega
        · have hb : (((i : Int) % (v : Int)) == 0) = false := by rw [beq_eq_false_iff_ne]; omega
          have HM := Aside0.mk (show restM v 0 (i + 1) = restM v 0 i ++ [if i % 2 = 0 then 97 else 59] by rw [restM_succ, pieceM, Nat.zero_add, if_neg (fun h => hm h.2), List.nil_append])
          clear hm
          go_wp2_with fail
          rw [a2]
          refine (bld_ws w wr b _ ⟨#[if i % 2 = 0 then 97 else 59]⟩ HB.out (by rw [hqs]; have := HQ.out; omega)).mono ?_
          rintro e w3 ⟨rfl, hB3, hk3⟩
          have HB3 := Aside0.mk hB3
          clear hB3 hk3
          go_wp2
          go_roundw
          case rel => exact ⟨i + 1, by go_num, ⟨by have := HLT.out; omega⟩, ⟨by rw [HM.out]; exact HB3.out⟩⟩
          case measure => have := HLT.out; simp [intOf]; omega
      · have HM := Aside0.mk (show restM v 0 (i + 1) = restM v 0 i ++ [if i % 2 = 0 then 97 else 59] by rw [restM_succ, pieceM, Nat.zero_add, if_neg (fun h => h0 h.1), List.nil_append])
        go_wp2_with fail
        rw [a2]
        refine (bld_ws w wr b _ ⟨#[if i % 2 = 0 then 97 else 59]⟩ HB.out (by rw [hqs]; have := HQ.out; omega)).mono ?_
        rintro e w3 ⟨rfl, hB3, hk3⟩
        have HB3 := Aside0.mk hB3
        clear hB3 hk3
        go_wp2
        go_roundw
        case rel => exact ⟨i + 1, by go_num, ⟨by have := HLT.out; omega⟩, ⟨by rw [HM.out]; exact HB3.out⟩⟩
        case measure => have := HLT.out; simp [intOf]; omega
    · have hd2 : decide ((i : Int) < (c : Int)) = false := decide_eq_false (by omega)
      obtain rfl : i = c := by omega
      go_wp2_with fail
      refine (bld_str w wr b _ HB.out).mono ?_
      rintro e w3 ⟨rfl, hB3, _⟩
      have HB3 := Aside0.mk hB3
      clear hB3
      have hv0 : ¬ v = 0 := by have := HV.out; omega
      have hlx := lex_many v i (by omega) (by have := HC.out; omega)
      go_wp2_with fail
      by_cases h4 : i ≤ 4000
      · rw [if_pos h4] at hlx
        obtain ⟨ts, hl, hz⟩ := hlx
        refine (nTokens.calls ⟨(restM v 0 i).toArray⟩ (ts.map mkS) 0 0 w3 (by rw [nTokens.f, L_of, hl]; rfl)).mono ?_
        rintro e w4 ⟨v0, rfl, hR, hb4⟩
        have HB4 := Aside0.mk (below_then HB3.out.2 (by have := HB3.out.2.size; exact this) hb4)
        clear hb4 hl
        have h40 : ((i : Int) ≤ 4000) := by omega
        have hzl : (ts.map mkS).length = i := by rw [List.length_map]; exact hz
        obtain ⟨A_, c_, rfl, _, _⟩ := Kd.R_reads hR
        rw [hzl]
        clear hR
        go_wp2
        go_ret
        exact ⟨rfl, HB4.out⟩
      · rw [if_neg h4] at hlx
        obtain ⟨q4, hq4⟩ : ∃ q4 : Nat, q4 = 4000 / v := ⟨_, rfl⟩
        have hle : q4 ≤ 4000 := by rw [hq4]; exact Nat.div_le_self _ _
        have hqd : (4000 : Int) / (v : Int) = (q4 : Int) := by rw [hq4]; rfl
        have hqt : Int.tdiv (4000 : Int) (v : Int) = (q4 : Int) := by rw [Int.tdiv_eq_ediv_of_nonneg (by omega)]; exact hqd
        rw [← hq4] at hlx
        refine (nTokens.calls ⟨(restM v 0 i).toArray⟩ [] ((1 + q4 : Nat) : Int) 3 w3 (by rw [nTokens.f, L_of, hlx]; rfl)).mono ?_
        rintro e w4 ⟨v0, rfl, hR, hb4⟩
        have HB4 := Aside0.mk (below_then HB3.out.2 (by have := HB3.out.2.size; exact this) hb4)
        clear hb4 hlx
        have h40 : ¬ ((i : Int) ≤ 4000) := by omega
        obtain ⟨A_, c_, rfl, _, _⟩ := Kd.R_reads hR
        clear hR hq4
        rw [show ([] : List S46).length = 0 from rfl, show ((1 + q4 : Nat) : Int) = 1 + (q4 : Int) by omega]
        go_wp2
        go_ret
        exact ⟨rfl, HB4.out⟩
theorem many_law (n r : Int) (w : World) (hn : (Lit.int .u16 n).wf = true) (hr : (Lit.int .u8 r).wf = true) : Calls Try.prog 4 #[.int .u16 n, .int .u8 r] w fun e w' => e = .returned (.bool true) ∧ Below w.heap.size w w' := by
  have e1 : IntKind.u16.min = 0 := rfl
  have e2 : IntKind.u16.max = 65535 := rfl
  have e3 : IntKind.u8.min = 0 := rfl
  have e4 : IntKind.u8.max = 255 := rfl
  simp only [Lit.wf, Bool.and_eq_true, decide_eq_true_eq] at hn hr
  obtain ⟨n, rfl⟩ := Int.eq_ofNat_of_zero_le (show 0 ≤ n by omega)
  obtain ⟨r, rfl⟩ := Int.eq_ofNat_of_zero_le (show 0 ≤ r by omega)
  exact many_walk n r (by omega) (by omega) w
end Go.Proofs.Ytkjikcmjcdlifaa.P
