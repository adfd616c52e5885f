/- The plain law of TokenNumber: what the walk computes answers true at every argument of the statement. Proved: scarfjointlaw01_TokenNumber.Pure. -/
import Derived.Test.YtkjikcmjcdlifaaPx8
import Derived.Test.YtkjikcmjcdlifaaSpec
import Derived.Test.YtkjikcmjcdlifaaSpecB
namespace Go.Proofs.Ytkjikcmjcdlifaa.Pure
open Sj Go.RowKit Go.Proofs.Ytkjikcmjcdlifaa.P Go.Proofs.YtkjikcmjcdlifaaW.PrintWords Go.Proofs.YtkjikcmjcdlifaaW.PrintLast
set_option linter.unusedSimpArgs false
theorem awake_true : scarfjointlaw01_awake.f = some true := by decide +kernel
theorem okT_le {s : ByteArray} (h : s.size ≤ 140737488351232) : okT s := by unfold okT; omega
theorem okW_le {s : ByteArray} (h : s.size ≤ 140737488351232) : okW s := by unfold okW; omega
theorem TokenNumber : scarfjointlaw01_TokenNumber.Pure := by
  intro s hs
  refine ⟨1, ?_⟩
  unfold scarfjointlaw01_TokenNumber.f
  rw [awake_true, Option.bind_some, if_pos rfl, scarfjointlaw01_TokenNumber.j0]
  by_cases h100 : (s.size : Int) > 100
  · rw [if_pos (decide_eq_true h100), awake_true]; rfl
  · rw [if_neg (by simpa using h100), nNumber.f, if_pos (okT_le hs), nrNumber.f, if_pos (okW_le hs), Option.bind_some, Option.bind_some, if_pos rfl, if_pos rfl]
    by_cases h0 : (number (L s)).2 = 0
    · rw [if_pos h0]
      by_cases h8 : (s.size : Int) > 8
      · rw [if_pos h8]; simp
      · rw [if_neg h8, if_pos (by omega)]
        have hz : (((⟨#[48]⟩ : ByteArray) ++ s)).size = s.size + 1 := by rw [← L_len, L_append, List.length_append, L_len s]; have : (L (⟨#[48]⟩ : ByteArray)).length = 1 := rfl; omega
        have hL : L ((⟨#[48]⟩ : ByteArray) ++ s) = 48 :: L s := by rw [L_append]; rfl
        rw [nNumber.f, if_pos (by unfold okT; omega), Option.bind_some, hL, number_zero _ h0 (by rw [L_len]; omega), if_pos h0]
        simp
    · rw [if_neg h0]; simp
end Go.Proofs.Ytkjikcmjcdlifaa.Pure
