/- The plain law of TokenAgain: what the walk computes answers true at every argument of the statement. Proved: scarfjointlaw01_TokenAgain.Pure. -/
import Derived.Test.YtkjikcmjcdlifaaPx17
import Derived.Test.YtkjikcmjcdlifaaSpec
import Derived.Test.YtkjikcmjcdlifaaSpecB
namespace Go.Proofs.Ytkjikcmjcdlifaa.Pure
open Sj Go.RowKit Go.Proofs.Ytkjikcmjcdlifaa.P Go.Proofs.YtkjikcmjcdlifaaW.PrintWords Go.Proofs.YtkjikcmjcdlifaaW.PrintLast
set_option linter.unusedSimpArgs false
theorem awake_true : scarfjointlaw01_awake.f = some true := by decide +kernel
theorem okT_le {s : ByteArray} (h : s.size ≤ 140737488351232) : okT s := by unfold okT; omega
theorem okW_le {s : ByteArray} (h : s.size ≤ 140737488351232) : okW s := by unfold okW; omega
theorem mkS_key (l : List Tok) : (l.map mkS).map keyS = l.map key := by
  rw [List.map_map]; rfl
theorem mkS_toT (l : List Tok) : (l.map mkS).map toT = l := by
  rw [List.map_map]; exact (List.map_congr_left (fun _ _ => rfl)).trans (List.map_id l)
theorem TokenAgain : scarfjointlaw01_TokenAgain.Pure := by
  intro s hs
  refine ⟨1, ?_⟩
  unfold scarfjointlaw01_TokenAgain.f
  rw [awake_true, Option.bind_some, if_pos rfl, scarfjointlaw01_TokenAgain.j0]
  by_cases h1000 : (s.size : Int) > 1000
  · rw [if_pos (decide_eq_true h1000), awake_true]; rfl
  · rw [if_neg (by simpa using h1000), nTokens.f, Option.bind_some]
    cases hl : lex (L s) with
    | mk ts bc =>
    obtain ⟨b, c⟩ := bc
    by_cases hc : c = 0
    · subst hc
      have hb : b = 0 := lex_line hl
      subst hb
      obtain ⟨hw, hr, us, hu, hk⟩ := lex_again (L s) ts hl (by rw [L_len]; omega)
      simp only [mkR]
      rw [if_pos trivial, nWrite.f, if_pos, Option.bind_some]
      · simp only [writeS, mkS_toT, hw]
        rw [nTokens.f, L_of, hu, Option.bind_some, if_pos trivial]
        simp only [mkR]
        rw [if_pos trivial, npSame.f, nSame.f, if_pos, mkS_key, mkS_key, hk]
        · simp
        · have := lex_count (L s)
          rw [hl] at this
          rw [List.length_map]
          exact Nat.le_trans this (by omega)
      · intro _ t ht
        obtain ⟨x, hx, rfl⟩ := List.mem_map.1 ht
        have := right_len (hr x hx)
        have h2 : x.text.length ≤ (quo x.kind x.text).length := by unfold quo; split <;> simp; omega
        simp only [mkS]
        unfold okT
        have h3 : (⟨x.text.toArray⟩ : ByteArray).size = x.text.length := by rw [← L_len]
        omega
    · simp only [mkR, hc, if_false]
end Go.Proofs.Ytkjikcmjcdlifaa.Pure
