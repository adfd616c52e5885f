/- The plain law of TokenNames: what the walk computes answers true at every argument of the statement. Proved: scarfjointlaw01_TokenNames.Pure. -/
import Derived.Test.YtkjikcmjcdlifaaPx12
import Derived.Test.YtkjikcmjcdlifaaSpec
import Derived.Test.YtkjikcmjcdlifaaSpecB
namespace Go.Proofs.Ytkjikcmjcdlifaa.Pure
open Sj Go.RowKit Go.Proofs.Ytkjikcmjcdlifaa.P Go.Proofs.YtkjikcmjcdlifaaW.PrintWords Go.Proofs.YtkjikcmjcdlifaaW.PrintLast
set_option linter.unusedSimpArgs false
theorem awake_true : scarfjointlaw01_awake.f = some true := by decide +kernel
theorem okT_le {s : ByteArray} (h : s.size ≤ 140737488351232) : okT s := by unfold okT; omega
theorem okW_le {s : ByteArray} (h : s.size ≤ 140737488351232) : okW s := by unfold okW; omega
theorem TokenNames : scarfjointlaw01_TokenNames.Pure := by
  intro s hs
  refine ⟨2, ?_⟩
  unfold scarfjointlaw01_TokenNames.f
  rw [awake_true, Option.bind_some, if_pos rfl, scarfjointlaw01_TokenNames.j0]
  by_cases h100 : (s.size : Int) > 100
  · rw [if_pos (decide_eq_true h100), awake_true]; rfl
  · rw [if_neg (by simpa using h100), nIsName.f, if_pos (okT_le hs), nrIsName.f, if_pos (okW_le hs), Option.bind_some, Option.bind_some, if_neg (by simp), Option.bind_some, scarfjointlaw01_TokenNames.j1]
    cases hn : isName (L s)
    · rw [if_pos (by simp), nIsName.f, if_pos (okT_le hs), nrIsName.f, if_pos (okW_le hs)]; simp
    · rw [if_neg (by simp), nTokens.f, lex_name (L s) hn (by rw [L_len]; omega), Option.bind_some]
      simp only [mkR, if_true]
      rw [nEqual.f, if_pos (by simp)]
      simp [mkS, fullS]
end Go.Proofs.Ytkjikcmjcdlifaa.Pure
