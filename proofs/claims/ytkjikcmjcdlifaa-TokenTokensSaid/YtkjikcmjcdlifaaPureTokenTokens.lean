/- The plain law of TokenTokens: what the walk computes answers true at every argument of the statement. Proved: scarfjointlaw01_TokenTokens.Pure. -/
import Derived.Test.YtkjikcmjcdlifaaPx12
import Derived.Test.YtkjikcmjcdlifaaSpec
import Derived.Test.YtkjikcmjcdlifaaSpecB
namespace Go.Proofs.Ytkjikcmjcdlifaa.Pure
open Sj Go.RowKit Go.Proofs.Ytkjikcmjcdlifaa.P Go.Proofs.YtkjikcmjcdlifaaW.PrintWords Go.Proofs.YtkjikcmjcdlifaaW.PrintLast
set_option linter.unusedSimpArgs false
theorem awake_true : scarfjointlaw01_awake.f = some true := by decide +kernel
theorem okT_le {s : ByteArray} (h : s.size ≤ 140737488351232) : okT s := by unfold okT; omega
theorem okW_le {s : ByteArray} (h : s.size ≤ 140737488351232) : okW s := by unfold okW; omega
theorem TokenTokens : scarfjointlaw01_TokenTokens.Pure := by
  intro s hs
  refine ⟨1, ?_⟩
  unfold scarfjointlaw01_TokenTokens.f
  have hj : ∀ b, scarfjointlaw01_TokenTokens.j0 1 s b = some true := by
    intro b
    rw [scarfjointlaw01_TokenTokens.j0]
    cases b
    · rw [if_neg (by simp), nTokens.f, nrTokens.f, Option.bind_some, Option.bind_some]
      have hle : (mkR (lex (L s))).1.length ≤ 140737488355000 := by
        simp only [mkR, List.length_map]; have := Sj.lex_count (L s); omega
      rw [nEqual.f, if_pos hle, Option.bind_some]
      simp
    · rw [if_pos rfl, awake_true]; rfl
  rw [awake_true, Option.bind_some, if_pos rfl, hj, hj]
  simp
end Go.Proofs.Ytkjikcmjcdlifaa.Pure
