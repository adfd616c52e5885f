/- The plain law of TokenSame: what the walk computes answers true at all tokens whose number and texts the row admits. Proved: TokenSame, where okA holds of each argument. -/
import Derived.Test.YtkjikcmjcdlifaaPx18
import Derived.Test.YtkjikcmjcdlifaaSpec
import Derived.Test.YtkjikcmjcdlifaaSpecB
namespace Go.Proofs.Ytkjikcmjcdlifaa.Pure
open Sj Go.RowKit Go.Proofs.Ytkjikcmjcdlifaa.P Go.Proofs.YtkjikcmjcdlifaaW.PrintWords Go.Proofs.YtkjikcmjcdlifaaW.PrintLast
set_option linter.unusedSimpArgs false
theorem awake_true : scarfjointlaw01_awake.f = some true := by decide +kernel
def okA (l : List S46) : Prop := l.length * 32 ≤ 140737488351232 ∧ ∀ t ∈ l, t.f1.size ≤ 140737488351232
theorem few_of (l : List S46) (h : okA l) : ∃ b, nFew.f l = some b := by
  refine ⟨decide (l.length ≤ 300) && decide (sumS l ≤ 3000), ?_⟩
  rw [nFew.f, if_pos]
  intro t ht
  have := h.2 t ht
  unfold okT; omega
theorem TokenSame (l0 l1 : List S46) (h0 : okA l0) (h1 : okA l1) : ∃ k, scarfjointlaw01_TokenSame.f k l0 l1 = some true := by
  refine ⟨1, ?_⟩
  have ns : ∀ a b, okA a → npSame.f a b = some (decide (a.map keyS = b.map keyS)) := by
    intro a b ha
    rw [npSame.f, nSame.f, if_pos (by have := ha.1; omega)]
  have hj : ∀ b, scarfjointlaw01_TokenSame.j0 1 l0 l1 b = some true := by
    intro b
    rw [scarfjointlaw01_TokenSame.j0]
    cases b
    · rw [if_neg (by simp), ns _ _ h0, Option.bind_some]
      have : nrSame.f l0 l1 = npSame.f l0 l1 := rfl
      rw [this, ns _ _ h0, Option.bind_some, if_pos (by simp), ns _ _ h1, Option.bind_some, Option.bind_some, if_pos (by
        rw [beq_iff_eq, decide_eq_decide]; exact eq_comm), api_Token_19.f, if_pos (by have := h0.1; omega), Option.bind_some, ns _ _ h0]
      simp
    · rw [if_pos rfl, awake_true]; rfl
  unfold scarfjointlaw01_TokenSame.f
  rw [awake_true, Option.bind_some, if_pos rfl]
  obtain ⟨b, hb⟩ := few_of l0 h0
  rw [hb, Option.bind_some]
  cases b
  · rw [if_neg (by simp), hj]
  · rw [if_pos rfl]
    obtain ⟨b, hb⟩ := few_of l1 h1
    rw [hb, Option.bind_some, hj]
end Go.Proofs.Ytkjikcmjcdlifaa.Pure
