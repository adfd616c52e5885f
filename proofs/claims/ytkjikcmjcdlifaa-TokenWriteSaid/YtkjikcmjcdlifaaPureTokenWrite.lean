/- The plain law of TokenWrite: what the walk computes answers true at all tokens whose number and texts the row admits. Proved: TokenWrite, where okA holds of each argument. -/
import Derived.Test.YtkjikcmjcdlifaaPx14
import Derived.Test.YtkjikcmjcdlifaaSpec
import Derived.Test.YtkjikcmjcdlifaaSpecB
namespace Go.Proofs.Ytkjikcmjcdlifaa.Pure
open Sj Go.RowKit Go.Proofs.Ytkjikcmjcdlifaa.P Go.Proofs.YtkjikcmjcdlifaaW.PrintWords Go.Proofs.YtkjikcmjcdlifaaW.PrintLast
set_option linter.unusedSimpArgs false
theorem awake_true : scarfjointlaw01_awake.f = some true := by decide +kernel
def okA (l : List S46) : Prop := l.length * 32 ≤ 140737488351232 ∧ ∀ t ∈ l, t.f1.size ≤ 140737488351232
theorem writeT_zero {l : List Tok} {b : Bs} (h : writeT l = (b, 0)) : l.length ≤ 4000 ∧ (∀ t ∈ l, right t.kind t.text = true) ∧ (joinA l).length ≤ 20000 ∧ b = joinA l := by
  unfold writeT at h
  split at h
  · simp at h
  · split at h
    · rename_i hr
      split at h
      · simp at h
      · simp only [Prod.mk.injEq, and_true] at h
        exact ⟨by omega, by simpa only [List.all_eq_true] using hr, by omega, h.symm⟩
    · simp at h
theorem few_of (l : List S46) (h : okA l) : ∃ b, nFew.f l = some b := by
  refine ⟨decide (l.length ≤ 300) && decide (sumS l ≤ 3000), ?_⟩
  rw [nFew.f, if_pos]
  intro t ht
  have := h.2 t ht
  unfold okT; omega
theorem TokenWrite (l0 : List S46) (h : okA l0) : ∃ k, scarfjointlaw01_TokenWrite.f k l0 = some true := by
  refine ⟨2, ?_⟩
  unfold scarfjointlaw01_TokenWrite.f
  rw [awake_true, Option.bind_some, if_pos rfl]
  obtain ⟨b, hb⟩ := few_of l0 h
  rw [hb, Option.bind_some, scarfjointlaw01_TokenWrite.j0]
  cases b
  · rw [if_pos (by simp), awake_true]; rfl
  · rw [if_neg (by simp), api_Token_19.f, if_pos (by have := h.1; omega), Option.bind_some, nWrite.f, if_pos (fun _ t ht => by have := h.2 t ht; unfold okT; omega), Option.bind_some, nrWrite.f, if_pos (fun _ t ht => by have := h.2 t ht; unfold okW; omega), Option.bind_some, if_pos rfl, if_pos rfl, scarfjointlaw01_TokenWrite.j1]
    cases hw : writeT (l0.map toT) with
    | mk bs c =>
    simp only [writeS, hw]
    by_cases hc : c = 0
    · subst hc
      obtain ⟨h1, h2, h3, rfl⟩ := writeT_zero hw
      obtain ⟨ts, ht, hk⟩ := lex_write _ h2 h1 h3
      rw [if_neg (by simp), nTokens.f, L_of, ht, Option.bind_some]
      simp only [mkR, if_true]
      have hl : ts.length = l0.length := by
        have := congrArg List.length hk
        simpa using this
      rw [nrSame.f, nSame.f, if_pos (by rw [List.length_map, hl]; have := h.1; omega)]
      have e1 : (ts.map mkS).map keyS = ts.map key := by rw [List.map_map]; rfl
      have e2 : l0.map keyS = (l0.map toT).map key := by rw [List.map_map]; rfl
      rw [e1, e2, hk]
      simp
    · rw [if_pos (by simpa using hc), if_pos trivial]
      simp
end Go.Proofs.Ytkjikcmjcdlifaa.Pure
