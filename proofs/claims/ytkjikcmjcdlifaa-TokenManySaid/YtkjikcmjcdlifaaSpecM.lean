/- The plain law of the text of many tokens. Proved: lex_many: up to 4000 tokens are read, one more is too large in its line. -/
import Derived.Test.YtkjikcmjcdlifaaSpecB
namespace Sj
/-! ### the text of many tokens -/
def pieceM (w i : Nat) : Bs := (if 0 < i ∧ i % w = 0 then [10] else []) ++ [if i % 2 = 0 then 97 else 59]
def restM (w : Nat) : Nat → Nat → Bs
  | _, 0 => []
  | i, d + 1 => pieceM w i ++ restM w (i + 1) d
theorem restM_succ (w : Nat) : ∀ (d i : Nat), restM w i (d + 1) = restM w i d ++ pieceM w (i + d)
  | 0, i => by simp [restM]
  | d + 1, i => by
    rw [restM, restM_succ w d (i + 1), restM, List.append_assoc, show i + 1 + d = i + (d + 1) by omega]
theorem pieceM_len (w i : Nat) : 1 ≤ (pieceM w i).length ∧ (pieceM w i).length ≤ 2 := by
  unfold pieceM
  split <;> simp
theorem restM_len (w : Nat) : ∀ (d i : Nat), d ≤ (restM w i d).length ∧ (restM w i d).length ≤ 2 * d
  | 0, i => by simp [restM]
  | d + 1, i => by
    have h1 := restM_len w d (i + 1)
    have h2 := pieceM_len w i
    rw [restM, List.length_append]; omega
theorem nxt_semi (t : Bs) : nxt (59 :: t) = (4, 1, 0) := by
  have e2 : ¬ (59 :: t).take 2 ∈ pairsB := by
    intro hm
    have : ∀ y ∈ pairsB, y.head? ≠ some (59 : UInt8) := by decide
    exact this _ hm rfl
  simp only [nxt]
  rw [if_neg (by decide), if_neg (by decide), if_neg (by decide), if_neg e2, if_pos (by decide)]
theorem nxt_a (t : Bs) (h : ∀ c, t.head? = some c → partB c = false) : nxt (97 :: t) = (1, 1, 0) := by
  have e : runB partB (97 :: t) = 1 := by
    cases t with
    | nil => rfl
    | cons c t =>
      have := h c rfl
      simp [runB, this]
      decide
  simp only [nxt]
  rw [if_pos (by decide), e, if_neg (by decide)]
theorem restM_head (w i d : Nat) (hi : i % 2 = 0) : ∀ c, (restM w (i + 1) d).head? = some c → partB c = false := by
  intro c hc
  cases d with
  | zero => simp [restM] at hc
  | succ d =>
    have ho : ¬ (i + 1) % 2 = 0 := by omega
    rw [restM, pieceM, if_neg ho] at hc
    split at hc
    · simp at hc; rw [← hc]; decide
    · simp at hc; rw [← hc]; decide
def lnM (w i : Nat) : Nat := if i = 0 then 1 else 1 + (i - 1) / w
theorem lnM_step (w i : Nat) : (if 0 < i ∧ i % w = 0 then lnM w i + 1 else lnM w i) = 1 + i / w := by
  unfold lnM
  cases i with
  | zero => simp
  | succ i =>
    have hd := Nat.succ_div (a := i) (b := w)
    by_cases hm : (i + 1) % w = 0
    · rw [if_pos ⟨by omega, hm⟩, if_neg (by omega), hd, if_pos (Nat.dvd_of_mod_eq_zero hm)]
      simp; omega
    · rw [if_neg (by simp [hm]), if_neg (by omega), hd, if_neg (fun h => hm (Nat.mod_eq_zero_of_dvd h))]
      simp
/-- One round of the lexer over one piece. -/
theorem lexF_piece (w i d f : Nat) (line : Int) (out : List Tok) :
    ∃ f', f' + (pieceM w i).length = f + 2 ∧ ∃ t : Tok, ∃ tl : Int, tl = (if 0 < i ∧ i % w = 0 then line + 1 else line) ∧
      lexF (f + 2) (pieceM w i ++ restM w (i + 1) d) line out = (if out.length = 4000 then ([], tl, 3) else lexF f' (restM w (i + 1) d) tl (out ++ [t])) := by
  have one : ∀ (g : Nat) (tl : Int), ∃ t : Tok, lexF (g + 1) ((if i % 2 = 0 then 97 else 59) :: restM w (i + 1) d) tl out = (if out.length = 4000 then ([], tl, 3) else lexF g (restM w (i + 1) d) tl (out ++ [t])) := by
    intro g tl
    by_cases hp : i % 2 = 0
    · rw [if_pos hp]
      refine ⟨⟨1, txt 1 1 (97 :: restM w (i + 1) d), tl⟩, ?_⟩
      simp only [lexF]
      rw [if_neg (by decide), if_neg (by decide), if_neg (by decide), nxt_a _ (restM_head w i d hp), if_pos rfl]
      simp
    · rw [if_neg hp]
      refine ⟨⟨4, txt 4 1 (59 :: restM w (i + 1) d), tl⟩, ?_⟩
      simp only [lexF]
      rw [if_neg (by decide), if_neg (by decide), if_neg (by decide), nxt_semi, if_pos rfl]
      simp
  by_cases hn : 0 < i ∧ i % w = 0
  · obtain ⟨t, ht⟩ := one f (line + 1)
    refine ⟨f, by rw [pieceM, if_pos hn]; rfl, t, line + 1, by rw [if_pos hn], ?_⟩
    rw [pieceM, if_pos hn, ← ht]
    simp only [List.cons_append, List.nil_append]
    show lexF (f + 1 + 1) _ _ _ = _
    rw [lexF]
    simp only [if_true]
  · obtain ⟨t, ht⟩ := one (f + 1) line
    refine ⟨f + 1, by rw [pieceM, if_neg hn]; rfl, t, line, by rw [if_neg hn], ?_⟩
    rw [pieceM, if_neg hn, ← ht]
    simp only [List.nil_append, List.cons_append]
theorem lex_many_few (w : Nat) (hw : 0 < w) : ∀ (d i f : Nat) (out : List Tok), out.length = i → i + d ≤ 4000 → (restM w i d).length < f →
    ∃ ts, lexF f (restM w i d) (lnM w i : Nat) out = (ts, 0, 0) ∧ ts.length = i + d
  | 0, i, f, out, h, _, hf => by
    obtain ⟨f, rfl⟩ : ∃ m, f = m + 1 := ⟨f - 1, by omega⟩
    exact ⟨out, by simp [restM, lexF], by omega⟩
  | d + 1, i, f, out, h, hd, hf => by
    have hz : (restM w i (d + 1)).length = (pieceM w i).length + (restM w (i + 1) d).length := by rw [restM, List.length_append]
    have hp := pieceM_len w i
    obtain ⟨f, rfl⟩ : ∃ m, f = m + 2 := ⟨f - 2, by omega⟩
    obtain ⟨f', hf', t, tl, htl, hl⟩ := lexF_piece w i d f (lnM w i : Nat) out
    have htl2 : tl = (lnM w (i + 1) : Nat) := by
      have := lnM_step w i
      rw [htl, show lnM w (i + 1) = 1 + i / w by simp [lnM], ← this]
      split <;> simp
    rw [restM, hl, if_neg (by omega), htl2]
    obtain ⟨ts, h1, h2⟩ := lex_many_few w hw d (i + 1) f' (out ++ [t]) (by simp; omega) (by omega) (by omega)
    exact ⟨ts, h1, by omega⟩
theorem lex_many_more (w : Nat) (hw : 0 < w) : ∀ (d i f : Nat) (out : List Tok), out.length = i → i ≤ 4000 → 4000 < i + d → (restM w i d).length < f →
    lexF f (restM w i d) (lnM w i : Nat) out = ([], ((1 + 4000 / w : Nat) : Int), 3)
  | 0, i, f, out, h, _, _, hf => by omega
  | d + 1, i, f, out, h, hi, hd, hf => by
    have hz : (restM w i (d + 1)).length = (pieceM w i).length + (restM w (i + 1) d).length := by rw [restM, List.length_append]
    have hp := pieceM_len w i
    obtain ⟨f, rfl⟩ : ∃ m, f = m + 2 := ⟨f - 2, by omega⟩
    obtain ⟨f', hf', t, tl, htl, hl⟩ := lexF_piece w i d f (lnM w i : Nat) out
    have htl2 : tl = ((1 + i / w : Nat) : Int) := by
      have := lnM_step w i
      rw [htl, ← this]
      split <;> simp
    rw [restM, hl]
    by_cases h4 : out.length = 4000
    · rw [if_pos h4, htl2, show i = 4000 by omega]
    · rw [if_neg h4, htl2]
      have := lex_many_more w hw d (i + 1) f' (out ++ [t]) (by simp; omega) (by omega) (by omega) (by omega)
      rwa [show lnM w (i + 1) = 1 + i / w by simp [lnM]] at this
/-- The law of many tokens. -/
theorem lex_many (w n : Nat) (hw : 0 < w) (hn : n ≤ 9000) :
    if n ≤ 4000 then ∃ ts, lex (restM w 0 n) = (ts, 0, 0) ∧ ts.length = n else lex (restM w 0 n) = ([], ((1 + 4000 / w : Nat) : Int), 3) := by
  have hl := restM_len w n 0
  have e : lex (restM w 0 n) = lexF ((restM w 0 n).length + 1) (restM w 0 n) (lnM w 0 : Nat) [] := by
    unfold lex
    rw [if_neg (by omega)]
    rfl
  rw [e]
  split
  · rename_i h4
    obtain ⟨ts, h1, h2⟩ := lex_many_few w hw n 0 ((restM w 0 n).length + 1) [] rfl (by omega) (by omega)
    exact ⟨ts, h1, by omega⟩
  · rename_i h4
    exact lex_many_more w hw n 0 ((restM w 0 n).length + 1) [] rfl (by omega) (by omega) (by omega)
end Sj
