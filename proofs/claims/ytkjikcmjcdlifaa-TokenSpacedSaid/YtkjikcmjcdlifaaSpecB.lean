/- The plain law of tokens: what is written is read back; what is read is right. -/
import Derived.Test.YtkjikcmjcdlifaaSpec
namespace Sj

/-! ### what is read back -/
/-- What may stand behind a token without being taken into it: nothing, or a byte of white space or a comment's begin. -/
def sepB (c : UInt8) : Bool := c == 10 || c == 32 || c == 9 || c == 13 || c == 35
def sepStart (l : Bs) : Prop := ∀ c, l.head? = some c → sepB c = true
theorem sep_cases {c : UInt8} (h : sepB c = true) : c = 10 ∨ c = 32 ∨ c = 9 ∨ c = 13 ∨ c = 35 := by
  simp only [sepB, Bool.or_eq_true, beq_iff_eq] at h
  rcases h with (((h | h) | h) | h) | h
  · exact .inl h
  · exact .inr (.inl h)
  · exact .inr (.inr (.inl h))
  · exact .inr (.inr (.inr (.inl h)))
  · exact .inr (.inr (.inr (.inr h)))
theorem sep_part {c : UInt8} (h : sepB c = true) : partB c = false ∧ digitB c = false ∧ c ≠ 61 ∧ c ≠ 62 := by
  rcases sep_cases h with rfl | rfl | rfl | rfl | rfl <;> decide
theorem take_run (p : UInt8 → Bool) (l : Bs) : ∀ c ∈ l.take (runB p l), p c = true := by
  intro c hc
  obtain ⟨i, hi, rfl⟩ := List.getElem_of_mem hc
  rw [List.getElem_take]
  rw [List.length_take] at hi
  exact runB_lt p l i (by omega) (by omega)
theorem nxt_cut (l rest : Bs) (k : Int) (n : Nat) (h : nxt l = (k, n, 0)) (hs : sepStart rest) : nxt (l.take n ++ rest) = (k, n, 0) := by
  cases l with
  | nil => simp [nxt] at h
  | cons c t =>
    have h0 := h
    unfold nxt at h0
    simp only at h0
    have hrl := runB_le partB (c :: t)
    have hdl := runB_le digitB (c :: t)
    have hql := runB_le plainB t
    by_cases hl : letterB c = true
    · rw [if_pos hl] at h0
      by_cases h20 : 20 < runB partB (c :: t)
      · rw [if_pos h20] at h0; simp at h0
      · rw [if_neg h20] at h0
        simp only [Prod.mk.injEq, and_true] at h0
        obtain ⟨rfl, rfl⟩ := h0
        have h1 : runB partB (c :: t) = runB partB t + 1 := by simp [runB, partB, hl]
        have hr : runB partB ((c :: t).take (runB partB (c :: t)) ++ rest) = runB partB (c :: t) := by
          rw [runB_append partB _ _ (take_run _ _) (fun x hx => (sep_part (hs x hx)).1), List.length_take]; omega
        have hh : (c :: t).take (runB partB (c :: t)) ++ rest = c :: (t.take (runB partB t) ++ rest) := by rw [h1]; rfl
        rw [hh] at hr ⊢
        simp only [nxt]
        rw [if_pos hl, hr, if_neg h20]
    · rw [if_neg hl] at h0
      by_cases hd : digitB c = true
      · rw [if_pos hd] at h0
        by_cases h9 : 9 < runB digitB (c :: t)
        · rw [if_pos h9] at h0; simp at h0
        · rw [if_neg h9] at h0
          simp only [Prod.mk.injEq, and_true] at h0
          obtain ⟨rfl, rfl⟩ := h0
          have h1 : runB digitB (c :: t) = runB digitB t + 1 := by simp [runB, hd]
          have hr : runB digitB ((c :: t).take (runB digitB (c :: t)) ++ rest) = runB digitB (c :: t) := by
            rw [runB_append digitB _ _ (take_run _ _) (fun x hx => (sep_part (hs x hx)).2.1), List.length_take]; omega
          have hh : (c :: t).take (runB digitB (c :: t)) ++ rest = c :: (t.take (runB digitB t) ++ rest) := by rw [h1]; rfl
          rw [hh] at hr ⊢
          simp only [nxt]
          rw [if_neg hl, if_pos hd, hr, if_neg h9]
      · rw [if_neg hd] at h0
        by_cases h34 : c = 34
        · rw [if_pos h34] at h0
          by_cases hq : t[runB plainB t]? = some 34
          · rw [if_pos hq] at h0
            by_cases h60 : 60 < runB plainB t
            · rw [if_pos h60] at h0; simp at h0
            · rw [if_neg h60] at h0
              simp only [Prod.mk.injEq, and_true] at h0
              obtain ⟨rfl, rfl⟩ := h0
              have hlt : runB plainB t < t.length := by
                rcases Nat.lt_or_ge (runB plainB t) t.length with h' | h'
                · exact h'
                · rw [List.getElem?_eq_none h'] at hq; simp at hq
              have hg : t[runB plainB t] = 34 := by rw [List.getElem?_eq_getElem hlt] at hq; exact Option.some.inj hq
              have hh : (c :: t).take (runB plainB t + 2) ++ rest = c :: (t.take (runB plainB t) ++ (34 :: rest)) := by
                rw [List.take_succ_cons, List.take_succ_eq_append_getElem hlt, hg]; simp
              have hr : runB plainB (t.take (runB plainB t) ++ (34 :: rest)) = runB plainB t := by
                rw [runB_append plainB _ _ (take_run _ _) (fun x hx => by simp at hx; rw [← hx]; decide), List.length_take]; omega
              rw [hh]
              simp only [nxt]
              rw [if_neg hl, if_neg hd, if_pos h34, hr, if_pos (by rw [List.getElem?_append_right (by rw [List.length_take]; omega), List.length_take, Nat.min_eq_left (by omega), Nat.sub_self]; rfl), if_neg h60]
          · rw [if_neg hq] at h0; simp at h0
        · rw [if_neg h34] at h0
          by_cases hp : (c :: t).take 2 ∈ pairsB
          · rw [if_pos hp] at h0
            simp only [Prod.mk.injEq, and_true] at h0
            obtain ⟨rfl, rfl⟩ := h0
            have h2 : ((c :: t).take 2).length = 2 := (by decide : ∀ x ∈ pairsB, x.length = 2) _ hp
            have ht : ((c :: t).take 2 ++ rest).take 2 = (c :: t).take 2 := List.take_left' h2
            have hh : (c :: t).take 2 ++ rest = c :: (t.take 1 ++ rest) := rfl
            rw [hh] at ht ⊢
            simp only [nxt]
            rw [if_neg hl, if_neg hd, if_neg h34, ht, if_pos hp]
          · rw [if_neg hp] at h0
            by_cases hsg : c ∈ singlesB
            · rw [if_pos hsg] at h0
              simp only [Prod.mk.injEq, and_true] at h0
              obtain ⟨rfl, rfl⟩ := h0
              have hh : (c :: t).take 1 ++ rest = c :: rest := rfl
              have hnp : ¬ (c :: rest).take 2 ∈ pairsB := by
                intro hm
                cases rest with
                | nil =>
                  have := (by decide : ∀ x ∈ pairsB, x.length = 2) _ hm
                  simp at this
                | cons r rs =>
                  have h3 := sep_part (hs r rfl)
                  have h4 := (by decide : ∀ x ∈ pairsB, x[1]? = some 62 ∨ x[1]? = some 61) _ hm
                  simp at h4
                  rcases h4 with h4 | h4
                  · exact h3.2.2.2 h4
                  · exact h3.2.2.1 h4
              rw [hh]
              simp only [nxt]
              rw [if_neg hl, if_neg hd, if_neg h34, if_neg hnp, if_pos hsg]
            · rw [if_neg hsg] at h0; simp at h0
/-- A token's text, with its quotes, is what was taken. -/
theorem quo_txt (l : Bs) (k : Int) (n : Nat) (h : nxt l = (k, n, 0)) : quo k (txt k n l) = l.take n := by
  cases l with
  | nil => simp [nxt] at h
  | cons c t =>
    by_cases h3 : k = 3
    · subst h3
      unfold nxt at h
      simp only at h
      by_cases hl : letterB c = true
      · rw [if_pos hl] at h; split at h <;> simp at h
      · rw [if_neg hl] at h
        by_cases hd : digitB c = true
        · rw [if_pos hd] at h; split at h <;> simp at h
        · rw [if_neg hd] at h
          by_cases h34 : c = 34
          · rw [if_pos h34] at h
            by_cases hq : t[runB plainB t]? = some 34
            · rw [if_pos hq] at h
              by_cases h60 : 60 < runB plainB t
              · rw [if_pos h60] at h; simp at h
              · rw [if_neg h60] at h
                simp only [Prod.mk.injEq, and_true, true_and] at h
                subst h
                have hlt : runB plainB t < t.length := by
                  rcases Nat.lt_or_ge (runB plainB t) t.length with h' | h'
                  · exact h'
                  · rw [List.getElem?_eq_none h'] at hq; simp at hq
                have hg : t[runB plainB t] = 34 := by rw [List.getElem?_eq_getElem hlt] at hq; exact Option.some.inj hq
                simp only [quo, txt, if_true]
                rw [show runB plainB t + 2 - 1 = runB plainB t + 1 by omega, List.take_succ_cons, List.drop_succ_cons, List.drop_zero, List.take_succ_cons, List.take_succ_eq_append_getElem hlt, hg, h34]
            · rw [if_neg hq] at h; simp at h
          · rw [if_neg h34] at h
            split at h
            · simp at h
            · split at h <;> simp at h
    · simp [quo, txt, h3]
theorem right_txt (l : Bs) (k : Int) (n : Nat) (h : nxt l = (k, n, 0)) : right k (txt k n l) = true := by
  have hb := nxt_bound l (by rw [h])
  rw [h] at hb
  simp only at hb
  have hc := nxt_cut l [] k n h (fun c hc => by simp at hc)
  rw [List.append_nil] at hc
  unfold right
  rw [quo_txt l k n h, hc]
  have : (l.take n).length = n := by rw [List.length_take]; omega
  simp only [Bool.and_eq_true, decide_eq_true_eq, this, and_true]
  intro h0
  rw [h0] at this
  simp at this
  omega
theorem quo_inj (k : Int) (a b : Bs) (h : quo k a = quo k b) : a = b := by
  unfold quo at h
  split at h
  · simpa using h
  · exact h
/-- A right token ahead of a separator is read as itself. -/
theorem nxt_right (k : Int) (s rest : Bs) (h : right k s = true) (hs : sepStart rest) :
    nxt (quo k s ++ rest) = (k, (quo k s).length, 0) ∧ txt k (quo k s).length (quo k s ++ rest) = s := by
  unfold right at h
  simp only [Bool.and_eq_true, decide_eq_true_eq] at h
  have hc := nxt_cut (quo k s) rest k (quo k s).length h.2 hs
  rw [List.take_length] at hc
  refine ⟨hc, ?_⟩
  have hq := quo_txt (quo k s ++ rest) k _ hc
  rw [List.take_left' rfl] at hq
  exact quo_inj k _ _ hq
theorem right_head (k : Int) (s : Bs) (h : right k s = true) : ∃ c t, quo k s = c :: t ∧ ¬ c = 10 ∧ ¬ (c = 32 ∨ c = 9 ∨ c = 13) ∧ ¬ c = 35 := by
  unfold right at h
  simp only [Bool.and_eq_true, decide_eq_true_eq] at h
  obtain ⟨h0, h1⟩ := h
  cases hq : quo k s with
  | nil => exact absurd hq h0
  | cons c t =>
    refine ⟨c, t, rfl, ?_⟩
    rw [hq] at h1
    have hne : ∀ x : UInt8, (nxt (x :: t)).2.2 = 0 → x ≠ 10 ∧ x ≠ 32 ∧ x ≠ 9 ∧ x ≠ 13 ∧ x ≠ 35 := by
      intro x hx
      refine ⟨?_, ?_, ?_, ?_, ?_⟩ <;>
      · rintro rfl
        have e2 : ∀ (a : UInt8), (∀ y ∈ pairsB, y.head? ≠ some a) → ¬ (a :: t).take 2 ∈ pairsB := fun a ha hm => ha _ hm rfl
        simp only [nxt] at hx
        rw [if_neg (by decide), if_neg (by decide), if_neg (by decide), if_neg (e2 _ (by decide)), if_neg (by decide)] at hx
        simp at hx
    obtain ⟨a1, a2, a3, a4, a5⟩ := hne c (by rw [h1])
    exact ⟨a1, fun h => h.elim a2 (fun h => h.elim a3 a4), a5⟩
theorem lexF_tok (f : Nat) (k : Int) (s rest : Bs) (line : Int) (out : List Tok) (h : right k s = true) (hs : sepStart rest) (ho : out.length < 4000) :
    lexF (f + 1) (quo k s ++ rest) line out = lexF f rest line (out ++ [⟨k, s, line⟩]) := by
  obtain ⟨hn, ht⟩ := nxt_right k s rest h hs
  obtain ⟨c, t, hq, h1, h2, h3⟩ := right_head k s h
  have hd : (quo k s ++ rest).drop (quo k s).length = rest := List.drop_left' rfl
  have e : quo k s ++ rest = c :: (t ++ rest) := by rw [hq]; rfl
  rw [e] at hn ht hd ⊢
  simp only [lexF]
  rw [if_neg h1, if_neg h2, if_neg h3, hn]
  simp only
  rw [if_pos trivial, if_neg (by omega), hd, ht]
def key (t : Tok) : Int × Bs := (t.kind, t.text)
theorem joinT_sep : ∀ (r : List Tok) (p : Int), sepStart (joinT r p)
  | [], _ => fun c hc => by simp [joinT] at hc
  | t :: r, p => fun c hc => by
    simp only [joinT, List.head?_cons, Option.some.injEq] at hc
    rw [← hc]
    split <;> decide
theorem lex_join : ∀ (r : List Tok) (f : Nat) (p line : Int) (out : List Tok), (∀ t ∈ r, right t.kind t.text = true) → (joinT r p).length < f → out.length + r.length ≤ 4000 →
    ∃ ts, lexF f (joinT r p) line out = (out ++ ts, 0, 0) ∧ ts.map key = r.map key
  | [], f, p, line, out, _, hf, _ => by
    obtain ⟨f, rfl⟩ : ∃ m, f = m + 1 := ⟨f - 1, by omega⟩
    exact ⟨[], by simp [joinT, lexF], rfl⟩
  | t :: r, f, p, line, out, hr, hf, ho => by
    simp only [List.length_cons] at ho
    have hrt := hr t (List.mem_cons_self ..)
    have hlen : 1 ≤ (quo t.kind t.text).length := by
      obtain ⟨c, q, hq, _⟩ := right_head _ _ hrt
      rw [hq]; simp
    have hl : (joinT (t :: r) p).length = 1 + ((quo t.kind t.text).length + (joinT r t.line).length) := by
      simp [joinT]; omega
    obtain ⟨f, rfl⟩ : ∃ m, f = m + 2 := ⟨f - 2, by omega⟩
    have go : ∀ line', ∃ ts, lexF (f + 1) (quo t.kind t.text ++ joinT r t.line) line' out = (out ++ ts, 0, 0) ∧ ts.map key = (t :: r).map key := by
      intro line'
      rw [lexF_tok f t.kind t.text _ line' out hrt (joinT_sep _ _) (by omega)]
      obtain ⟨ts, h1, h2⟩ := lex_join r f t.line line' (out ++ [⟨t.kind, t.text, line'⟩]) (fun x hx => hr x (List.mem_cons_of_mem _ hx)) (by omega) (by simp; omega)
      refine ⟨⟨t.kind, t.text, line'⟩ :: ts, ?_, ?_⟩
      · rw [h1]; simp
      · rw [List.map_cons, List.map_cons, h2]; rfl
    simp only [joinT]
    by_cases hp : p ≠ t.line
    · rw [if_pos hp]
      obtain ⟨ts, h⟩ := go (line + 1)
      refine ⟨ts, ?_⟩
      simp only [lexF]
      rw [if_pos trivial]
      exact h
    · rw [if_neg hp]
      obtain ⟨ts, h⟩ := go line
      refine ⟨ts, ?_⟩
      simp only [lexF]
      rw [if_neg (by decide), if_pos (by decide)]
      exact h
/-- What Write answers is read back, but for the lines. -/
theorem lex_write (l : List Tok) (hr : ∀ t ∈ l, right t.kind t.text = true) (hl : l.length ≤ 4000) (hz : (joinA l).length ≤ 20000) :
    ∃ ts, lex (joinA l) = (ts, 0, 0) ∧ ts.map key = l.map key := by
  unfold lex
  rw [if_neg (by omega)]
  cases l with
  | nil => exact ⟨[], by simp [joinA, lexF], rfl⟩
  | cons t r =>
    simp only [joinA] at hz ⊢
    have hrt := hr t (List.mem_cons_self ..)
    have hlen : 1 ≤ (quo t.kind t.text).length := by
      obtain ⟨c, q, hq, _⟩ := right_head _ _ hrt
      rw [hq]; simp
    rw [lexF_tok _ t.kind t.text _ 1 [] hrt (joinT_sep _ _) (by simp)]
    obtain ⟨ts, h1, h2⟩ := lex_join r ((quo t.kind t.text ++ joinT r t.line).length) t.line 1 ([] ++ [⟨t.kind, t.text, 1⟩]) (fun x hx => hr x (List.mem_cons_of_mem _ hx)) (by rw [List.length_append]; omega) (by simp at hl ⊢; omega)
    exact ⟨⟨t.kind, t.text, 1⟩ :: ts, by rw [h1]; simp, by rw [List.map_cons, List.map_cons, h2]; rfl⟩
/-- The tokens of a text are right, and together not longer than it. -/
theorem lex_right : ∀ (f : Nat) (l : Bs) (line : Int) (out ts : List Tok), lexF f l line out = (ts, 0, 0) → l.length < f →
    ∃ new, ts = out ++ new ∧ (∀ t ∈ new, right t.kind t.text = true) ∧ (new.map fun t => (quo t.kind t.text).length).sum ≤ l.length ∧ new.length ≤ l.length
  | 0, _, _, _, _, _, h => by omega
  | f + 1, [], line, out, ts, h, _ => by
    simp only [lexF, Prod.mk.injEq, and_true] at h
    exact ⟨[], by rw [List.append_nil, h], by simp, by simp, by simp⟩
  | f + 1, c :: t, line, out, ts, h, hf => by
    simp only [List.length_cons] at hf
    simp only [lexF] at h
    have up : ∀ (m : Nat) (l' : Bs), l'.length ≤ t.length → (∃ new, ts = out ++ new ∧ (∀ t ∈ new, right t.kind t.text = true) ∧ (new.map fun t => (quo t.kind t.text).length).sum ≤ l'.length ∧ new.length ≤ l'.length) →
        ∃ new, ts = out ++ new ∧ (∀ t ∈ new, right t.kind t.text = true) ∧ (new.map fun t => (quo t.kind t.text).length).sum ≤ (c :: t).length ∧ new.length ≤ (c :: t).length := by
      rintro m l' hl ⟨new, h1, h2, h3, h4⟩
      exact ⟨new, h1, h2, by simp only [List.length_cons]; omega, by simp only [List.length_cons]; omega⟩
    split at h
    · exact up 0 t (Nat.le_refl _) (lex_right f t _ _ _ h (by omega))
    · split at h
      · exact up 0 t (Nat.le_refl _) (lex_right f t _ _ _ h (by omega))
      · split at h
        · rename_i h35
          have : 1 ≤ runB (fun x => x != 10) (c :: t) := by subst h35; simp [runB]
          have hd : ((c :: t).drop (runB (fun x => x != 10) (c :: t))).length ≤ t.length := by rw [List.length_drop]; simp; omega
          exact up 0 _ hd (lex_right f _ _ _ _ h (by omega))
        · split at h
          · rename_i h0
            have hb := nxt_bound (c :: t) h0
            split at h
            · simp at h
            · obtain ⟨new, h1, h2, h3, h4⟩ := lex_right f _ _ _ _ h (by rw [List.length_drop]; simp; omega)
              have hn : nxt (c :: t) = ((nxt (c :: t)).1, (nxt (c :: t)).2.1, 0) := by rw [← h0]
              have hr := right_txt (c :: t) _ _ hn
              have hq := quo_txt (c :: t) _ _ hn
              refine ⟨⟨(nxt (c :: t)).1, txt (nxt (c :: t)).1 (nxt (c :: t)).2.1 (c :: t), line⟩ :: new, by rw [h1]; simp, ?_, ?_, ?_⟩
              · intro x hx
                rcases List.mem_cons.1 hx with rfl | hx
                · exact hr
                · exact h2 x hx
              · simp only [List.map_cons, List.sum_cons, hq]
                rw [List.length_take]
                rw [List.length_drop] at h3
                omega
              · simp only [List.length_cons] at hb ⊢
                rw [List.length_drop] at h4
                simp only [List.length_cons] at h4
                omega
          · rename_i h0
            simp only [Prod.mk.injEq] at h
            exact absurd h.2.2 h0
theorem joinT_len : ∀ (r : List Tok) (p : Int), (joinT r p).length = (r.map fun t => (quo t.kind t.text).length).sum + r.length
  | [], _ => rfl
  | t :: r, p => by simp [joinT, joinT_len r]; omega
theorem joinA_len (l : List Tok) : (joinA l).length ≤ (l.map fun t => (quo t.kind t.text).length).sum + l.length := by
  cases l with
  | nil => simp [joinA]
  | cons t r => simp [joinA, joinT_len]; omega
/-- A name is one token. -/
theorem lex_name (s : Bs) (h : isName s = true) (hz : s.length ≤ 20000) : lex s = ([⟨1, s, 1⟩], 0, 0) := by
  unfold lex
  rw [if_neg (by omega)]
  have hq : quo 1 s = s := rfl
  have := lexF_tok s.length 1 s [] 1 [] h (fun c hc => by simp at hc) (by simp)
  rw [hq, List.append_nil] at this
  rw [this]
  cases hs : s.length with
  | zero =>
    have : s = [] := List.eq_nil_of_length_eq_zero hs
    rw [this] at h
    simp [isName, right, quo] at h
  | succ n => simp [lexF]
theorem right2_mk {l : Bs} (h0 : l ≠ []) (h9 : l.length ≤ 9) (hd : ∀ c ∈ l, digitB c = true) : right 2 l = true := by
  have hr : runB digitB l = l.length := by
    have := runB_append digitB l [] hd (fun c hc => by simp at hc)
    rwa [List.append_nil] at this
  unfold right
  have hq : quo 2 l = l := rfl
  rw [hq]
  cases l with
  | nil => exact absurd rfl h0
  | cons c t =>
    have hc := hd c (List.mem_cons_self ..)
    have hl : ¬ letterB c = true := by
      simp only [digitB, letterB, Bool.or_eq_true, Bool.and_eq_true, decide_eq_true_eq] at hc ⊢
      omega
    have hn : nxt (c :: t) = (2, (c :: t).length, 0) := by
      simp only [nxt]
      rw [if_neg hl, if_pos hc, hr, if_neg (by omega)]
    simp [hn]
theorem right2_of {l : Bs} (h : right 2 l = true) : l ≠ [] ∧ l.length ≤ 9 ∧ ∀ c ∈ l, digitB c = true := by
  unfold right at h
  simp only [quo, show ¬ ((2 : Int) = 3) by decide, if_false, Bool.and_eq_true, decide_eq_true_eq] at h
  obtain ⟨h0, h1⟩ := h
  refine ⟨h0, ?_⟩
  cases l with
  | nil => exact absurd rfl h0
  | cons c t =>
    unfold nxt at h1
    simp only at h1
    split at h1
    · split at h1 <;> simp at h1
    · split at h1
      · split at h1
        · simp at h1
        · rename_i hd h9
          simp only [Prod.mk.injEq, true_and, and_true] at h1
          exact ⟨by omega, runB_all _ _ h1⟩
      · split at h1
        · split at h1
          · split at h1 <;> simp at h1
          · simp at h1
        · split at h1
          · simp at h1
          · split at h1 <;> simp at h1
/-- Leading zeros do not change a number's value. -/
theorem number_zero (l : Bs) (h : (number l).2 = 0) (hl : l.length ≤ 8) : number (48 :: l) = number l := by
  unfold number at h ⊢
  by_cases hr : right 2 l = true
  · obtain ⟨h0, h9, hd⟩ := right2_of hr
    rw [if_pos hr, if_pos (right2_mk (by simp) (by simp; omega) (by intro c hc; rcases List.mem_cons.1 hc with rfl | hc; decide; exact hd c hc))]
    simp [numVal]
  · rw [if_neg hr] at h; simp at h
theorem lexF_count : ∀ (f : Nat) (l : Bs) (line : Int) (out : List Tok), out.length ≤ 4000 → (lexF f l line out).1.length ≤ 4000
  | 0, _, _, _, _ => by simp [lexF]
  | f + 1, [], _, _, h => by simpa only [lexF] using h
  | f + 1, c :: t, line, out, h => by
    simp only [lexF]
    split
    · exact lexF_count f _ _ _ h
    · split
      · exact lexF_count f _ _ _ h
      · split
        · exact lexF_count f _ _ _ h
        · split
          · split
            · simp
            · exact lexF_count f _ _ _ (by rw [List.length_append]; simp; omega)
          · simp
theorem lex_count (l : Bs) : (lex l).1.length ≤ 4000 := by
  unfold lex
  split
  · simp
  · exact lexF_count _ _ _ _ (by simp)
theorem lexF_line : ∀ (f : Nat) (l : Bs) (line : Int) (out ts : List Tok) (b : Int), lexF f l line out = (ts, b, 0) → b = 0
  | 0, _, _, _, _, _, h => by
    simp only [lexF, Prod.mk.injEq] at h
    exact h.2.1.symm
  | f + 1, [], line, out, _, _, h => by
    simp only [lexF, Prod.mk.injEq] at h
    exact h.2.1.symm
  | f + 1, c :: t, line, out, ts, b, h => by
    simp only [lexF] at h
    split at h
    · exact lexF_line f _ _ _ _ _ h
    · split at h
      · exact lexF_line f _ _ _ _ _ h
      · split at h
        · exact lexF_line f _ _ _ _ _ h
        · split at h
          · split at h
            · simp at h
            · exact lexF_line f _ _ _ _ _ h
          · rename_i h0
            simp only [Prod.mk.injEq] at h
            exact absurd h.2.2 h0
theorem lex_line {l : Bs} {ts : List Tok} {b : Int} (h : lex l = (ts, b, 0)) : b = 0 := by
  unfold lex at h
  split at h
  · simp at h
  · exact lexF_line _ _ _ _ _ _ h
/-- Reading again what was written of what was read. -/
theorem lex_again (l : Bs) (ts : List Tok) (h : lex l = (ts, 0, 0)) (hz : l.length ≤ 9000) :
    writeT ts = (joinA ts, 0) ∧ (∀ t ∈ ts, right t.kind t.text = true) ∧ ∃ us, lex (joinA ts) = (us, 0, 0) ∧ us.map key = ts.map key := by
  have hc : ts.length ≤ 4000 := by
    have := lex_count l
    rw [h] at this
    exact this
  have h' := h
  unfold lex at h'
  rw [if_neg (by omega)] at h'
  obtain ⟨new, h1, h2, h3, h4⟩ := lex_right _ _ _ _ _ h' (by omega)
  rw [List.nil_append] at h1
  subst h1
  have hj := joinA_len ts
  obtain ⟨us, hu⟩ := lex_write ts h2 hc (by omega)
  refine ⟨?_, h2, us, hu⟩
  unfold writeT
  rw [if_neg (by omega), if_pos, if_neg (by omega)]
  simpa only [List.all_eq_true] using h2
end Sj
