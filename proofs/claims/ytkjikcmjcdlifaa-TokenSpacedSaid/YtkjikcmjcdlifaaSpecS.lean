/- The plain law of white space and comments between tokens. Proved: lex_spaced: the tokens are read back with their lines. -/
import Derived.Test.YtkjikcmjcdlifaaSpecB
namespace Sj
/-! ### white space and comments between tokens -/
def gapB (n : Nat) : Bs := if n = 0 then [32] else if n = 1 then [10] else if n = 2 then [9, 32, 13, 10] else if n = 3 then [32, 35, 32, 45, 62, 32, 34, 32, 123, 10] else [35, 10, 10]
def gapN (n : Nat) : Nat := if n = 0 then 0 else if n = 4 then 2 else 1
theorem gap_cases {n : Nat} (h : n < 5) : n = 0 ∨ n = 1 ∨ n = 2 ∨ n = 3 ∨ n = 4 := by omega
theorem gap_len {n : Nat} (h : n < 5) : 1 ≤ (gapB n).length ∧ (gapB n).length ≤ 10 := by
  rcases gap_cases h with rfl | rfl | rfl | rfl | rfl <;> decide
theorem gap_sep {n : Nat} (h : n < 5) (r : Bs) : sepStart (gapB n ++ r) := by
  intro c hc
  rcases gap_cases h with rfl | rfl | rfl | rfl | rfl <;> (simp [gapB] at hc; rw [← hc]; decide)
/-- The lexer over one gap. -/
theorem lexF_gap {n : Nat} (h : n < 5) (f : Nat) (r : Bs) (line : Int) (out : List Tok) (hf : (gapB n ++ r).length < f) :
    ∃ f', r.length < f' ∧ lexF f (gapB n ++ r) line out = lexF f' r (line + (gapN n : Nat)) out := by
  have l10 : ∀ f t line out, lexF (f + 1) (10 :: t) line out = lexF f t (line + 1) out := by
    intro f t line out
    simp only [lexF]; rw [if_pos trivial]
  have l32 : ∀ f t line out, lexF (f + 1) (32 :: t) line out = lexF f t line out := by
    intro f t line out
    simp only [lexF]; rw [if_neg (by decide), if_pos (by decide)]
  have l9 : ∀ f t line out, lexF (f + 1) (9 :: t) line out = lexF f t line out := by
    intro f t line out
    simp only [lexF]; rw [if_neg (by decide), if_pos (by decide)]
  have l13 : ∀ f t line out, lexF (f + 1) (13 :: t) line out = lexF f t line out := by
    intro f t line out
    simp only [lexF]; rw [if_neg (by decide), if_pos (by decide)]
  have l35 : ∀ f t line out, lexF (f + 1) (35 :: t) line out = lexF f ((35 :: t).drop (runB (fun x => x != 10) (35 :: t))) line out := by
    intro f t line out
    simp only [lexF]; rw [if_neg (by decide), if_neg (by decide), if_pos trivial]
  rcases gap_cases h with rfl | rfl | rfl | rfl | rfl
  · simp only [gapB, if_true, List.cons_append, List.nil_append, List.length_cons] at hf ⊢
    obtain ⟨g, rfl⟩ : ∃ g, f = g + 1 := ⟨f - 1, by omega⟩
    exact ⟨g, by omega, by rw [l32]; simp [gapN]⟩
  · simp [gapB] at hf ⊢
    obtain ⟨g, rfl⟩ : ∃ g, f = g + 1 := ⟨f - 1, by omega⟩
    exact ⟨g, by omega, by rw [l10]; simp [gapN]⟩
  · simp [gapB] at hf ⊢
    obtain ⟨g, rfl⟩ : ∃ g, f = g + 1 + 1 + 1 + 1 := ⟨f - 4, by omega⟩
    exact ⟨g, by omega, by rw [l9, l32, l13, l10]; simp [gapN]⟩
  · simp [gapB] at hf ⊢
    obtain ⟨g, rfl⟩ : ∃ g, f = g + 1 + 1 + 1 := ⟨f - 3, by omega⟩
    refine ⟨g, by omega, ?_⟩
    rw [l32, l35]
    have e : (35 :: 32 :: 45 :: 62 :: 32 :: 34 :: 32 :: 123 :: 10 :: r : Bs).drop (runB (fun x => x != 10) (35 :: 32 :: 45 :: 62 :: 32 :: 34 :: 32 :: 123 :: 10 :: r)) = 10 :: r := by
      simp [runB]
    rw [e, l10]; simp [gapN]
  · simp [gapB] at hf ⊢
    obtain ⟨g, rfl⟩ : ∃ g, f = g + 1 + 1 + 1 := ⟨f - 3, by omega⟩
    refine ⟨g, by omega, ?_⟩
    have e : (35 :: 10 :: 10 :: r : Bs).drop (runB (fun x => x != 10) (35 :: 10 :: 10 :: r)) = 10 :: 10 :: r := by
      simp [runB]
    rw [l35, e, l10, l10]
    simp [gapN, Int.add_assoc]
def spF (s : Bs × Int × List Tok) (z : Nat × Tok) : Bs × Int × List Tok :=
  (s.1 ++ (gapB z.1 ++ quo z.2.kind z.2.text), s.2.1 + (gapN z.1 : Nat), s.2.2 ++ [⟨z.2.kind, z.2.text, s.2.1 + (gapN z.1 : Nat)⟩])
def textS : List (Nat × Tok) → Bs
  | [] => []
  | z :: r => gapB z.1 ++ (quo z.2.kind z.2.text ++ textS r)
theorem textS_sep : ∀ zs : List (Nat × Tok), (∀ z ∈ zs, z.1 < 5) → sepStart (textS zs)
  | [], _ => fun c hc => by simp [textS] at hc
  | z :: r, h => gap_sep (h z (List.mem_cons_self ..)) _
theorem spF_text : ∀ (zs : List (Nat × Tok)) (s : Bs × Int × List Tok), (zs.foldl spF s).1 = s.1 ++ textS zs
  | [], s => by simp [textS]
  | z :: r, s => by rw [List.foldl_cons, spF_text r]; simp [spF, textS]
theorem lex_spaced : ∀ (zs : List (Nat × Tok)) (f : Nat) (s : Bs × Int × List Tok), (∀ z ∈ zs, z.1 < 5 ∧ right z.2.kind z.2.text = true) → (textS zs).length < f → s.2.2.length + zs.length ≤ 4000 →
    lexF f (textS zs) s.2.1 s.2.2 = ((zs.foldl spF s).2.2, 0, 0)
  | [], f, s, _, hf, _ => by
    obtain ⟨f, rfl⟩ : ∃ m, f = m + 1 := ⟨f - 1, by omega⟩
    simp [textS, lexF]
  | z :: r, f, s, h, hf, hn => by
    obtain ⟨h5, hr⟩ := h z (List.mem_cons_self ..)
    simp only [textS] at hf ⊢
    obtain ⟨f1, hf1, h1⟩ := lexF_gap h5 f (quo z.2.kind z.2.text ++ textS r) s.2.1 s.2.2 hf
    simp only [List.length_cons] at hn
    have hq : 1 ≤ (quo z.2.kind z.2.text).length := by
      obtain ⟨c, t, e, _⟩ := right_head _ _ hr
      rw [e]; simp
    rw [List.length_append] at hf1
    obtain ⟨f2, rfl⟩ : ∃ m, f1 = m + 1 := ⟨f1 - 1, by omega⟩
    rw [h1, lexF_tok f2 _ _ _ _ _ hr (textS_sep r (fun x hx => (h x (List.mem_cons_of_mem _ hx)).1)) (by omega), List.foldl_cons]
    exact lex_spaced r f2 (spF s z) (fun x hx => h x (List.mem_cons_of_mem _ hx)) (by omega) (by simp [spF]; omega)
theorem spF_lens : ∀ (zs : List (Nat × Tok)) (s : Bs × Int × List Tok), (zs.foldl spF s).2.2.length = s.2.2.length + zs.length
  | [], s => rfl
  | z :: r, s => by rw [List.foldl_cons, spF_lens r]; simp [spF]; omega
theorem textS_len : ∀ zs : List (Nat × Tok), (∀ z ∈ zs, z.1 < 5) → (textS zs).length ≤ 12 * zs.length + (zs.map fun z => z.2.text.length).sum
  | [], _ => by simp [textS]
  | z :: r, h => by
    have := textS_len r (fun x hx => h x (List.mem_cons_of_mem _ hx))
    have h2 := (gap_len (h z (List.mem_cons_self ..))).2
    have h3 : (quo z.2.kind z.2.text).length ≤ z.2.text.length + 2 := by unfold quo; split <;> simp
    simp only [textS, List.length_append, List.length_cons, List.map_cons, List.sum_cons]
    omega
end Sj
