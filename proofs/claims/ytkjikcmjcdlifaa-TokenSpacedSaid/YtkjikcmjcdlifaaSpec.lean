/- The plain law of tokens: what the words of layer 1 mean, on lists of bytes, with no program in sight. -/
namespace Sj
abbrev Bs := List UInt8
structure Tok where
  kind : Int
  text : Bs
  line : Int
deriving DecidableEq, Repr

def letterB (c : UInt8) : Bool := (decide (97 ≤ c.toNat) && decide (c.toNat ≤ 122)) || (decide (65 ≤ c.toNat) && decide (c.toNat ≤ 90))
def digitB (c : UInt8) : Bool := decide (48 ≤ c.toNat) && decide (c.toNat ≤ 57)
def partB (c : UInt8) : Bool := letterB c || digitB c || c == 95
def plainB (c : UInt8) : Bool := decide (32 ≤ c.toNat) && decide (c.toNat ≤ 126) && c != 34
def runB (p : UInt8 → Bool) : Bs → Nat
  | [] => 0
  | c :: t => if p c = true then runB p t + 1 else 0
def pairsB : List Bs := [[45, 62], [60, 61], [62, 61], [61, 61], [33, 61]]
def singlesB : Bs := [123, 125, 40, 41, 91, 93, 44, 59, 58, 61, 43, 45, 42, 60, 62, 33, 38, 124, 46, 63]

/-- The kind, the length and the error of the token at the beginning of a text. -/
def nxt (l : Bs) : Int × Nat × Int :=
  match l with
  | [] => (0, 0, 2)
  | c :: t =>
    if letterB c = true then (if 20 < runB partB l then (0, 0, 3) else (1, runB partB l, 0))
    else if digitB c = true then (if 9 < runB digitB l then (0, 0, 3) else (2, runB digitB l, 0))
    else if c = 34 then
      (if t[runB plainB t]? = some 34 then (if 60 < runB plainB t then (3, 0, 3) else (3, runB plainB t + 2, 0)) else (3, 0, 2))
    else if l.take 2 ∈ pairsB then (4, 2, 0)
    else if c ∈ singlesB then (4, 1, 0)
    else (0, 0, 2)

def txt (k : Int) (n : Nat) (l : Bs) : Bs := if k = 3 then (l.take (n - 1)).drop 1 else l.take n

/-- The tokens of a text, from a line on, behind some tokens: the tokens, the line of the error, the error. -/
def lexF : Nat → Bs → Int → List Tok → List Tok × Int × Int
  | 0, _, _, _ => ([], 0, 0)
  | f + 1, l, line, out =>
    match l with
    | [] => (out, 0, 0)
    | c :: t =>
      if c = 10 then lexF f t (line + 1) out
      else if c = 32 ∨ c = 9 ∨ c = 13 then lexF f t line out
      else if c = 35 then lexF f (l.drop (runB (fun x => x != 10) l)) line out
      else if (nxt l).2.2 = 0 then
        (if out.length = 4000 then ([], line, 3)
         else lexF f (l.drop (nxt l).2.1) line (out ++ [⟨(nxt l).1, txt (nxt l).1 (nxt l).2.1 l, line⟩]))
      else ([], line, (nxt l).2.2)

def lex (l : Bs) : List Tok × Int × Int := if 20000 < l.length then ([], 0, 3) else lexF (l.length + 1) l 1 []

/-- The text of a token with its quotes. -/
def quo (k : Int) (s : Bs) : Bs := if k = 3 then 34 :: (s ++ [34]) else s
def right (k : Int) (s : Bs) : Bool := decide (quo k s ≠ []) && decide ((nxt (quo k s)) = (k, (quo k s).length, 0))
/-- The texts of tokens, one after the other. -/
def joinT : List Tok → Int → Bs
  | [], _ => []
  | t :: r, p => (if p ≠ t.line then 10 else 32) :: (quo t.kind t.text ++ joinT r t.line)
def joinA : List Tok → Bs
  | [] => []
  | t :: r => quo t.kind t.text ++ joinT r t.line
def writeT (l : List Tok) : Bs × Int :=
  if 4000 < l.length then ([], 3)
  else if l.all (fun t => right t.kind t.text) = true then (if 20000 < (joinA l).length then ([], 3) else (joinA l, 0))
  else ([], 1)
def isName (s : Bs) : Bool := right 1 s
def numVal (s : Bs) : Int := s.foldl (fun n c => 10 * n + ((c.toNat : Int) - 48)) 0
def number (s : Bs) : Int × Int := if right 2 s = true then (numVal s, 0) else (0, 2)

/-! ### small laws -/
theorem runB_le (p : UInt8 → Bool) : ∀ l : Bs, runB p l ≤ l.length
  | [] => Nat.le_refl _
  | c :: t => by
    unfold runB
    have := runB_le p t
    split <;> simp <;> omega
theorem runB_lt (p : UInt8 → Bool) : ∀ (l : Bs) (i : Nat) (_ : i < runB p l) (hl : i < l.length), p l[i] = true
  | [], i, h, _ => by simp [runB] at h
  | c :: t, i, h, hl => by
    unfold runB at h
    split at h
    · rename_i hp
      cases i with
      | zero => simpa using hp
      | succ i => simpa using runB_lt p t i (by omega) (by simpa using hl)
    · omega
theorem runB_end (p : UInt8 → Bool) : ∀ (l : Bs) (hl : runB p l < l.length), p l[runB p l] = false
  | [], h => by simp [runB] at h
  | c :: t, h => by
    by_cases hp : p c = true
    · have e : runB p (c :: t) = runB p t + 1 := by simp [runB, hp]
      have := runB_end p t (by rw [e] at h; simpa using h)
      simp only [e]
      simpa using this
    · have e : runB p (c :: t) = 0 := by simp [runB, hp]
      simp only [e]
      simpa using hp
/-- A run is where a predicate holds up to a place and fails there. -/
theorem runB_is (p : UInt8 → Bool) : ∀ (l : Bs) (n : Nat), n ≤ l.length → (∀ i (hl : i < l.length), i < n → p l[i] = true) → (∀ hl : n < l.length, p l[n] = false) → runB p l = n
  | [], n, h, _, _ => by simp at h; simp [runB, h]
  | c :: t, 0, _, _, h2 => by
    have := h2 (by simp)
    simp at this
    simp [runB, this]
  | c :: t, n + 1, h, h1, h2 => by
    have h0 := h1 0 (by simp) (by omega)
    simp at h0
    have := runB_is p t n (by simpa using h) (fun i hl hi => by have h3 := h1 (i + 1) (Nat.succ_lt_succ hl) (by omega); rwa [List.getElem_cons_succ] at h3) (fun hl => by have h3 := h2 (Nat.succ_lt_succ hl); rwa [List.getElem_cons_succ] at h3)
    simp [runB, h0, this]
theorem runB_append (p : UInt8 → Bool) (l r : Bs) (hl : ∀ c ∈ l, p c = true) (hr : ∀ c, r.head? = some c → p c = false) : runB p (l ++ r) = l.length := by
  induction l with
  | nil =>
    cases r with
    | nil => rfl
    | cons c t => simp [runB, hr c rfl]
  | cons a l ih =>
    have := ih (fun c hc => hl c (List.mem_cons_of_mem _ hc))
    simp [runB, hl a (List.mem_cons_self ..), this]
theorem runB_all (p : UInt8 → Bool) (l : Bs) (h : runB p l = l.length) : ∀ c ∈ l, p c = true := by
  intro c hc
  obtain ⟨i, hi, rfl⟩ := List.getElem_of_mem hc
  exact runB_lt p l i (by omega) hi

theorem nxt_bound (l : Bs) (h : (nxt l).2.2 = 0) : 1 ≤ (nxt l).2.1 ∧ (nxt l).2.1 ≤ l.length := by
  unfold nxt at h ⊢
  cases l with
  | nil => simp at h
  | cons c t =>
    simp only at h ⊢
    have hp := runB_le partB (c :: t)
    have hd := runB_le digitB (c :: t)
    have hq := runB_le plainB t
    split at h
    · rename_i hc
      rw [if_pos hc]
      have : runB partB (c :: t) = runB partB t + 1 := by simp [runB, partB, hc]
      split at h
      · simp at h
      · rename_i h20; rw [if_neg h20]; simp only; omega
    · rename_i hc; rw [if_neg hc]
      split at h
      · rename_i hdg; rw [if_pos hdg]
        have : runB digitB (c :: t) = runB digitB t + 1 := by simp [runB, hdg]
        split at h
        · simp at h
        · rename_i h9; rw [if_neg h9]; simp only; omega
      · rename_i hdg; rw [if_neg hdg]
        split at h
        · rename_i h34; rw [if_pos h34]
          split at h
          · rename_i hq2; rw [if_pos hq2]
            have hlt : runB plainB t < t.length := by
              rcases Nat.lt_or_ge (runB plainB t) t.length with h' | h'
              · exact h'
              · rw [List.getElem?_eq_none h'] at hq2; simp at hq2
            split at h
            · simp at h
            · rename_i h60; rw [if_neg h60]; simp; omega
          · simp at h
        · rename_i h34; rw [if_neg h34]
          split at h
          · rename_i hm; rw [if_pos hm]
            have : 2 ≤ ((c :: t).take 2).length := by
              have : ∀ x ∈ pairsB, x.length = 2 := by decide
              rw [this _ hm]; exact Nat.le_refl _
            rw [List.length_take] at this
            simp only; omega
          · rename_i hm; rw [if_neg hm]
            split at h
            · rename_i hs; rw [if_pos hs]; simp
            · simp at h
theorem lexF_fuel : ∀ (f g : Nat) (l : Bs) (line : Int) (out : List Tok), l.length < f → l.length < g → lexF f l line out = lexF g l line out
  | 0, _, _, _, _, h, _ => by omega
  | _ + 1, 0, _, _, _, _, h => by omega
  | f + 1, g + 1, [], line, out, _, _ => by simp [lexF]
  | f + 1, g + 1, c :: t, line, out, hf, hg => by
    have hf' : t.length < f := by simpa using hf
    have hg' : t.length < g := by simpa using hg
    simp only [lexF]
    split
    · exact lexF_fuel f g t _ _ hf' hg'
    · split
      · exact lexF_fuel f g t _ _ hf' hg'
      · split
        · rename_i h35
          subst h35
          apply lexF_fuel f g
          · have : 1 ≤ runB (fun x => x != 10) ((35 : UInt8) :: t) := by simp [runB]
            rw [List.length_drop]; simp; omega
          · have : 1 ≤ runB (fun x => x != 10) ((35 : UInt8) :: t) := by simp [runB]
            rw [List.length_drop]; simp; omega
        · split
          · rename_i h0
            have := nxt_bound (c :: t) h0
            split
            · rfl
            · apply lexF_fuel f g
              · rw [List.length_drop]; simp; omega
              · rw [List.length_drop]; simp; omega
          · rfl
end Sj
