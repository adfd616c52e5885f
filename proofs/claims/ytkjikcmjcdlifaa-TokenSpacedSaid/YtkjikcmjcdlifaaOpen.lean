/- Opening an argument that is a slice of tokens. Proved: what the row says of such an argument gives the cells of its tokens, its length and the lengths of its strings, wherever the row's weights hold. -/
import Derived.Test.YtkjikcmjcdlifaaPx0
import Derived.Deep.Slices
import Derived.SizedLaws
namespace Go.Proofs.Ytkjikcmjcdlifaa.P
open Go.ChangeShapes Go.WideShapes Go.Deep Go.RowKit Go.Proofs.YtkjikcmjcdlifaaW.PrintWords
set_option linter.unusedVariables false
set_option linter.unusedSimpArgs false
instance : Inhabited S46 := ⟨z46⟩
theorem weightsAll_mem {H : Type} {P : Program} {e : TypeId} {d : DataW H} {n : Nat} : ∀ {l : List (DataW H)}, d ∈ l → n ∈ d.weights P e → n ∈ DataW.weightsAll P e l
  | [], h, _ => by cases h
  | x :: r, h, hn => by
    simp only [DataW.weightsAll, List.mem_append]
    rcases List.mem_cons.1 h with rfl | h
    · exact Or.inl hn
    · exact Or.inr (weightsAll_mem h hn)
theorem cells3 : Try.prog.cellsOf 3 = 1 := by kernel_rfl
theorem cells9 : Try.prog.cellsOf 9 = 1 := by kernel_rfl
theorem cells46 : Try.prog.cellsOf 46 = 3 := by kernel_rfl
theorem bytes46 : Try.prog.bytesOf 46 = 32 := by kernel_rfl
theorem open_toks {H : Type} {enc : TypeId × Value → H} {W : World} {a : Option Addr} {len cap : Nat} {d : DataW H} {ps : List MemPlace} {ts : List TypeId} {ds : List (DataW H)} {j : Nat}
    (hsz : (DataW.weightsEach Try.prog ts ds).all (· ≤ reachBytes) = true) (ht : ts[j]? = some 36) (hd : ds[j]? = some d)
    (h : DataW.Trod enc Try.prog W 0 (fun _ => true) true 36 (.slice a len cap) d ps) :
    ∃ xs : List S46, xs.length = len ∧ Kd.C k46 W a xs.length xs ∧ xs.length ≤ cap ∧ xs.length * 32 ≤ 140737488351232 ∧ ∀ t ∈ xs, t.f1.size ≤ 140737488351232 := by
  obtain ⟨fuel, hf⟩ := h
  rcases open_slice Try.underlying36 hf with ⟨hcs, _⟩ | ⟨x, l, c, m, n, D, Pl, hcs, _, hl, hm, hmm, hx, hel⟩
  · simp [Value.cells] at hcs
    obtain ⟨rfl, rfl, rfl⟩ := hcs
    exact ⟨[], rfl, ⟨rfl, by simp, fun h => absurd h (by simp)⟩, by simp, by simp, by simp⟩
  · simp [Value.cells] at hcs
    obtain ⟨rfl, rfl, rfl⟩ := hcs
    simp only [if_true] at hmm
    subst hmm
    obtain ⟨hx, _⟩ := Prod.mk.inj hx
    subst hx
    have cell : ∀ i, i < len → ∃ s : S46, W.cell? (x.add (i * 3)) = some (.int .i64 s.f0) ∧ W.cell? (x.add (i * 3 + 1)) = some (.string s.f1) ∧ W.cell? (x.add (i * 3 + 2)) = some (.int .i64 s.f2) ∧
        D i = .agg [.lit (.int .i64 s.f0), .lit (.string s.f1.data.toList), .lit (.int .i64 s.f2)] := by
      intro i hi
      obtain ⟨cs', h1, h2⟩ := hel i (by omega)
      rw [cells46] at h1
      obtain ⟨_, hlen, hcell⟩ := World.cells?_some h1
      obtain ⟨xs, k, hk, hxy, _, hxl, hf⟩ := DataW.trod_struct Try.underlying46 h2
      match xs, hxl, cs', hlen with
      | [y0, y1, y2], _, [v0, v1, v2], _ =>
        have g0 := hf 0 _ rfl
        have g1 := hf 1 _ rfl
        have g2 := hf 2 _ rfl
        simp [cells3, cells9] at g0 g1 g2
        obtain ⟨n0, e0, f0, _⟩ := DataW.trod_int Try.underlying3 g0
        obtain ⟨s1, e1, f1, _⟩ := DataW.trod_string Try.underlying9 g1
        obtain ⟨n2, e2, f2, _⟩ := DataW.trod_int Try.underlying3 g2
        simp only [List.cons.injEq, and_true] at e0 e1 e2
        subst e0 e1 e2
        have c0 := hcell 0 (by omega)
        have c1 := hcell 1 (by omega)
        have c2 := hcell 2 (by omega)
        rw [Go.Deep.add_add] at c0 c1 c2
        simp only [Prod.mk.injEq] at hxy
        refine ⟨⟨n0, s1, n2⟩, by simpa using c0, by simpa using c1, by simpa using c2, ?_⟩
        rw [hxy.1]
        simp [f0, f1, f2]
    obtain ⟨f, hf⟩ := choose_lt cell
    have z := sized_slice hsz ht hd Try.underlying36
    simp only [List.length_map, List.length_range, bytes46] at z
    have hr : reachBytes = 140737488351232 := rfl
    rw [hr] at z
    have z2 : len * 32 ≤ 140737488351232 := Nat.le_trans (Nat.mul_le_mul_right _ (Nat.le_add_right _ _)) z
    refine ⟨(List.range len).map f, by simp, ⟨rfl, by simp; omega, fun _ => ⟨x, rfl, fun j p hp => ?_⟩⟩, by simp; exact hl, by simp; exact z2, ?_⟩
    · have hj : j < len := by
        have := (List.getElem?_eq_some_iff.1 hp).1
        simpa using this
      rw [List.getElem?_map, List.getElem?_range hj] at hp
      simp only [Option.map_some, Option.some.injEq] at hp
      subst hp
      obtain ⟨h0, h1, h2, _⟩ := hf j hj
      refine ⟨[.int .i64 (f j).f0, .string (f j).f1, .int .i64 (f j).f2], rfl, k46_mk W (f j), fun i u hu => ?_⟩
      match i, hu with
      | 0, hu => simp only [List.getElem?_cons_zero, Option.some.injEq] at hu; rw [← hu]; exact h0
      | 1, hu => simp at hu; rw [← hu]; exact h1
      | 2, hu => simp at hu; rw [← hu]; exact h2
      | i + 3, hu => simp at hu
    · intro t htm
      obtain ⟨i, hi, rfl⟩ := List.mem_map.1 htm
      have hi' : i < len := List.mem_range.1 hi
      obtain ⟨_, _, _, hD⟩ := hf i hi'
      have hmem : (f i).f1.data.toList.length ∈ (D i).weights Try.prog 46 := by
        rw [hD]
        simp [DataW.weights, Try.underlying46, DataW.weightsEach]
      have hall := weightsAll_mem (P := Try.prog) (e := 46) (l := (List.range len).map D) (List.mem_map.2 ⟨i, hi, rfl⟩) hmem
      have := List.all_eq_true.1 hsz _ (DataW.weights_mem_each ht hd (f i).f1.data.toList.length (by
        simp only [DataW.weights, Try.underlying36, List.mem_cons, List.mem_append]
        exact Or.inr (Or.inl hall)))
      have := of_decide_eq_true this
      rw [hr, Array.length_toList] at this
      exact this
end Go.Proofs.Ytkjikcmjcdlifaa.P
