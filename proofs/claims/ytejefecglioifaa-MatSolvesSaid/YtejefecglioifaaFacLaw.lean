/- P3.5 in plain words: a matrix's lower factor and its diagonal. -/
import Derived.Test.YtejefecglioifaaWork
import Derived.Test.YtejefecglioifaaFixDivR
namespace Go.Proofs.Ytejefecglioifaa.BigW
open Go.RowKit Go.Proofs.Ytejefecglioifaa.Mem Go.Proofs.Ytejefecglioifaa.BigLaw Go.Proofs.Ytejefecglioifaa.Ints
set_option linter.unusedVariables false

/-- a number less products of two rows with the diagonal, k of them; whether anything bent -/
def lessF (p q d : Nat → Int) (s : Int) : Nat → Int × Bool
  | 0 => (s, false)
  | k + 1 => ((fsub (lessF p q d s k).1 (fmul (fmul (p k) (q k)).1 (d k)).1).1, (lessF p q d s k).2 || (fmul (p k) (q k)).2 || (fmul (fmul (p k) (q k)).1 (d k)).2 || (fsub (lessF p q d s k).1 (fmul (fmul (p k) (q k)).1 (d k)).1).2)
theorem lessF_range (p q d : Nat → Int) {s : Int} (h : In64 s) : ∀ k, In64 (lessF p q d s k).1
  | 0 => h
  | k + 1 => fsub_range _ _
theorem lessF_congr {p q d p' q' d' : Nat → Int} (s : Int) : ∀ n, (∀ k, k < n → p k = p' k ∧ q k = q' k ∧ d k = d' k) → lessF p q d s n = lessF p' q' d' s n
  | 0, _ => rfl
  | n + 1, h => by
    obtain ⟨h1, h2, h3⟩ := h n (by omega)
    simp only [lessF, lessF_congr s n fun k hk => h k (by omega), h1, h2, h3]
/-- one number written -/
def upd (L : Nat → Nat → Int) (i j : Nat) (v : Int) : Nat → Nat → Int := fun a b => if a = i ∧ b = j then v else L a b
/-- below the diagonal: t numbers of column j -/
def rowsF (N j : Nat) (zs : List Int) (x : Int) (d : Nat → Int) (L : Nat → Nat → Int) : Nat → (Nat → Nat → Int) × Bool
  | 0 => (L, false)
  | t + 1 => (upd (rowsF N j zs x d L t).1 (j + 1 + t) j (fdiv (lessF ((rowsF N j zs x d L t).1 (j + 1 + t)) ((rowsF N j zs x d L t).1 j) d (zs.getD ((j + 1 + t) * N + j) 0) j).1 x).1,
      (rowsF N j zs x d L t).2 || (lessF ((rowsF N j zs x d L t).1 (j + 1 + t)) ((rowsF N j zs x d L t).1 j) d (zs.getD ((j + 1 + t) * N + j) 0) j).2 || (fdiv (lessF ((rowsF N j zs x d L t).1 (j + 1 + t)) ((rowsF N j zs x d L t).1 j) d (zs.getD ((j + 1 + t) * N + j) 0) j).1 x).2)
/-- what is found of a column's diagonal -/
def diagF (N j : Nat) (zs : List Int) (d : Nat → Int) (L : Nat → Nat → Int) : Int × Bool := lessF (L j) (L j) d (zs.getD (j * N + j) 0) j
/-- j columns; none: a number of the diagonal isn't above 0 -/
def facF (N : Nat) (zs : List Int) : Nat → Option ((Nat → Nat → Int) × List Int × Bool)
  | 0 => some (fun _ _ => 0, [], false)
  | j + 1 => match facF N zs j with
    | none => none
    | some (L, D, b) =>
      if (diagF N j zs (fun k => D.getD k 0) L).1 ≤ 0 then none
      else some ((rowsF N j zs (diagF N j zs (fun k => D.getD k 0) L).1 (fun k => D.getD k 0) (upd L j j 4294967296) (N - 1 - j)).1, D ++ [(diagF N j zs (fun k => D.getD k 0) L).1],
        b || (diagF N j zs (fun k => D.getD k 0) L).2 || (rowsF N j zs (diagF N j zs (fun k => D.getD k 0) L).1 (fun k => D.getD k 0) (upd L j j 4294967296) (N - 1 - j)).2)
theorem facF_none {N : Nat} {zs : List Int} {j : Nat} (h : facF N zs j = none) : ∀ t, facF N zs (j + t) = none
  | 0 => h
  | t + 1 => by
    rw [← Nat.add_assoc]
    simp only [facF, facF_none h t]
theorem facF_succ {N : Nat} {zs : List Int} {j : Nat} {L : Nat → Nat → Int} {D : List Int} {b : Bool} (h : facF N zs j = some (L, D, b)) : facF N zs (j + 1) =
    if (diagF N j zs (fun k => D.getD k 0) L).1 ≤ 0 then none
      else some ((rowsF N j zs (diagF N j zs (fun k => D.getD k 0) L).1 (fun k => D.getD k 0) (upd L j j 4294967296) (N - 1 - j)).1, D ++ [(diagF N j zs (fun k => D.getD k 0) L).1],
        b || (diagF N j zs (fun k => D.getD k 0) L).2 || (rowsF N j zs (diagF N j zs (fun k => D.getD k 0) L).1 (fun k => D.getD k 0) (upd L j j 4294967296) (N - 1 - j)).2) := by
  simp only [facF, h]
/-- a square of numbers, row by row -/
def flatL (N m : Nat) (L : Nat → Nat → Int) : List Int := (List.range m).map fun q => L (q / N) (q % N)
theorem flatL_length (N m : Nat) (L : Nat → Nat → Int) : (flatL N m L).length = m := by simp [flatL]
theorem flatL_row (N m : Nat) (L : Nat → Nat → Int) : (rowF .i64 m fun q => L (q / N) (q % N)).toList = intsV (flatL N m L) := by
  simp [rowF, intsV, flatL]
theorem flatL_at {N m i k : Nat} (L : Nat → Nat → Int) (hk : k < N) (h : i * N + k < m) : (flatL N m L).getD (i * N + k) 0 = L i k := by
  have h1 : (i * N + k) / N = i := by rw [Nat.mul_comm, Nat.mul_add_div (by omega), Nat.div_eq_of_lt hk, Nat.add_zero]
  have h2 : (i * N + k) % N = k := by rw [Nat.mul_comm, Nat.mul_add_mod, Nat.mod_eq_of_lt hk]
  rw [List.getD_eq_getElem?_getD]
  simp [flatL, h, h1, h2]
theorem flat_upd {N m i j : Nat} (L : Nat → Nat → Int) (v : Int) (hj : j < N) (q : Nat) : (if q = i * N + j then v else L (q / N) (q % N)) = upd L i j v (q / N) (q % N) := by
  unfold upd
  by_cases h : q = i * N + j
  · subst h
    have h1 : (i * N + j) / N = i := by rw [Nat.mul_comm, Nat.mul_add_div (by omega), Nat.div_eq_of_lt hj, Nat.add_zero]
    have h2 : (i * N + j) % N = j := by rw [Nat.mul_comm, Nat.mul_add_mod, Nat.mod_eq_of_lt hj]
    rw [if_pos rfl, if_pos ⟨h1, h2⟩]
  · rw [if_neg h, if_neg]
    rintro ⟨h1, h2⟩
    have := Nat.div_add_mod q N
    rw [h1, h2, Nat.mul_comm] at this
    exact h this.symm
/-- i rows, each of N numbers -/
def outF (N : Nat) (L : Nat → Nat → Int) : Nat → List Int
  | 0 => []
  | i + 1 => outF N L i ++ (List.range N).map (L i)
theorem outF_length (N : Nat) (L : Nat → Nat → Int) : ∀ i, (outF N L i).length = i * N
  | 0 => by simp [outF]
  | i + 1 => by simp [outF, outF_length N L i, Nat.add_mul]
theorem outF_flat (N : Nat) (L : Nat → Nat → Int) (hN : 0 < N) : ∀ i, outF N L i = flatL N (i * N) L
  | 0 => by simp [outF, flatL]
  | i + 1 => by
    have h := outF_flat N L hN i
    apply List.ext_getElem?
    intro q
    simp only [outF]
    rcases Nat.lt_or_ge q (i * N) with hq | hq
    · rw [List.getElem?_append_left (by rw [outF_length]; exact hq), h]
      simp [flatL, hq, Nat.add_mul, show q < i * N + N by omega]
    · rw [List.getElem?_append_right (by rw [outF_length]; exact hq), outF_length]
      obtain ⟨k, rfl⟩ : ∃ k, q = i * N + k := ⟨q - i * N, by omega⟩
      rw [show i * N + k - i * N = k by omega]
      by_cases hk : k < N
      · have h1 : (i * N + k) / N = i := by rw [Nat.mul_comm, Nat.mul_add_div hN, Nat.div_eq_of_lt hk, Nat.add_zero]
        have h2 : (i * N + k) % N = k := by rw [Nat.mul_comm, Nat.mul_add_mod, Nat.mod_eq_of_lt hk]
        simp [flatL, hk, Nat.add_mul, h1, h2]
      · simp [flatL, hk, Nat.add_mul]
end Go.Proofs.Ytejefecglioifaa.BigW
