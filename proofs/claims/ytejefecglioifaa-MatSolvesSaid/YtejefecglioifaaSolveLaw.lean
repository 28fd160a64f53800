/- P3.6 in plain words: the column that a matrix times it makes another; a list of numbers in a block. -/
import Derived.Test.YtejefecglioifaaFacLaw
import Derived.Test.YtejefecglioifaaMats
import Derived.Test.YtejefecglioifaaRdiv
namespace Go.Proofs.Ytejefecglioifaa.BigW
open Go.RowKit Go.Proofs.Ytejefecglioifaa.Mem Go.Proofs.Ytejefecglioifaa.BigLaw Go.Proofs.Ytejefecglioifaa.Ints
set_option linter.unusedVariables false

/-- a number less products, k of them; whether anything bent -/
def lessW (p x : Nat → Int) (s : Int) : Nat → Int × Bool
  | 0 => (s, false)
  | k + 1 => ((fsub (lessW p x s k).1 (fmul (p k) (x k)).1).1, (lessW p x s k).2 || (fmul (p k) (x k)).2 || (fsub (lessW p x s k).1 (fmul (p k) (x k)).1).2)
theorem lessW_range (p x : Nat → Int) {s : Int} (h : In64 s) : ∀ k, In64 (lessW p x s k).1
  | 0 => h
  | k + 1 => fsub_range _ _
/-- one number of a list written -/
def put1 (f : Nat → Int) (i : Nat) (v : Int) : Nat → Int := fun j => if j = i then v else f j
theorem put1_same (f : Nat → Int) (i : Nat) (v : Int) : put1 f i v i = v := by unfold put1; rw [if_pos rfl]
theorem put1_other (f : Nat → Int) {i j : Nat} (v : Int) (h : j ≠ i) : put1 f i v j = f j := by unfold put1; rw [if_neg h]
theorem put1_range {f : Nat → Int} (h : ∀ k, In64 (f k)) (i : Nat) {v : Int} (hv : In64 v) : ∀ k, In64 (put1 f i v k) := fun k => by
  unfold put1
  split
  · exact hv
  · exact h k
/-- forward: i numbers -/
def fwdF (L : Nat → Nat → Int) (b : Nat → Int) : Nat → (Nat → Int) × Bool
  | 0 => (fun _ => 0, false)
  | i + 1 => (put1 (fwdF L b i).1 i (lessW (L i) (fwdF L b i).1 (b i) i).1, (fwdF L b i).2 || (lessW (L i) (fwdF L b i).1 (b i) i).2)
/-- each by the diagonal -/
def divF (x d : Nat → Int) : Nat → (Nat → Int) × Bool
  | 0 => (fun _ => 0, false)
  | i + 1 => (put1 (divF x d i).1 i (fdiv (x i) (d i)).1, (divF x d i).2 || (fdiv (x i) (d i)).2)
/-- backward: t numbers, from the last -/
def bakF (N : Nat) (L : Nat → Nat → Int) (z : Nat → Int) : Nat → (Nat → Int) × Bool
  | 0 => (fun _ => 0, false)
  | t + 1 => (put1 (bakF N L z t).1 (N - 1 - t) (lessW (fun m => L (N - 1 - t + 1 + m) (N - 1 - t)) (fun m => (bakF N L z t).1 (N - 1 - t + 1 + m)) (z (N - 1 - t)) t).1, (bakF N L z t).2 || (lessW (fun m => L (N - 1 - t + 1 + m) (N - 1 - t)) (fun m => (bakF N L z t).1 (N - 1 - t + 1 + m)) (z (N - 1 - t)) t).2)
theorem zero_range : ∀ k : Nat, In64 ((fun _ => (0 : Int)) k) := fun _ => by show In64 0; unfold In64; omega
theorem fwdF_range (L : Nat → Nat → Int) {b : Nat → Int} (h : ∀ k, In64 (b k)) : ∀ i k, In64 ((fwdF L b i).1 k)
  | 0 => zero_range
  | i + 1 => put1_range (fwdF_range L h i) i (lessW_range _ _ (h i) i)
theorem divF_range (x d : Nat → Int) : ∀ i k, In64 ((divF x d i).1 k)
  | 0 => zero_range
  | i + 1 => put1_range (divF_range x d i) i (fdiv_range _ _)
theorem bakF_range (N : Nat) (L : Nat → Nat → Int) {z : Nat → Int} (h : ∀ k, In64 (z k)) : ∀ t k, In64 ((bakF N L z t).1 k)
  | 0 => zero_range
  | t + 1 => put1_range (bakF_range N L h t) _ (lessW_range _ _ (h _) t)
/-- below i the new numbers, else the old -/
def mixU (i : Nat) (f c : Nat → Int) : Nat → Int := fun j => if j < i then f j else c j
/-- from i on the new numbers, else the old -/
def mixD (i : Nat) (f c : Nat → Int) : Nat → Int := fun j => if i ≤ j then f j else c j
theorem mixU_at (i : Nat) (f c : Nat → Int) : mixU i f c i = c i := by unfold mixU; rw [if_neg (by omega)]
theorem mixU_zero (f c : Nat → Int) (j : Nat) : mixU 0 f c j = c j := by unfold mixU; rw [if_neg (by omega)]
theorem mixU_lt {i j : Nat} (f c : Nat → Int) (h : j < i) : mixU i f c j = f j := by unfold mixU; rw [if_pos h]
theorem mixU_succ (i : Nat) (f c : Nat → Int) (s : Int) (j : Nat) : put1 (mixU i f c) i s j = mixU (i + 1) (put1 f i s) c j := by
  simp only [put1, mixU]
  by_cases h : j = i
  · subst h; simp
  · by_cases h1 : j < i
    · simp [h, h1, show j < i + 1 by omega]
    · simp [h, h1, show ¬ j < i + 1 by omega]
theorem mixD_ge {i j : Nat} (f c : Nat → Int) (h : i ≤ j) : mixD i f c j = f j := by unfold mixD; rw [if_pos h]
theorem mixD_lt {i j : Nat} (f c : Nat → Int) (h : j < i) : mixD i f c j = c j := by unfold mixD; rw [if_neg (by omega)]
theorem mixD_succ (i : Nat) (f c : Nat → Int) (s : Int) (j : Nat) : put1 (mixD (i + 1) f c) i s j = mixD i (put1 f i s) c j := by
  simp only [put1, mixD]
  by_cases h : j = i
  · subst h; simp
  · by_cases h1 : i + 1 ≤ j
    · simp [h, h1, show i ≤ j by omega]
    · simp [h, h1, show ¬ i ≤ j by omega]
theorem put1_self (f : Nat → Int) (i : Nat) (j : Nat) : put1 f i (f i) j = f j := by
  unfold put1
  by_cases h : j = i
  · subst h; rw [if_pos rfl]
  · rw [if_neg h]
theorem put1_put1 (f : Nat → Int) (i : Nat) (a b : Int) (j : Nat) : put1 (put1 f i a) i b j = put1 f i b j := by
  unfold put1
  by_cases h : j = i
  · rw [if_pos h, if_pos h]
  · rw [if_neg h, if_neg h, if_neg h]
/-- what Solve answers for a matrix that is one and a column as long -/
def solA (N : Nat) (zs vs : List Int) : (List Int × Bool) × Int :=
  match facF N zs N with
  | none => (([], false), 9)
  | some (L, D, b) => (((List.range N).map (bakF N L (divF (fwdF L (fun k => vs.getD k 0) N).1 (fun k => D.getD k 0) N).1 N).1,
      b || (fwdF L (fun k => vs.getD k 0) N).2 || (divF (fwdF L (fun k => vs.getD k 0) N).1 (fun k => D.getD k 0) N).2 || (bakF N L (divF (fwdF L (fun k => vs.getD k 0) N).1 (fun k => D.getD k 0) N).1 N).2), 0)

/-- a block whose first n cells hold numbers -/
def ArrAt (w : World) (g n : Nat) (f : Nat → Int) : Prop := ∃ cs, Blk w g 3 cs ∧ ∀ k, k < n → cs[k]? = some (.int .i64 (f k))
section
variable {w w' : World} {g n : Nat} {f : Nat → Int}
theorem ArrAt.lt (h : ArrAt w g n f) : g < w.heap.size := by obtain ⟨cs, h, _⟩ := h; exact h.lt
theorem ArrAt.cell (h : ArrAt w g n f) {k : Nat} (hk : k < n) : w.cell? ⟨g, k, none⟩ = some (.int .i64 (f k)) := by
  obtain ⟨cs, h, hc⟩ := h
  exact (h.cell k).trans (hc k hk)
theorem ArrAt.thaw (h : ArrAt w g n f) (k : Nat) : w.frozen? ⟨g, k, none⟩ = false := by obtain ⟨cs, h, _⟩ := h; exact h.thaw k
theorem ArrAt.congr (h : ArrAt w g n f) {f' : Nat → Int} (e : ∀ k, k < n → f k = f' k) : ArrAt w g n f' := by
  obtain ⟨cs, h, hc⟩ := h
  exact ⟨cs, h, fun k hk => by rw [hc k hk, e k hk]⟩
theorem ArrAt.set (h : ArrAt w g n f) {k : Nat} (hk : k < n) (v : Int) : ArrAt (w.setCell ⟨g, k, none⟩ (.int .i64 v)) g n (put1 f k v) := by
  obtain ⟨cs, h, hc⟩ := h
  refine ⟨_, h.set k _, fun j hj => ?_⟩
  have hlt : j < cs.size := by
    have := hc j hj
    rcases Nat.lt_or_ge j cs.size with h1 | h1
    · exact h1
    · rw [Array.getElem?_eq_none h1] at this; cases this
  by_cases e : j = k
  · subst e
    rw [put1_same, Array.getElem?_setIfInBounds_self_of_lt hlt]
  · rw [put1_other f v e, Array.getElem?_setIfInBounds_ne (fun h => e h.symm)]
    exact hc j hj
theorem ArrAt.drew (h : ArrAt w g n f) : ArrAt w.drew g n f := by obtain ⟨cs, h, hc⟩ := h; exact ⟨cs, h.drew, hc⟩
theorem ArrAt.alloc (h : ArrAt w g n f) (o : Obj) : ArrAt (w.alloc o) g n f := by obtain ⟨cs, h, hc⟩ := h; exact ⟨cs, h.alloc o, hc⟩
theorem ArrAt.below {B : Nat} (h : ArrAt w g n f) (hb : Below B w w') (hg : g < B) : ArrAt w' g n f := by obtain ⟨cs, h, hc⟩ := h; exact ⟨cs, h.below hb hg, hc⟩
theorem ArrAt.grown {row : Option Nat} (h : ArrAt w g n f) (hb : w.grownBy w' row) (hg : some g ≠ row) : ArrAt w' g n f := by obtain ⟨cs, h, hc⟩ := h; exact ⟨cs, h.grown hb hg, hc⟩
theorem ArrAt.other (h : ArrAt w g n f) {p : Addr} (hp : g ≠ p.block) (u : Value) : ArrAt (w.setCell p u) g n f := by obtain ⟨cs, h, hc⟩ := h; exact ⟨cs, h.other hp u, hc⟩
theorem ArrAt.rd (h : ArrAt w g n f) : Rd w w.heap.size 1 (some ⟨g, 0, none⟩) n (intsV ((List.range n).map f)) :=
  ⟨by simp [intsV], fun _ => ⟨g, 0, rfl, h.lt, fun k u hu => by
    have hk : k < n := by
      rcases Nat.lt_or_ge k n with h1 | h1
      · exact h1
      · rw [List.getElem?_eq_none (by simp [intsV]; omega)] at hu; cases hu
    have h2 : (intsV ((List.range n).map f))[k]? = some (.int .i64 (f k)) := by simp [intsV, hk]
    rw [h2] at hu
    injection hu with hu
    rw [← hu, Nat.zero_add]
    exact h.cell hk⟩⟩
theorem ArrAt.of_row (h : Blk w g 3 (rowF .i64 n f)) : ArrAt w g n f := ⟨_, h, fun k hk => by rw [rowF_at _ _ _ _ hk]⟩
theorem ArrAt.of_own {base n c : Nat} {A : Option Addr} {vs : List Int} (h : w.ownsRow base 3 1 (.slice A n c) n (intsV vs)) (hn : vs.length = n) (h0 : 0 < n) : ∃ g, A = some ⟨g, 0, none⟩ ∧ base ≤ g ∧ n ≤ c ∧ ArrAt w g n (fun k => vs.getD k 0) := by
  obtain ⟨hl, h | ⟨b, cap, cur, hv, hb, hh, h1, h2, h3, h4⟩⟩ := h
  · omega
  · injection hv with e1 e2 e3
    subst e1 e3
    refine ⟨b, rfl, hb, h1, cur, hh, fun k hk => ?_⟩
    have hk' : k < vs.length := by omega
    have h5 : (cur.toList.take (n * 1))[k]? = some (.int .i64 vs[k]) := by rw [h4]; exact intsV_at vs k hk'
    rw [List.getElem?_take, if_pos (by omega)] at h5
    show cur[k]? = some (.int .i64 (vs.getD k 0))
    rw [show vs.getD k 0 = vs[k] from by simp [List.getD_eq_getElem?_getD, hk'], ← h5]
    simp
end
end Go.Proofs.Ytejefecglioifaa.BigW
