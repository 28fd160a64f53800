/- Two words divided by one of 64 bits, by halves: what the steps come to. No program in sight. -/
import Derived.IntWalk
namespace Go.Proofs.Ytejefecglioifaa.Div64Law

/-- where the trials of a half stand: U is divided by V; h is U without its lowest half, top is V's higher half -/
structure Trial (U V h top g r : Nat) : Prop where
  sum : g * top + r = h
  ge : U / V ≤ g

structure Half (U V h x top next : Nat) : Prop where
  hU : U = h * 4294967296 + x
  hV : V = top * 4294967296 + next
  hx : x < 4294967296
  hn : next < 4294967296
  ht : 2147483648 ≤ top
  ht2 : top < 4294967296
  lt : h < V

theorem mul_le_word {x y : Nat} (hx : x ≤ 4294967295) (hy : y ≤ 4294967295) : x * y ≤ 18446744065119617025 := Nat.mul_le_mul hx hy

theorem Half.pos {U V h x top next : Nat} (S : Half U V h x top next) : 0 < V := by
  have := S.hV; have := S.ht; omega

theorem Half.first {U V h x top next : Nat} (S : Half U V h x top next) : Trial U V h top (h / top) (h % top) := by
  have ht := S.ht
  refine ⟨by rw [Nat.mul_comm]; exact Nat.div_add_mod _ _, ?_⟩
  rw [Nat.le_div_iff_mul_le (by omega)]
  have hq : U / V * V ≤ U := Nat.div_mul_le_self _ _
  generalize U / V = q at hq
  have e1 : q * V = q * top * 4294967296 + q * next := by rw [S.hV, Nat.mul_add q (top * 4294967296) next, ← Nat.mul_assoc q top 4294967296]
  rw [e1, S.hU] at hq
  have := S.hx
  omega

theorem Half.less {U V h x top next g r : Nat} (S : Half U V h x top next) (T : Trial U V h top g r) (hc : 4294967296 ≤ g ∨ r * 4294967296 + x < g * next) :
    0 < g ∧ Trial U V h top (g - 1) (r + top) := by
  have hp := S.pos
  obtain ⟨h1, h2⟩ := T
  have hlt : U / V < g := by
    rcases hc with hc | hc
    · have : U / V < 4294967296 := by
        rw [Nat.div_lt_iff_lt_mul hp, S.hU]
        have := S.lt
        have := S.hx
        omega
      omega
    · have e1 : g * V = g * top * 4294967296 + g * next := by rw [S.hV, Nat.mul_add g (top * 4294967296) next, ← Nat.mul_assoc g top 4294967296]
      rw [Nat.div_lt_iff_lt_mul hp, S.hU, e1, ← h1, Nat.add_mul (g * top) r 4294967296]
      rw [Nat.add_assoc]
      exact Nat.add_lt_add_left hc _
  have hg0 : 0 < g := Nat.lt_of_le_of_lt (Nat.zero_le _) hlt
  refine ⟨hg0, ?_, Nat.le_sub_one_of_lt hlt⟩
  obtain ⟨k, rfl⟩ : ∃ k, g = k + 1 := ⟨g - 1, by omega⟩
  rw [Nat.add_mul, Nat.one_mul] at h1
  rw [Nat.add_sub_cancel]
  omega

theorem Half.last {U V h x top next g r : Nat} (S : Half U V h x top next) (T : Trial U V h top g r) (hc : (g < 4294967296 ∧ g * next ≤ r * 4294967296 + x) ∨ 4294967296 ≤ r) : g = U / V := by
  have hp := S.pos
  obtain ⟨h1, h2⟩ := T
  have hle : g * V ≤ U := by
    have hm : g * next ≤ r * 4294967296 + x := by
      rcases hc with hc | hc
      · exact hc.2
      · have hg : g < 4294967296 := by
          have h3 : g * top < 4294967296 * top := by
            have := S.lt
            have := S.hV
            have := S.hn
            omega
          exact Nat.lt_of_mul_lt_mul_right h3
        have := mul_le_word (x := g) (y := next) (by omega) (by have := S.hn; omega)
        have : 4294967296 * 4294967296 ≤ r * 4294967296 := Nat.mul_le_mul_right _ hc
        omega
    have e1 : g * V = g * top * 4294967296 + g * next := by rw [S.hV, Nat.mul_add g (top * 4294967296) next, ← Nat.mul_assoc g top 4294967296]
    rw [S.hU, e1]
    omega
  have := (Nat.le_div_iff_mul_le hp).2 hle
  omega

theorem Half.bound {U V h x top next : Nat} (S : Half U V h x top next) : h / top ≤ 4294967297 :=
  Nat.le_of_lt_succ (Nat.div_lt_of_lt_mul (show h < top * 4294967298 by have := S.lt; have := S.hV; have := S.hn; have := S.ht; omega))

theorem Half.word {U V h x top next : Nat} (S : Half U V h x top next) : U / V < 4294967296 := by
  rw [Nat.div_lt_iff_lt_mul S.pos, S.hU]
  have := S.lt
  have := S.hx
  omega

/-- both halves together -/
theorem both {hi lo un1 un0 q1 q0 r1 r0 V : Nat} (h1 : hi * 4294967296 + un1 = q1 * V + r1) (h0 : r1 * 4294967296 + un0 = q0 * V + r0) (hr : r0 < V) (hlo : lo = un1 * 4294967296 + un0) :
    (hi * 18446744073709551616 + lo) / V = q1 * 4294967296 + q0 ∧ (hi * 18446744073709551616 + lo) % V = r0 := by
  have hp : 0 < V := by omega
  have e : hi * 18446744073709551616 + lo = r0 + V * (q1 * 4294967296 + q0) := by
    have e1 : V * (q1 * 4294967296 + q0) = q1 * V * 4294967296 + q0 * V := by
      rw [Nat.mul_add V (q1 * 4294967296) q0, Nat.mul_comm V q0, ← Nat.mul_assoc V q1 4294967296, Nat.mul_comm V q1]
    rw [e1]
    have a1 : hi * 18446744073709551616 + un1 * 4294967296 = q1 * V * 4294967296 + r1 * 4294967296 := by
      have h := congrArg (· * 4294967296) h1
      simp only [Nat.add_mul, Nat.mul_assoc, Nat.reduceMul] at h ⊢
      exact h
    clear e1 hr h1
    rw [hlo, ← Nat.add_assoc, a1, Nat.add_assoc, h0, Nat.add_comm r0, Nat.add_assoc]
  rw [e]
  exact ⟨by rw [Nat.add_mul_div_left _ _ hp, Nat.div_eq_of_lt hr, Nat.zero_add], by rw [Nat.add_mul_mod_self_left, Nat.mod_eq_of_lt hr]⟩
end Go.Proofs.Ytejefecglioifaa.Div64Law
