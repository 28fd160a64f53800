/- Close, of node and of the reference: one word for both, at any computer. -/
import Derived.Test.YtjfllpmiajkenaaClose
import Derived.Test.YtjfllpmiajkenaaCloseR
import Derived.Test.YtjfllpmiajkenaaMsgAs
namespace Go.Proofs.Ytjfllpmiajkenaa.Nd
open Go.RowKit Go.Proofs.Ytjfllpmiajkenaa.Mem Go.Proofs.Ytjfllpmiajkenaa.Rws Go.Proofs.Ytjfllpmiajkenaa.Flat
set_option linter.unusedVariables false

def repLs : List Bool := [true, true, true, true, true, true, true, true, true, false, false, false, false, false]
def okR (rf : Nat → Value) : Prop := ∀ j (h : j < repLs.length), okT repLs[j] (rf (0 + j))
def RepAs (F : FuncId) (f : Nat → Value) (ms : List Ms.Msg) (g rf : Nat → Value) : Prop :=
  ∀ (A : Option Addr) (c : Nat) (bs : List Bool) (AI : Option Addr) (ci : Nat) (B : Nat) (w : World), B ≤ w.heap.size → (A = none → c = 0) → bs.length ≤ c → bs.length ≤ 140737488351232 → Rd w B 1 A bs.length (boolsV bs) → ms.length ≤ 140737488355328 → Ms.MsgsAt w B AI ms →
    Calls Try.prog F #[.agg (row 74 (nodeW f (.slice A bs.length c))), .slice AI ms.length ci] w fun e w' => NodeRep w w' g bs (row 14 rf) e
def rep0F (j : Nat) : Value := if j < 9 then .int .i64 0 else .bool false
theorem okR_cases {rf : Nat → Value} (h : ∀ j, j < 14 → okT (decide (j < 9)) (rf j)) : okR rf := fun j hj => by
  have hj' : j < 14 := hj
  have e : repLs[j] = decide (j < 9) := by
    obtain rfl | rfl | rfl | rfl | rfl | rfl | rfl | rfl | rfl | rfl | rfl | rfl | rfl | rfl : j = 0 ∨ j = 1 ∨ j = 2 ∨ j = 3 ∨ j = 4 ∨ j = 5 ∨ j = 6 ∨ j = 7 ∨ j = 8 ∨ j = 9 ∨ j = 10 ∨ j = 11 ∨ j = 12 ∨ j = 13 := by omega
    all_goals rfl
  have h1 := h j hj'
  rw [← e] at h1
  rw [Nat.zero_add]
  exact h1
theorem okR_zero : okR rep0F := okR_cases fun j hj => by
  unfold rep0F
  by_cases h : j < 9
  · rw [if_pos h, decide_eq_true h]; exact ⟨_, rfl⟩
  · rw [if_neg h, decide_eq_false h]; exact ⟨_, rfl⟩
theorem okR_rep {g : Nat → Value} (hg : ∀ i, i < 73 → okT (nodeT i) (g i)) : okR (repF g) := okR_cases fun j hj => by
  obtain rfl | rfl | rfl | rfl | rfl | rfl | rfl | rfl | rfl | rfl | rfl | rfl | rfl | rfl : j = 0 ∨ j = 1 ∨ j = 2 ∨ j = 3 ∨ j = 4 ∨ j = 5 ∨ j = 6 ∨ j = 7 ∨ j = 8 ∨ j = 9 ∨ j = 10 ∨ j = 11 ∨ j = 12 ∨ j = 13 := by omega
  · exact hg 0 (by omega)
  · exact hg 1 (by omega)
  · exact hg 67 (by omega)
  · exact hg 68 (by omega)
  · exact hg 69 (by omega)
  · exact hg 6 (by omega)
  · exact hg 13 (by omega)
  · exact hg 20 (by omega)
  · exact hg 70 (by omega)
  · exact hg 72 (by omega)
  · exact hg 27 (by omega)
  · exact hg 28 (by omega)
  · exact hg 29 (by omega)
  · exact hg 30 (by omega)
theorem okR_one {rf : Nat → Value} (h : okR rf) : (row 14 rf).all (·.oneCell') = true := row_one fun j hj => by
  have h1 := h j hj
  rw [Nat.zero_add] at h1
  cases hb : repLs[j] with
  | true => rw [hb] at h1; obtain ⟨n, h1⟩ := h1; rw [h1]; rfl
  | false => rw [hb] at h1; obtain ⟨n, h1⟩ := h1; rw [h1]; rfl

theorem closes (f : Nat → Value) (hf : ∀ i, i < 73 → okT (nodeT i) (f i)) (ms : List Ms.Msg) :
    ∃ g rf, (∀ i, i < 73 → okT (nodeT i) (g i)) ∧ okR rf ∧ RepAs 20 f ms g rf ∧ RepAs 21 f ms g rf := by
  obtain ⟨id, hid⟩ := hf 0 (by omega)
  obtain ⟨fr, hfr⟩ := hf 1 (by omega)
  cases hb : badId id with
  | true =>
    exact ⟨f, rep0F, hf, okR_zero, fun A c bs AI ci B w h1 h2 h3 h4 h5 h6 h7 => close_bad f hf id hb hid A c bs AI ci ms B w h1 h2 h3 h4 h5 h6 h7,
      fun A c bs AI ci B w h1 h2 h3 h4 h5 h6 h7 => refclose_bad f hf id hb hid A c bs AI ci ms B w h1 h2 h3 h4 h5 h6 h7⟩
  | false =>
    obtain ⟨k, hk, hid⟩ := good_id hid hb
    exact ⟨_, _, ok_close hf (fun i : Nat => Ms.firstOf (k : Int) fr 5 24 (i : Int) ms), okR_rep (ok_close hf _), fun A c bs AI ci B w h1 h2 h3 h4 h5 h6 h7 => close_any f hf k hk hid fr hfr A c bs AI ci ms B w h1 h2 h3 h4 h5 h6 h7,
      fun A c bs AI ci B w h1 h2 h3 h4 h5 h6 h7 => refclose_any f hf k hk hid fr hfr A c bs AI ci ms B w h1 h2 h3 h4 h5 h6 h7⟩

theorem close_begun : ∃ g rf, (∀ i, i < 73 → okT (nodeT i) (g i)) ∧ okR rf ∧ rf 0 = .int .i64 2 ∧ RepAs 20 (nodeK 2 1 0 0 0 3) [] g rf :=
  ⟨_, _, ok_close (ok_node 2 1 0 0 0) (fun i : Nat => Ms.firstOf 2 0 5 24 (i : Int) []), okR_rep (ok_close (ok_node 2 1 0 0 0) _), show repF (closeF (fun i : Nat => Ms.firstOf 2 0 5 24 (i : Int) []) (nodeK 2 1 0 0 0 3)) 0 = .int .i64 2 from (close_keep (fun i : Nat => Ms.firstOf 2 0 5 24 (i : Int) []) (nodeK 2 1 0 0 0 3) 0 (by omega)).trans rfl, fun A c bs AI ci B w h1 h2 h3 h4 h5 h6 h7 => close_any (nodeK 2 1 0 0 0 3) (ok_node 2 1 0 0 0) 2 (by omega) rfl 0 rfl A c bs AI ci [] B w h1 h2 h3 h4 h5 h6 h7⟩
end Go.Proofs.Ytjfllpmiajkenaa.Nd
