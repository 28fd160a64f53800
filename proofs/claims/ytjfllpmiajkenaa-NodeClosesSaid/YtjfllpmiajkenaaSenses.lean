/- Contract: node.Sense and the reference's Sense answer alike at every computer. -/
import Derived.Test.YtjfllpmiajkenaaSenseR
namespace Go.Proofs.Ytjfllpmiajkenaa.Nd
open Go.RowKit Go.Proofs.Ytjfllpmiajkenaa.Mem Go.Proofs.Ytjfllpmiajkenaa.Rws Go.Proofs.Ytjfllpmiajkenaa.Flat
set_option linter.unusedVariables false

def kindV : Value → Option Bool
  | .int .i64 _ => some true
  | .bool _ => some false
  | _ => none
theorem ok_kind {v : Value} {b : Bool} (h : kindV v = some b) : okT b v := by
  unfold kindV at h
  split at h
  · cases h; exact ⟨_, rfl⟩
  · cases h; exact ⟨_, rfl⟩
  · cases h
theorem ok_rows {f : Nat → Value} (h : (List.range 73).map (fun i => kindV (f i)) = (List.range 73).map (fun i => some (nodeT i))) : ∀ i, i < 73 → okT (nodeT i) (f i) := fun i hi => by
  have h1 := congrArg (·[i]?) h
  simp [hi] at h1
  exact ok_kind h1
theorem ok_node (id t0 t1 t2 t3 : Int) : ∀ i, i < 73 → okT (nodeT i) (nodeK id t0 t1 t2 t3 3 i) := ok_rows (by kernel_rfl)
theorem last_node (id t0 t1 t2 t3 : Int) : row 74 (nodeK id t0 t1 t2 t3 3) = row 74 (nodeW (nodeK id t0 t1 t2 t3 3) (.slice none 0 0)) :=
  row_congr fun i hi => by
    unfold nodeW
    by_cases h : i = 73
    · subst h; rw [if_pos rfl]; rfl
    · rw [if_neg h]

/-- what a Sense answers: a computer, a message -/
def SenseAs (F : FuncId) (f : Nat → Value) (fr r0 r1 r2 : Int) (g : Nat → Value) (k i fr' : Int) (zs : List Int) : Prop :=
  ∀ (A : Option Addr) (c : Nat) (bs : List Bool) (B : Nat) (w : World), B ≤ w.heap.size → (A = none → c = 0) → bs.length ≤ c → bs.length ≤ 140737488351232 → Rd w B 1 A bs.length (boolsV bs) →
    Calls Try.prog F #[.agg (row 74 (nodeW f (.slice A bs.length c))), .int .i64 fr, .agg #[.int .i64 r0, .int .i64 r1, .int .i64 r2]] w fun e w' => NodeMsg w w' g bs k i fr' zs e

theorem senses (f : Nat → Value) (hf : ∀ i, i < 73 → okT (nodeT i) (f i)) (fr r0 r1 r2 : Int) :
    ∃ g k i fr' zs, (∀ i, i < 73 → okT (nodeT i) (g i)) ∧ zs.length ≤ 3 ∧ SenseAs 29 f fr r0 r1 r2 g k i fr' zs ∧ SenseAs 30 f fr r0 r1 r2 g k i fr' zs := by
  obtain ⟨id, hid⟩ := hf 0 (by omega)
  cases hb : badId id with
  | true =>
    exact ⟨f, 0, 0, 0, [], hf, by simp, fun A c bs B w h1 h2 h3 h4 h5 => sense_bad f hf id hb hid fr r0 r1 r2 A c bs B w h1 h2 h3 h4 h5,
      fun A c bs B w h1 h2 h3 h4 h5 => refsense_bad f hf id hb hid fr r0 r1 r2 A c bs B w h1 h2 h3 h4 h5⟩
  | false =>
    have hr : 0 ≤ id ∧ id < 4 := by unfold badId at hb; simp at hb; omega
    obtain ⟨k, rfl⟩ : ∃ k : Nat, id = (k : Int) := ⟨id.toNat, by omega⟩
    have hk : k < 4 := by omega
    exact ⟨senseF f fr k r0 r1 r2, 1, k, fr, [r0, r1, r2], ok_sense hf fr k hk r0 r1 r2, by simp, fun A c bs B w h1 h2 h3 h4 h5 => sense_any f hf k hk hid fr r0 r1 r2 A c bs B w h1 h2 h3 h4 h5,
      fun A c bs B w h1 h2 h3 h4 h5 => refsense_any f hf k hk hid fr r0 r1 r2 A c bs B w h1 h2 h3 h4 h5⟩

/-- what a computer begun answers -/
theorem sense_begun : SenseAs 29 (nodeK 2 1 0 0 0 3) 1 0 0 0 (senseF (nodeK 2 1 0 0 0 3) 1 2 0 0 0) 1 2 1 [0, 0, 0] := fun A c bs B w h1 h2 h3 h4 h5 =>
  sense_any (nodeK 2 1 0 0 0 3) (ok_node 2 1 0 0 0) 2 (by omega) rfl 1 0 0 0 A c bs B w h1 h2 h3 h4 h5
end Go.Proofs.Ytjfllpmiajkenaa.Nd
