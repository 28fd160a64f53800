/- P12.7 in plain words: what Judge makes of a computer's cells. -/
import Derived.Test.YtjfllpmiajkenaaPack
import Derived.Test.YtjfllpmiajkenaaTaken
import Derived.Test.YtjfllpmiajkenaaStepM
import Derived.Test.YtjfllpmiajkenaaVoteLaw
namespace Go.Proofs.Ytjfllpmiajkenaa.Nd
open Go.RowKit Go.Proofs.Ytjfllpmiajkenaa.Mem Go.Proofs.Ytjfllpmiajkenaa.Rws Go.Proofs.Ytjfllpmiajkenaa.Flat
set_option linter.unusedVariables false
set_option linter.unusedSimpArgs false

def heardZ (f : Nat → Value) (s : Nat) : Int := iv (f (51 + s))
def inB (f : Nat → Value) (i : Nat) : Bool := bv (f (27 + i))
/-- what is taken for the digests -/
def digestsZ (k : Nat) (fr : Int) (ms : List Ms.Msg) (f : Nat → Value) (s : Nat) : Int := takenZ k s (heardZ f s) s (fun i => Ms.firstOf (k : Int) fr 2 4 (i : Int) ms)
def rollOf (f : Nat → Value) : RS := ⟨inB f, fun i => iv (f (31 + i)), fun i => iv (f (35 + i))⟩
def voteF (f : Nat → Value) (v : Int) (st : Bool) (i : Nat) : Value := if i = 71 then .int .i64 v else if i = 72 then .bool st else f i
def rollW (f : Nat → Value) (r : RS) (i : Nat) : Value := if 27 ≤ i ∧ i < 39 then rollF r.f r.m r.j (i - 27) else f i
def agreeL (L : Nat → Int) (I : Nat → Bool) : List Bool := (List.range 4).map fun i => Vt.agrees L I i
def judgeR (L : Nat → Int) (f : Nat → Value) : RS × List (Int × Int) × Int := stepR (rollOf f) (Vt.strong L (inB f)) (agreeL L (inB f))
/-- P12.7: the cells behind Judge -/
def judgeF (L : Nat → Int) (f : Nat → Value) : Nat → Value :=
  if (judgeR L f).2.2 = 0 then rollW (voteF f (Vt.val L (inB f)) (Vt.strong L (inB f))) (judgeR L f).1 else voteF f (Vt.val L (inB f)) (Vt.strong L (inB f))

theorem vote_row (f : Nat → Value) (S : Value) (v : Int) (st : Bool) (A : Option Addr) (n c : Nat) : row 74 (over 71 3 (fun i => if i = 0 then .int .i64 v else if i = 1 then .bool st else .slice A n c) (nodeW f S)) = row 74 (nodeW (voteF f v st) (.slice A n c)) := row_congr fun i hi => by
  by_cases h : 71 ≤ i
  · obtain rfl | rfl | rfl : i = 71 ∨ i = 72 ∨ i = 73 := by omega
    all_goals rfl
  · rw [over_out (by omega)]
    unfold nodeW voteF
    rw [if_neg (by omega), if_neg (by omega), if_neg (by omega), if_neg (by omega)]
theorem ver_one (v : Int) (st : Bool) (A : Option Addr) (n c i : Nat) : (if i = 0 then Value.int .i64 v else if i = 1 then .bool st else .slice A n c).oneCell' = true := by split; rfl; split <;> rfl
theorem verC_row (v : Int) (st : Bool) (A : Option Addr) (n c : Nat) : verC v st A n c = row 3 (fun i => if i = 0 then .int .i64 v else if i = 1 then .bool st else .slice A n c) := rfl
theorem ver_load (f : Nat → Value) (v : Int) (st : Bool) (A : Option Addr) (n c : Nat) : (row 3 fun j => nodeW (voteF f v st) (.slice A n c) (71 + j)) = verC v st A n c := rfl
theorem in_load {f : Nat → Value} (hf : ∀ i, i < 73 → okT (nodeT i) (f i)) (S : Value) : (row 4 fun j => nodeW f S (27 + j)) = row 4 fun i => .bool (inB f i) := row_congr fun i hi => by
  unfold nodeW
  rw [if_neg (by omega)]
  exact node_bool hf (27 + i) (by omega) (by omega)
theorem roll_load {f : Nat → Value} (hf : ∀ i, i < 73 → okT (nodeT i) (f i)) (v : Int) (st : Bool) (S : Value) : (row 12 fun j => nodeW (voteF f v st) S (27 + j)) = (rollOf f).row := row_congr fun i hi => by
  unfold nodeW voteF
  rw [if_neg (by omega), if_neg (by omega), if_neg (by omega)]
  unfold rollOf rollF
  by_cases h1 : i < 4
  · rw [if_pos h1]
    exact node_bool hf (27 + i) (by omega) (by omega)
  · rw [if_neg h1]
    by_cases h2 : i < 8
    · rw [if_pos h2, show 27 + i = 31 + (i - 4) by omega]
      exact node_int hf (31 + (i - 4)) (by omega) (by omega)
    · rw [if_neg h2, show 27 + i = 35 + (i - 8) by omega]
      exact node_int hf (35 + (i - 8)) (by omega) (by omega)
theorem roll_store (f : Nat → Value) (r : RS) (S : Value) : row 74 (over 27 12 (rollF r.f r.m r.j) (nodeW f S)) = row 74 (nodeW (rollW f r) S) := row_congr fun i hi => by
  unfold over nodeW rollW
  by_cases h : 27 ≤ i ∧ i < 39
  · rw [if_pos h, if_neg (by omega), if_pos h]
  · rw [if_neg h, if_neg h]
theorem ok_vote {f : Nat → Value} (hf : ∀ i, i < 73 → okT (nodeT i) (f i)) (v : Int) (st : Bool) : ∀ i, i < 73 → okT (nodeT i) (voteF f v st i) := fun i hi => by
  unfold voteF
  by_cases h1 : i = 71
  · subst h1; exact ⟨v, rfl⟩
  · rw [if_neg h1]
    by_cases h2 : i = 72
    · subst h2; exact ⟨st, rfl⟩
    · rw [if_neg h2]; exact hf i hi
theorem ok_rollW {f : Nat → Value} (hf : ∀ i, i < 73 → okT (nodeT i) (f i)) (r : RS) : ∀ i, i < 73 → okT (nodeT i) (rollW f r i) := fun i hi => by
  unfold rollW
  by_cases h : 27 ≤ i ∧ i < 39
  · rw [if_pos h]
    unfold rollF
    by_cases h1 : i - 27 < 4
    · rw [if_pos h1]
      obtain rfl | rfl | rfl | rfl : i = 27 ∨ i = 28 ∨ i = 29 ∨ i = 30 := by omega
      all_goals exact ⟨_, rfl⟩
    · rw [if_neg h1]
      have e : nodeT i = true := by unfold nodeT; simp; omega
      rw [e]
      split
      · exact ⟨_, rfl⟩
      · exact ⟨_, rfl⟩
  · rw [if_neg h]; exact hf i hi
theorem ok_judge {f : Nat → Value} (hf : ∀ i, i < 73 → okT (nodeT i) (f i)) (L : Nat → Int) : ∀ i, i < 73 → okT (nodeT i) (judgeF L f i) := by
  unfold judgeF
  split
  · exact ok_rollW (ok_vote hf _ _) _
  · exact ok_vote hf _ _
theorem judge_low (L : Nat → Int) (f : Nat → Value) (i : Nat) (h : i < 27) : judgeF L f i = f i := by
  unfold judgeF
  split
  · unfold rollW; rw [if_neg (by omega)]; unfold voteF; rw [if_neg (by omega), if_neg (by omega)]
  · unfold voteF; rw [if_neg (by omega), if_neg (by omega)]

theorem maj_mem (l : List Int) (o : Int) : MajLaw.maj l o = o ∨ MajLaw.maj l o ∈ l := by
  unfold MajLaw.maj
  split
  · next h =>
    right
    refine List.count_pos_iff.1 ?_
    show 0 < MajLaw.cnt (MajLaw.left l).2 l
    omega
  · exact .inl rfl
def Wf (z : Int) : Prop := (Lit.int .i64 z).wf = true
theorem wf_zero : Wf 0 := by unfold Wf; rfl
theorem wf_numAt {k : Nat} {o : Option Ms.Msg} (h : ∀ m, o = some m → ∀ z ∈ m.zs, Wf z) : Wf (numAt k o) := by
  cases o with
  | none => exact wf_zero
  | some m =>
    show Wf (m.zs.getD k 0)
    rw [List.getD_eq_getElem?_getD]
    cases e : m.zs[k]? with
    | none => exact wf_zero
    | some z => exact h m rfl z (List.mem_of_getElem? e)
theorem wf_taken {id ab : Nat} {hd : Int} {k : Nat} {o : Nat → Option Ms.Msg} (hh : Wf hd) (h : ∀ i m, o i = some m → ∀ z ∈ m.zs, Wf z) : Wf (takenZ id ab hd k o) := by
  unfold takenZ
  split
  · exact hh
  · rcases maj_mem (hd :: toldL id ab k o 4) 0 with e | e
    · rw [e]; exact wf_zero
    · generalize MajLaw.maj (hd :: toldL id ab k o 4) 0 = x at *
      rcases List.mem_cons.1 e with e | e
      · rw [e]; exact hh
      · unfold toldL Av.toldF at e
        obtain ⟨p, hp, e⟩ := List.mem_map.1 e
        rw [← e]
        exact wf_numAt fun m hm => h p m hm
theorem wf_digests {f : Nat → Value} (hf : ∀ i, i < 73 → okT (nodeT i) (f i)) (hw : ∀ i z, i < 73 → f i = .int .i64 z → Wf z) {ms : List Ms.Msg} (hm : ∀ m ∈ ms, ∀ z ∈ m.zs, Wf z) (k : Nat) (fr : Int) : ∀ i, i < 4 → Wf (digestsZ k fr ms f i) := fun i hi => by
  unfold digestsZ
  refine wf_taken ?_ fun j m h => hm m (List.mem_of_find?_eq_some h)
  have e : nodeT (51 + i) = true := by unfold nodeT; simp; omega
  have h := hf (51 + i) (by omega)
  rw [e] at h
  exact hw (51 + i) _ (by omega) (iv_of h)
end Go.Proofs.Ytjfllpmiajkenaa.Nd
