/- Contracts: bus.Step and the reference's, in every case. -/
import Derived.Test.YtlcpackmoolngaaStepB
import Derived.Test.YtlcpackmoolngaaStepRa
import Derived.Test.YtlcpackmoolngaaStepRb
namespace Go.Proofs.Ytlcpackmoolngaa.Ss
open Go.ChangeShapes Go.WideShapes Go.ChangeAt Go.Shelf Go.RowKit Go.Lib Go.Sort Go.Proofs.Ytlcpackmoolngaa.Stb Go.Proofs.Ytlcpackmoolngaa.Bu Go.Proofs.Ytlcpackmoolngaa.Mem Go.Proofs.Ytlcpackmoolngaa.Op Go.Proofs.Ytlcpackmoolngaa.Sm
set_option linter.unusedVariables false
/-- P11.2, plainly -/
def Stepd (now ser t : Int) (qs : List Parc) (n s : Int) (ps rs : List Parc) (x : Int) : Prop :=
  (t < now ∨ 1099511627776 < t) ∧ n = 0 ∧ s = 0 ∧ ps = [] ∧ rs = [] ∧ x = 3 ∨
  (now ≤ t ∧ t ≤ 1099511627776) ∧ n = t ∧ s = ser ∧ ps = qs.filter (fun p => !decide (p.d ≤ t)) ∧ SortedOf (qs.filter fun p => decide (p.d ≤ t)) rs ∧ x = 0
theorem Stepd.one {now ser t : Int} {qs : List Parc} {n s : Int} {ps rs : List Parc} {x : Int} {n' s' : Int} {ps' rs' : List Parc} {x' : Int} (h : Stepd now ser t qs n s ps rs x) (h' : Stepd now ser t qs n' s' ps' rs' x') : n = n' ∧ s = s' ∧ ps = ps' ∧ rs = rs' ∧ x = x' := by
  rcases h with ⟨h, rfl, rfl, rfl, rfl, rfl⟩ | ⟨h, rfl, rfl, rfl, h2, rfl⟩ <;> rcases h' with ⟨h', rfl, rfl, rfl, rfl, rfl⟩ | ⟨h', rfl, rfl, rfl, h2', rfl⟩
  · exact ⟨rfl, rfl, rfl, rfl, rfl⟩
  · omega
  · omega
  · exact ⟨rfl, rfl, rfl, h2.one h2', rfl⟩
theorem Stepd.len {now ser t : Int} {qs : List Parc} {n s : Int} {ps rs : List Parc} {x : Int} (h : Stepd now ser t qs n s ps rs x) : ps.length ≤ qs.length ∧ rs.length ≤ qs.length := by
  rcases h with ⟨h, rfl, rfl, rfl, rfl, rfl⟩ | ⟨h, rfl, rfl, rfl, ⟨l, rfl, hp, _⟩, rfl⟩
  · simp
  · refine ⟨List.length_filter_le _ _, ?_⟩
    have := hp.length_eq
    rw [List.length_map, this, List.length_zipIdx]
    exact List.length_filter_le _ _
def StepAs (w w' : World) (now ser t : Int) (qs : List Parc) (e : Ending) : Prop :=
  ∃ n s A1 c1 ps A2 c2 rs x, Stepd now ser t qs n s ps rs x ∧ e = .returned (.tuple #[.agg #[.int .i64 n, .int .i64 s, .slice A1 ps.length c1], .slice A2 rs.length c2, .int .i64 x]) ∧ ParcsAt w' w'.heap.size A1 ps ∧ ParcsAt w' w'.heap.size A2 rs ∧ Below w.heap.size w w'
theorem bstep_any (now ser t : Int) (A : Option Addr) (c : Nat) (qs : List Parc) (B : Nat) (w : World) (hB : B ≤ w.heap.size) (hl : qs.length * 56 ≤ 140737488351232) (hq : ParcsAt w B A qs) :
    Calls Try.prog 15 #[.agg #[.int .i64 now, .int .i64 ser, .slice A qs.length c], .int .i64 t] w fun e w' => StepAs w w' now ser t qs e := by
  by_cases ht : t < now ∨ 1099511627776 < t
  · refine (step_any now ser t A c qs B w hB hl hq ht).mono ?_
    rintro e w' ⟨rfl, hb⟩
    exact ⟨0, 0, none, 0, [], none, 0, [], 3, .inl ⟨ht, rfl, rfl, rfl, rfl, rfl⟩, rfl, ParcsAt.nil _ _ _, ParcsAt.nil _ _ _, hb⟩
  · refine (stepB_any now ser t A c qs B w hB hl hq (by omega) (by omega)).mono ?_
    rintro e w' ⟨A1, c1, A2, c2, rs, rfl, hs, h1, h2, hb⟩
    exact ⟨t, ser, A1, c1, _, A2, c2, rs, 0, .inr ⟨by omega, rfl, rfl, rfl, hs, rfl⟩, rfl, h2, h1, hb⟩
theorem refbstep_any (now ser t : Int) (A : Option Addr) (c : Nat) (qs : List Parc) (B : Nat) (w : World) (hB : B ≤ w.heap.size) (hl : qs.length * 56 ≤ 140737488351232) (hq : ParcsAt w B A qs) :
    Calls Try.prog 16 #[.agg #[.int .i64 now, .int .i64 ser, .slice A qs.length c], .int .i64 t] w fun e w' => StepAs w w' now ser t qs e := by
  by_cases ht : t < now ∨ 1099511627776 < t
  · refine (refstepA_any now ser t A c qs B w hB hl hq ht).mono ?_
    rintro e w' ⟨rfl, hb⟩
    exact ⟨0, 0, none, 0, [], none, 0, [], 3, .inl ⟨ht, rfl, rfl, rfl, rfl, rfl⟩, rfl, ParcsAt.nil _ _ _, ParcsAt.nil _ _ _, hb⟩
  · refine (refstepB_any now ser t A c qs B w hB hl hq (by omega) (by omega)).mono ?_
    rintro e w' ⟨A1, c1, A2, c2, rs, rfl, hs, h1, h2, hb⟩
    exact ⟨t, ser, A1, c1, _, A2, c2, rs, 0, .inr ⟨by omega, rfl, rfl, rfl, hs, rfl⟩, rfl, h2, h1, hb⟩
end Go.Proofs.Ytlcpackmoolngaa.Ss
