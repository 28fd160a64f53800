/- A filter's Begin, Step and Run: what they answer (P4.1, P4.4). -/
import Derived.Test.YtajhkbdaoakogaaPredictR
import Derived.Test.YtajhkbdaoakogaaUpdateR
namespace Go.Proofs.Ytajhkbdaoakogaa.BigW
open Go.RowKit Go.Proofs.Ytajhkbdaoakogaa.Mem Go.Proofs.Ytajhkbdaoakogaa.BigLaw
set_option linter.unusedVariables false

theorem begin_any (x : Int) (w : World) : Calls Try.prog 17 #[.int .i64 x] w fun e w' => e = .returned (stV ⟨x, 0, 4294967296, 0, 4294967296, false, 0⟩) ∧ Below w.heap.size w w' := by
  unfold stV stC
  go_enter Try.func17, Try.ntmps17
  go_wp2
  refine bodyPost_ret (v := .agg #[.int .i64 x, .int .i64 0, .int .i64 4294967296, .int .i64 0, .int .i64 4294967296, .bool false, .int .i64 0]) (by simp [results, Try.results17, go_sem]) rfl ⟨rfl, ?_⟩
  exact (Below.refl _ _).alloc (Nat.le_refl _) _

/-- P4.4: one step -/
def fstep (s : St) (dt q r gate z : Int) : St × Bool := update (predict s dt q) z r gate
theorem step_in {s : St} (h : StIn s) (dt q r gate z : Int) : StIn (fstep s dt q r gate z).1 := update_in (predict_in h dt q) z r gate
/-- P4.4: step by step, and how many readings were taken -/
def runs (dt q r gate : Int) (p : St × Int) (l : List Int) : St × Int :=
  l.foldl (fun p z => ((fstep p.1 dt q r gate z).1, if (fstep p.1 dt q r gate z).2 then p.2 + 1 else p.2)) p
/-- a tuning -/
def tunC (dt q r gate : Int) : Array Value := #[.int .i64 dt, .int .i64 q, .int .i64 r, .int .i64 gate]
end Go.Proofs.Ytajhkbdaoakogaa.BigW
