/- Judge, of node and of the reference: one word for both, at any computer. -/
import Derived.Test.YtjfllpmiajkenaaJudge
import Derived.Test.YtjfllpmiajkenaaJudgeR
import Derived.Test.YtjfllpmiajkenaaMsgAs
import Derived.Test.YtjfllpmiajkenaaNodeM
namespace Go.Proofs.Ytjfllpmiajkenaa.Nd
open Go.RowKit Go.Proofs.Ytjfllpmiajkenaa.Mem Go.Proofs.Ytjfllpmiajkenaa.Rws Go.Proofs.Ytjfllpmiajkenaa.Flat
set_option linter.unusedVariables false

def MsgAsB (F : FuncId) (f : Nat → Value) (ms : List Ms.Msg) (bs : List Bool) (g : Nat → Value) (bo : List Bool) (k i fr : Int) (zs : List Int) : Prop :=
  ∀ (A : Option Addr) (c : Nat) (AI : Option Addr) (ci : Nat) (B : Nat) (w : World), B ≤ w.heap.size → (A = none → c = 0) → bs.length ≤ c → bs.length ≤ 140737488351232 → Rd w B 1 A bs.length (boolsV bs) → ms.length ≤ 140737488355328 → Ms.MsgsAt w B AI ms →
    Calls Try.prog F #[.agg (row 74 (nodeW f (.slice A bs.length c))), .slice AI ms.length ci] w fun e w' => NodeMsg w w' g bo k i fr zs e

theorem judges (f : Nat → Value) (hf : ∀ i, i < 73 → okT (nodeT i) (f i)) (hw : ∀ i z, i < 73 → f i = .int .i64 z → Wf z) (ms : List Ms.Msg) (hmw : ∀ m ∈ ms, ∀ z ∈ m.zs, Wf z) :
    ∃ g k i fr zs, (∀ i, i < 73 → okT (nodeT i) (g i)) ∧ zs.length ≤ 140737488355328 ∧ ∀ bs : List Bool, ∃ bo : List Bool, (bs.length ≤ 140737488351232 → bo.length ≤ 140737488351232) ∧ MsgAsB 13 f ms bs g bo k i fr zs ∧ MsgAsB 16 f ms bs g bo k i fr zs := by
  obtain ⟨id, hid⟩ := hf 0 (by omega)
  obtain ⟨fr, hfr⟩ := hf 1 (by omega)
  cases hb : badId id with
  | true =>
    exact ⟨f, 0, 0, 0, [], hf, by simp, fun bs => ⟨bs, fun h => h, fun A c AI ci B w h1 h2 h3 h4 h5 h6 h7 => judge_bad f hf id hb hid A c bs AI ci ms B w h1 h2 h3 h4 h5 h6 h7,
      fun A c AI ci B w h1 h2 h3 h4 h5 h6 h7 => refjudge_bad f hf id hb hid A c bs AI ci ms B w h1 h2 h3 h4 h5 h6 h7⟩⟩
  | false =>
    obtain ⟨k, hk, hid⟩ := good_id hid hb
    exact ⟨judgeF (digestsZ k fr ms f) f, 5, k, fr, _, ok_judge hf _, by rw [packZ_len]; omega, fun bs => ⟨agreeL (digestsZ k fr ms f) (inB f), fun _ => show (4 : Nat) ≤ 140737488351232 by omega, fun A c AI ci B w h1 h2 h3 h4 h5 h6 h7 => judge_any f hf k hk hid fr hfr A c bs AI ci ms B w h1 h2 h3 h4 h5 h6 h7 hw hmw,
      fun A c AI ci B w h1 h2 h3 h4 h5 h6 h7 => refjudge_any f hf k hk hid fr hfr A c bs AI ci ms B w h1 h2 h3 h4 h5 h6 h7 hw hmw⟩⟩

def wfB : Value → Bool
  | .int .i64 z => (Lit.int .i64 z).wf
  | _ => true
theorem wf_begun : ∀ i z, i < 73 → nodeK 2 1 0 0 0 3 i = .int .i64 z → Wf z := fun i z hi h => by
  have hall : (List.range 73).all (fun i => wfB (nodeK 2 1 0 0 0 3 i)) = true := by kernel_rfl
  have h1 := List.all_eq_true.1 hall i (List.mem_range.2 hi)
  rw [h] at h1
  exact h1
theorem judge_begun : ∃ g k fr zs bo, (∀ i, i < 73 → okT (nodeT i) (g i)) ∧ MsgAsB 13 (nodeK 2 1 0 0 0 3) [] [] g bo k 2 fr zs :=
  ⟨_, 5, 0, _, _, ok_judge (ok_node 2 1 0 0 0) (digestsZ 2 0 [] (nodeK 2 1 0 0 0 3)), fun A c AI ci B w h1 h2 h3 h4 h5 h6 h7 => judge_any (nodeK 2 1 0 0 0 3) (ok_node 2 1 0 0 0) 2 (by omega) rfl 0 rfl A c [] AI ci [] B w h1 h2 h3 h4 h5 h6 h7 wf_begun (fun m h => by cases h)⟩
end Go.Proofs.Ytjfllpmiajkenaa.Nd
