/- Relay's contracts in one word. -/
import Derived.Test.YtfaielkkecphbaaRelayR
import Derived.Test.YtfaielkkecphbaaMsgAs
namespace Go.Proofs.Ytfaielkkecphbaa.Nd
open Go.RowKit Go.Proofs.Ytfaielkkecphbaa.Mem Go.Proofs.Ytfaielkkecphbaa.Rws Go.Proofs.Ytfaielkkecphbaa.Flat
set_option linter.unusedVariables false

theorem relays (f : Nat → Value) (hf : ∀ i, i < 73 → okT (nodeT i) (f i)) (ms : List Ms.Msg) :
    ∃ g k i fr zs, (∀ i, i < 73 → okT (nodeT i) (g i)) ∧ zs.length ≤ 140737488355328 ∧ MsgAs 67 f ms g k i fr zs ∧ MsgAs 68 f ms g k i fr zs := by
  obtain ⟨id, hid⟩ := hf 0 (by omega)
  obtain ⟨fr, hfr⟩ := hf 1 (by omega)
  cases hb : badId id with
  | true =>
    exact ⟨f, 0, 0, 0, [], hf, by simp, fun A c bs AI ci B w h1 h2 h3 h4 h5 h6 h7 => relay_bad f hf id hb hid A c bs AI ci ms B w h1 h2 h3 h4 h5 h6 h7,
      fun A c bs AI ci B w h1 h2 h3 h4 h5 h6 h7 => refrelay_bad f hf id hb hid A c bs AI ci ms B w h1 h2 h3 h4 h5 h6 h7⟩
  | false =>
    obtain ⟨k, hk, hid⟩ := good_id hid hb
    exact ⟨_, 2, k, fr, _, ok_relay hf (relayV (k : Int) fr ms) 4 (Nat.le_refl _), by simp [dvs], fun A c bs AI ci B w h1 h2 h3 h4 h5 h6 h7 => relay_any f hf k hk hid fr hfr A c bs AI ci ms B w h1 h2 h3 h4 h5 h6 h7,
      fun A c bs AI ci B w h1 h2 h3 h4 h5 h6 h7 => refrelay_any f hf k hk hid fr hfr A c bs AI ci ms B w h1 h2 h3 h4 h5 h6 h7⟩

theorem relay_begun : ∃ g k fr zs, (∀ i, i < 73 → okT (nodeT i) (g i)) ∧ MsgAs 67 (nodeK 2 1 0 0 0 3) [] g k 2 fr zs :=
  ⟨_, 2, 0, _, ok_relay (ok_node 2 1 0 0 0) (relayV 2 0 []) 4 (Nat.le_refl _), fun A c bs AI ci B w h1 h2 h3 h4 h5 h6 h7 => relay_any (nodeK 2 1 0 0 0 3) (ok_node 2 1 0 0 0) 2 (by omega) rfl 0 rfl A c bs AI ci [] B w h1 h2 h3 h4 h5 h6 h7⟩
end Go.Proofs.Ytfaielkkecphbaa.Nd
