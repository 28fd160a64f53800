/- What a computer and a message answer to a list of messages: one word for Relay, Pass, Judge; Pass' contracts in it. -/
import Derived.Test.YtjfllpmiajkenaaPassR
import Derived.Test.YtjfllpmiajkenaaSenses
namespace Go.Proofs.Ytjfllpmiajkenaa.Nd
open Go.RowKit Go.Proofs.Ytjfllpmiajkenaa.Mem Go.Proofs.Ytjfllpmiajkenaa.Rws Go.Proofs.Ytjfllpmiajkenaa.Flat
set_option linter.unusedVariables false

def MsgAs (F : FuncId) (f : Nat → Value) (ms : List Ms.Msg) (g : Nat → Value) (k i fr : Int) (zs : List Int) : Prop :=
  ∀ (A : Option Addr) (c : Nat) (bs : List Bool) (AI : Option Addr) (ci : Nat) (B : Nat) (w : World), B ≤ w.heap.size → (A = none → c = 0) → bs.length ≤ c → bs.length ≤ 140737488351232 → Rd w B 1 A bs.length (boolsV bs) → ms.length ≤ 140737488355328 → Ms.MsgsAt w B AI ms →
    Calls Try.prog F #[.agg (row 74 (nodeW f (.slice A bs.length c))), .slice AI ms.length ci] w fun e w' => NodeMsg w w' g bs k i fr zs e

theorem good_id {f : Nat → Value} {id : Int} (hid : f 0 = .int .i64 id) (hb : badId id = false) : ∃ k : Nat, k < 4 ∧ f 0 = .int .i64 (k : Int) := by
  have hr : 0 ≤ id ∧ id < 4 := by unfold badId at hb; simp at hb; omega
  exact ⟨id.toNat, by omega, by rw [hid]; congr 1; omega⟩

theorem passes (f : Nat → Value) (hf : ∀ i, i < 73 → okT (nodeT i) (f i)) (ms : List Ms.Msg) :
    ∃ g k i fr zs, (∀ i, i < 73 → okT (nodeT i) (g i)) ∧ zs.length ≤ 140737488355328 ∧ MsgAs 31 f ms g k i fr zs ∧ MsgAs 32 f ms g k i fr zs := by
  obtain ⟨id, hid⟩ := hf 0 (by omega)
  obtain ⟨fr, hfr⟩ := hf 1 (by omega)
  cases hb : badId id with
  | true =>
    exact ⟨f, 0, 0, 0, [], hf, by simp, fun A c bs AI ci B w h1 h2 h3 h4 h5 h6 h7 => pass_bad f hf id hb hid A c bs AI ci ms B w h1 h2 h3 h4 h5 h6 h7,
      fun A c bs AI ci B w h1 h2 h3 h4 h5 h6 h7 => refpass_bad f hf id hb hid A c bs AI ci ms B w h1 h2 h3 h4 h5 h6 h7⟩
  | false =>
    obtain ⟨k, hk, hid⟩ := good_id hid hb
    exact ⟨_, 2, k, fr, _, ok_pass hf (passV (k : Int) fr ms) 4 (Nat.le_refl _), by simp [hvs], fun A c bs AI ci B w h1 h2 h3 h4 h5 h6 h7 => pass_any f hf k hk hid fr hfr A c bs AI ci ms B w h1 h2 h3 h4 h5 h6 h7,
      fun A c bs AI ci B w h1 h2 h3 h4 h5 h6 h7 => refpass_any f hf k hk hid fr hfr A c bs AI ci ms B w h1 h2 h3 h4 h5 h6 h7⟩

theorem pass_begun : ∃ g k fr zs, (∀ i, i < 73 → okT (nodeT i) (g i)) ∧ MsgAs 31 (nodeK 2 1 0 0 0 3) [] g k 2 fr zs :=
  ⟨_, 2, 0, _, ok_pass (ok_node 2 1 0 0 0) (passV 2 0 []) 4 (Nat.le_refl _), fun A c bs AI ci B w h1 h2 h3 h4 h5 h6 h7 => pass_any (nodeK 2 1 0 0 0 3) (ok_node 2 1 0 0 0) 2 (by omega) rfl 0 rfl A c bs AI ci [] B w h1 h2 h3 h4 h5 h6 h7⟩
theorem two_cells (w : World) (t u : TypeId) (zt zu R S : Array Value) : Below w.heap.size w ((((w.alloc (.cells zt t)).alloc (.cells zu u)).setRow w.heap.size R).setRow (w.heap.size + 1) S) ∧
    Blk ((((w.alloc (.cells zt t)).alloc (.cells zu u)).setRow w.heap.size R).setRow (w.heap.size + 1) S) w.heap.size t R ∧ Blk ((((w.alloc (.cells zt t)).alloc (.cells zu u)).setRow w.heap.size R).setRow (w.heap.size + 1) S) (w.heap.size + 1) u S ∧ w.heap.size + 1 < ((((w.alloc (.cells zt t)).alloc (.cells zu u)).setRow w.heap.size R).setRow (w.heap.size + 1) S).heap.size := by
  have h1 : Blk ((w.alloc (.cells zt t)).alloc (.cells zu u)) w.heap.size t zt := (Blk.fresh _ _ _).alloc _
  have h2 : Blk ((w.alloc (.cells zt t)).alloc (.cells zu u)) (w.heap.size + 1) u zu := Blk.new (by simp)
  have hb := below_setRow (below_setRow (((Below.refl w.heap.size w).alloc (Nat.le_refl _) (.cells zt t)).alloc (by simp) (.cells zu u)) (Nat.le_refl w.heap.size) R) (show w.heap.size ≤ w.heap.size + 1 by omega) S
  have k2 := (h2.setRow_other (g' := w.heap.size) (by omega) R).setRow S
  exact ⟨hb, (h1.setRow R).setRow_other (by omega) S, k2, k2.lt⟩

end Go.Proofs.Ytjfllpmiajkenaa.Nd
