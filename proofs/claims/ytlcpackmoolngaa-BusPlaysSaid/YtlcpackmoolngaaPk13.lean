import Derived.Test.YtlcpackmoolngaaPk1
import Derived.Test.YtlcpackmoolngaaPk4
import Derived.Test.YtlcpackmoolngaaPk5
import Derived.Test.YtlcpackmoolngaaPk6
import Derived.Test.YtlcpackmoolngaaPk7
import Derived.Test.YtlcpackmoolngaaPk12
import Derived.Test.YtlcpackmoolngaaPk0
namespace Go.Proofs.Ytlcpackmoolngaa.Bu
open Go.ChangeShapes Go.WideShapes Go.ChangeAt Go.RowKit Go.Proofs.Ytlcpackmoolngaa.Mem Go.Proofs.Ytlcpackmoolngaa.Op Go.Proofs.Ytlcpackmoolngaa.Sm
set_option linter.unusedVariables false
def IsBus (w : World) (g : Nat) : Prop := ∃ (n s : Int) (A : Option Addr) (k c : Nat), Blk w g 24 #[.int .i64 n, .int .i64 s, .slice A k c]
def BusHeld (w : World) (g : Nat) (n s : Int) (A : Option Addr) (c : Nat) (l : List Parc) : Prop :=
  Blk w g 24 #[.int .i64 n, .int .i64 s, .slice A l.length c] ∧ ParcsAt w w.heap.size A l
theorem BusHeld.is {w : World} {g : Nat} {n s : Int} {A : Option Addr} {c : Nat} {l : List Parc} (h : BusHeld w g n s A c l) : IsBus w g := ⟨n, s, A, _, c, h.1⟩
theorem pa_below {w w' : World} {A : Option Addr} {l : List Parc} (h : ParcsAt w w.heap.size A l) (hb : Below w.heap.size w w') : ParcsAt w' w'.heap.size A l := (h.below hb).more hb.size
theorem pa_row {w : World} {g : Nat} {A : Option Addr} {l : List Parc} (h : ParcsAt w w.heap.size A l) (hi : IsBus w g) (R : Array Value) : ParcsAt (w.setRow g R) (w.setRow g R).heap.size A l := by
  obtain ⟨n, s, A', k, c, hb⟩ := hi
  exact (h.busrow hb R).more (below_setRow (Below.refl 0 w) (Nat.zero_le _) _).size
theorem BusHeld.below {w w' : World} {g : Nat} {n s : Int} {A : Option Addr} {c : Nat} {l : List Parc} (h : BusHeld w g n s A c l) (hb : Below w.heap.size w w') : BusHeld w' g n s A c l := ⟨h.1.below hb h.1.lt, pa_below h.2 hb⟩
theorem BusHeld.drew {w : World} {g : Nat} {n s : Int} {A : Option Addr} {c : Nat} {l : List Parc} (h : BusHeld w g n s A c l) : BusHeld w.drew g n s A c l := ⟨h.1.drew, h.2⟩
theorem BusHeld.row {w : World} {g g' : Nat} {n s : Int} {A : Option Addr} {c : Nat} {l : List Parc} (h : BusHeld w g n s A c l) (hi : IsBus w g') (hne : g ≠ g') (R : Array Value) : BusHeld (w.setRow g' R) g n s A c l :=
  ⟨h.1.setRow_other (g' := g') hne R, pa_row h.2 hi R⟩
theorem BusHeld.put {w : World} {g : Nat} {n s n' s' : Int} {A A' : Option Addr} {c c' : Nat} {l l' : List Parc} (h : BusHeld w g n s A c l) (hp : ParcsAt w w.heap.size A' l') : BusHeld (w.setRow g #[.int .i64 n', .int .i64 s', .slice A' l'.length c']) g n' s' A' c' l' :=
  ⟨h.1.setRow _, pa_row hp h.is _⟩
def PlAt (w wr : World) (gn : Nat) (n s : Int) (A1 : Option Addr) (c1 : Nat) (A2 : Option Addr) (c2 : Nat) (l : List Parc) : Prop :=
  BusHeld wr w.heap.size n s A1 c1 l ∧ BusHeld wr (w.heap.size + 1) n s A2 c2 l ∧ (∃ A7 c7 l7, BusHeld wr gn 0 1 A7 c7 l7) ∧ Below w.heap.size w wr
theorem PlAt.below {w wr w' : World} {gn : Nat} {n s : Int} {A1 A2 : Option Addr} {c1 c2 : Nat} {l : List Parc} (h : PlAt w wr gn n s A1 c1 A2 c2 l) (hb : Below wr.heap.size wr w') : PlAt w w' gn n s A1 c1 A2 c2 l := by
  obtain ⟨h1, h2, ⟨A7, c7, l7, h3⟩, h4⟩ := h
  exact ⟨h1.below hb, h2.below hb, ⟨A7, c7, l7, h3.below hb⟩, onward h4 (Nat.le_refl _) hb⟩
theorem PlAt.drew {w wr : World} {gn : Nat} {n s : Int} {A1 A2 : Option Addr} {c1 c2 : Nat} {l : List Parc} (h : PlAt w wr gn n s A1 c1 A2 c2 l) : PlAt w wr.drew gn n s A1 c1 A2 c2 l := by
  obtain ⟨h1, h2, ⟨A7, c7, l7, h3⟩, h4⟩ := h
  exact ⟨h1.drew, h2.drew, ⟨A7, c7, l7, h3.drew⟩, h4.drew⟩
theorem PlAt.row {w wr : World} {gn g : Nat} {n s : Int} {A1 A2 : Option Addr} {c1 c2 : Nat} {l : List Parc} (h : PlAt w wr gn n s A1 c1 A2 c2 l) (hi : IsBus wr g) (hg : w.heap.size + 1 < g) (hgn : gn ≠ g) (R : Array Value) : PlAt w (wr.setRow g R) gn n s A1 c1 A2 c2 l := by
  obtain ⟨h1, h2, ⟨A7, c7, l7, h3⟩, h4⟩ := h
  exact ⟨h1.row hi (by omega) R, h2.row hi (by omega) R, ⟨A7, c7, l7, h3.row hi hgn R⟩, below_setRow h4 (by omega) R⟩
theorem PlAt.take {w wr : World} {gn gx gy : Nat} {n s n' s' : Int} {A1 A2 A3 A4 : Option Addr} {c1 c2 c3 c4 : Nat} {l l' : List Parc} (h : PlAt w wr gn n s A1 c1 A2 c2 l) (hx : BusHeld wr gx n' s' A3 c3 l') (hy : BusHeld wr gy n' s' A4 c4 l') (hgn : w.heap.size + 1 < gn) :
    PlAt w ((wr.setRow w.heap.size #[.int .i64 n', .int .i64 s', .slice A3 l'.length c3]).setRow (w.heap.size + 1) #[.int .i64 n', .int .i64 s', .slice A4 l'.length c4]) gn n' s' A3 c3 A4 c4 l' := by
  obtain ⟨h1, h2, ⟨A7, c7, l7, h3⟩, h4⟩ := h
  have k1 : BusHeld (wr.setRow w.heap.size #[.int .i64 n', .int .i64 s', .slice A3 l'.length c3]) w.heap.size n' s' A3 c3 l' := h1.put hx.2
  have k2 := h2.row h1.is (show w.heap.size + 1 ≠ w.heap.size by omega) #[.int .i64 n', .int .i64 s', .slice A3 l'.length c3]
  have k3 := h3.row h1.is (show gn ≠ w.heap.size by omega) #[.int .i64 n', .int .i64 s', .slice A3 l'.length c3]
  have k4 := pa_row hy.2 h1.is #[.int .i64 n', .int .i64 s', .slice A3 l'.length c3]
  exact ⟨k1.row k2.is (by omega) _, k2.put k4, ⟨A7, c7, l7, k3.row k2.is (by omega) _⟩, below_setRow (below_setRow h4 (Nat.le_refl _) _) (by omega) _⟩
theorem send_len4 (now ser : Int) (qs : List Parc) (fm ot dl : Int) (bs : List Nat) : (sendR now ser qs fm ot dl bs).2.2.1.length ≤ 400 := by
  unfold sendR
  (repeat' split) <;> simp
  omega
theorem lose_len4 (now ser : Int) (qs : List Parc) (s : Int) : (loseR now ser qs s).2.2.1.length ≤ qs.length := by
  unfold loseR
  cases fnd s qs with
  | none => simp
  | some k => simp only [List.length_eraseIdx]; split <;> omega
theorem turn_len4 (now ser : Int) (qs : List Parc) (s at_ m : Int) : (turnR now ser qs s at_ m).2.2.1.length ≤ qs.length := by
  unfold turnR
  cases fnd s qs with
  | none => simp
  | some k => simp only; split <;> simp
theorem send_first0 : sendR 0 0 [] 0 1 0 [] = (0, 1, [⟨0, 1, 0, 0, []⟩], 0) := by
  unfold sendR
  rw [if_neg (fun h => h (by unfold fitsB; omega)), if_neg (by simp), if_neg (by simp)]
  rfl
theorem first_send0 (w : World) : Calls Try.prog 18 #[.agg #[.int .i64 0, .int .i64 0, .slice none 0 0], .int .i64 0, .int .i64 1, .slice none 0 0, .int .i64 0] w fun e w' => ∃ A7 c7, ∃ l7 : List Parc, e = .returned (.tuple #[.agg #[.int .i64 0, .int .i64 1, .slice A7 l7.length c7], .int .i64 0]) ∧ ParcsAt w' w'.heap.size A7 l7 ∧ Below w.heap.size w w' :=
  (send_any 0 0 none 0 [] 0 1 0 none 0 [] w.heap.size w (Nat.le_refl _) (by simp) (ParcsAt.nil _ _ _) (fun _ => rfl) (Nat.zero_le _) (by simp) (Rd.nil _ _ _ _)).mono fun e w' h => by
    rw [send_first0] at h
    obtain ⟨A7, c7, rfl, hp, hb⟩ := h
    exact ⟨A7, c7, _, rfl, hp, hb⟩
end Go.Proofs.Ytlcpackmoolngaa.Bu
namespace Go.Proofs.Ytlcpackmoolngaa.Sm
open Go.ChangeShapes Go.WideShapes Go.ChangeAt Go.RowKit Go.Proofs.Ytlcpackmoolngaa.Mem
set_option linter.unusedVariables false
theorem bytes_any (A : Option Addr) (c : Nat) (bs : List Nat) (B : Nat) (w : World) (hB : B ≤ w.heap.size) (hA : A = none → c = 0) (hnc : bs.length ≤ c) (hc : bs.length ≤ 140737488355328) (hr : Rd w B 1 A bs.length (bytesV bs)) :
    Calls Try.prog 19 #[.slice A bs.length c] w fun e w' => OwnBytes w w' bs e := by
  go_enter Try.func19, Try.ntmps19
  go_wp2_with (at_builtin; refine wpList_append_rd _ rfl _ _ _ rfl (base := w.heap.size) elemBytes rfl (World.ownsRow_nil _ _ _ _) rfl (fun h => ⟨by have := hA h; omega, hA h⟩) (by exact hr) (bytesV_one bs) (by unfold maxLen; omega) (by omega) (Nat.le_refl _) ?_)
  intro A' c' w1 hA' hown hg
  go_wp2
  go_ret
  exact ⟨A', c', rfl, hown, (Below.refl _ _).grown hg (Nat.le_refl _) (by simp [Value.ownBlock])⟩
end Go.Proofs.Ytlcpackmoolngaa.Sm
namespace Go.Proofs.Ytlcpackmoolngaa.BigW
open Go.RowKit Go.Proofs.Ytlcpackmoolngaa.Mem
set_option linter.unusedVariables false
theorem exec_load_st {P : Program} {op : Oper} {a : Act} {w : World} (ty : TypeId) (x : Operand) (ho : op.op = .load ty x) (b : Nat) (hx : a.eval x = .pointer (some ⟨b, 0, none⟩)) {t : TypeId} {cs : Array Value} (h : Blk w b t cs)
    {d : TypeDesc} (hu : P.underlying ty = some d) (hd : (match d with | .struct _ | .array _ _ => true | _ => false) = true) (hi : (P.info? ty).map (·.size) = some cs.size) : (execOp a.eval op).run P w = .ok (.value (.agg cs)) w := by
  unfold execOp
  simp only [ho, hx, Instr.loadAt, Instr.sureAddr, Sem.run_bind, Sem.run_pure, Result.andThen_ok, run_loadVar_row w b t ty cs _ d h hu hd hi]
end Go.Proofs.Ytlcpackmoolngaa.BigW
