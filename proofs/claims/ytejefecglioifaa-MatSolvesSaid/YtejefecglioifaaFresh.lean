/- Contracts: mat.fresh, put. -/
import Derived.Test.YtejefecglioifaaMats
import Derived.Test.YtejefecglioifaaRegR
import Derived.Test.YtejefecglioifaaRes
import Derived.IntWalk
namespace Go.Proofs.Ytejefecglioifaa.Mats
open Go.ChangeShapes Go.WideShapes Go.ChangeAt Go.RowKit Go.Proofs.Ytejefecglioifaa.Mem
set_option linter.unusedVariables false

/-- a matrix at work: N, its numbers in block s, whether a step was bent in block p -/
def workC (N m s p : Nat) : Array Value := #[.int .i64 (N : Int), .slice (some ⟨s, 0, none⟩) m m, .pointer (some ⟨p, 0, none⟩)]
def Fresh (w w' : World) (N m : Nat) (e : Ending) : Prop :=
  ∃ s p, e = .returned (.agg (workC N m s p)) ∧ w.heap.size ≤ s ∧ s < p ∧ p < w'.heap.size ∧ Blk w' s 3 (rowF .i64 m fun _ => 0) ∧ Blk w' p 4 #[.bool false] ∧ Below w.heap.size w w'

theorem fresh_any (N m : Nat) (hm : N * N = m) (h6 : m ≤ 36) (w : World) :
    Calls Try.prog 23 #[.int .i64 (N : Int)] w fun e w' => Fresh w w' N m e := by
  have e1 : IntKind.i64.wrap ((N : Int) * (N : Int)) = (m : Int) := by rw [← Int.natCast_mul, hm]; exact IntWalk.i64_in _ (by omega)
  clear hm
  go_enter Try.func23, Try.ntmps23
  go_wp2_with (refine wpList_make_row rfl (.tmp 6) (.tmp 6) 22 rfl elemInts m rfl rfl rfl rfl (by omega) (by omega) ?_)
  refine ret_row rfl rfl (((Blk.new rfl).alloc _).alloc _) Try.underlying47 rfl (by kernel_rfl) rfl ⟨w.heap.size + 1, w.heap.size + 1 + 1, rfl, by omega, by omega, by simp, (Blk.new (by simp)).alloc _, Blk.new (by simp), ?_⟩
  exact (((Below.refl _ _).alloc (Nat.le_refl _) _).alloc (by simp) _).alloc (by simp; omega) _

theorem put_any (N m s p r c q : Nat) (v : Int) (f : Nat → Int) (hq : r * N = q) (hi : q + c < m) (hm : m ≤ 36) (w : World) (hs : Blk w s 3 (rowF .i64 m f)) :
    Calls Try.prog 25 #[.agg (workC N m s p), .int .i64 (r : Int), .int .i64 (c : Int), .int .i64 v] w fun e w' => e = .returned (.tuple #[]) ∧ Blk w' s 3 (rowF .i64 m fun j => if j = q + c then v else f j) ∧ w.grownBy w' (some s) := by
  have e1 : IntKind.i64.wrap ((r : Int) * (N : Int)) = (q : Int) := by rw [← Int.natCast_mul, hq]; exact IntWalk.i64_in _ (by omega)
  have hs1 := hs.alloc (.cells #[.int .i64 (N : Int), .slice (some ⟨s, 0, none⟩) m m, .pointer (some ⟨p, 0, none⟩)] 47)
  have HS := Lib.hid hs
  have hlt := hs.lt
  have hx := hs1.cell (q + c)
  have hf := hs1.thaw (q + c)
  rw [rowF_at _ _ _ _ hi] at hx
  unfold workC
  clear hq hs hs1
  go_enter Try.func25, Try.ntmps25
  go_wp2_with fail
  go_end0
  refine ⟨rfl, ?_, ?_⟩
  · rw [← rowF_set (f := f) (j := q + c) (v := v) (fun j _ => rfl)]
    exact (HS.out.set _ _).alloc _
  · exact ⟨rfl, rfl, rfl, by simp, fun g hg hne => (Below.heap_alloc (w.setCell ⟨s, q + c, none⟩ (.int .i64 v)) _ g (by simpa using hg)).trans (Below.heap_setCell w ⟨s, q + c, none⟩ _ g (fun e => hne (by rw [e])))⟩

end Go.Proofs.Ytejefecglioifaa.Mats
