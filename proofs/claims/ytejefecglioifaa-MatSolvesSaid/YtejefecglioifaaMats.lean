/- Contracts: a matrix handed on in memory of its own (own), least, mat.Good and the reference's GoodMat. -/
import Derived.Test.YtejefecglioifaaOpen
import Derived.Deep.RegionHeld3
namespace Go.Proofs.Ytejefecglioifaa.Mats
open Go.ChangeShapes Go.WideShapes Go.ChangeAt Go.RowKit Go.Proofs.Ytejefecglioifaa.Mem

theorem elemInts : Elem Try.prog 22 3 (.int .i64 0) 1 8 := ⟨Try.underlying22, by kernel_rfl, rfl, by omega⟩

/-- P3.1 -/
def good (N : Int) (n : Nat) : Bool := decide (1 ≤ N) && decide (N ≤ 6) && decide ((n : Int) = N * N)

/-- a matrix value: N, and its numbers -/
def matV (N : Int) (A : Option Addr) (n c : Nat) : Value := .agg #[.int .i64 N, .slice A n c]

def Owned (w w' : World) (N : Int) (xs : List Value) (n : Nat) (e : Ending) : Prop :=
  ∃ A c, e = .returned (matV N A n c) ∧ w'.ownsRow w.heap.size 3 1 (.slice A n c) n xs ∧ Below w.heap.size w w'

theorem own_any (N : Int) (A : Option Addr) (n c : Nat) (xs : List Value) (B : Nat) (w : World) (hB : B ≤ w.heap.size) (hA : A = none → c = 0) (hnc : n ≤ c) (hc : c * 8 ≤ 140737488351232) (h1 : ∀ u ∈ xs, u.oneCell' = true) (hr : Rd w B 1 A n xs) :
    Calls Try.prog 9 #[matV N A n c] w fun e w' => Owned w w' N xs n e := by
  have hr1 := hr.alloc hB (.cells #[.int .i64 N, .slice A n c] 24)
  unfold matV
  go_enter Try.func9, Try.ntmps9
  go_wp2_with (at_builtin; go_loud (refine wpList_append_rd _ rfl _ _ _ rfl (base := w.heap.size + 2) elemInts rfl (World.ownsRow_nil _ _ _ _) rfl (fun h => ⟨by have := hA h; omega, hA h⟩) (by exact (hr1.alloc (by simp; omega) _)) h1 (by unfold maxLen; omega) (by omega) (by simp) ?_))
  intro A' c' w1 hA' hown hg
  have b0 := ((Blk.new (t := 24) (cs := #[.int .i64 N, .slice A n c]) (w := w) rfl).alloc (.cells #[.int .i64 0, .slice none 0 0] 24)).grown hg (by simp [Value.ownBlock])
  have b1 := (Blk.new (t := 24) (cs := #[.int .i64 0, .slice none 0 0]) (w := w.alloc (.cells #[.int .i64 N, .slice A n c] 24)) (g := w.heap.size + 1) (by simp)).grown hg (by simp [Value.ownBlock])
  have hb : Below w.heap.size w w1 := (((Below.refl _ _).alloc (Nat.le_refl _) _).alloc (by simp) _).grown hg (by simp; omega) (by simp [Value.ownBlock])
  have c00 := b0.cell 0
  have c01 := b0.cell 1
  have f01 := b0.thaw 1
  have c10 := b1.cell 0
  have c11 := b1.cell 1
  have f10 := b1.thaw 0
  have f11 := b1.thaw 1
  simp only [List.getElem?_toArray, List.getElem?_cons_zero, List.getElem?_cons_succ] at c00 c01 c10 c11
  go_wp2
  refine ret_row rfl rfl (((b1.other (by simp) _).set 0 _).set 1 _) Try.underlying24 rfl (by kernel_rfl) rfl ⟨A', c', rfl, ?_, ?_⟩
  · exact own_weaken (ownsRow_setCell_below (ownsRow_setCell_below (ownsRow_setCell_below hown (by simp) _) (by simp) _) (by simp) _) (by omega)
  · exact ((hb.setCell (by simp) _).setCell (by simp) _).setCell (by simp) _


set_option maxRecDepth 100000 in
theorem openMat {H : Type} {enc : TypeId × Value → H} {W : World} {base : Nat} {v : Value} {d : DataW H} {ps : List MemPlace} (hv : Value.okWide Try.prog W .any base 24 v)
    (h : DataW.Trod enc Try.prog W 0 (fun _ => true) true 24 v d ps) (hl : Op.Light Try.prog 24 d) :
    ∃ (N : Int) (A : Option Addr) (c : Nat) (zs : List Int), v = matV N A zs.length c ∧ (-9223372036854775808 ≤ N ∧ N ≤ 9223372036854775807) ∧ zs.length ≤ c ∧ c * 8 ≤ 140737488351232 ∧ (A = none → c = 0) ∧
      Rd W W.heap.size 1 A zs.length (zs.map (Value.int .i64)) ∧ ∀ z ∈ zs, (Lit.int .i64 z).wf = true := by
  obtain ⟨cs, rfl⟩ := Op.okWide_agg (t := 24) (by kernel_rfl) hv
  have k := Op.flat_arg (ls := [3, 22]) (by kernel_rfl) h hl
  obtain ⟨x0, l, e0, f0, k⟩ := k.cons
  obtain ⟨x1, l, rfl, f1, k⟩ := k.cons
  obtain rfl := k.nil_
  obtain rfl := Op.arr_of e0
  obtain ⟨N, rfl, hN⟩ := f0.int Try.underlying3
  obtain ⟨A, c, zs, rfl, h1, h2, h3, h4, h5, h6⟩ := f1.ints Try.underlying22 Try.underlying3 (by kernel_rfl) (fun _ => rfl)
  rw [show Try.prog.bytesOf 3 = 8 from by kernel_rfl] at h3
  exact ⟨N, A, c, zs, rfl, Op.wf_i64 hN, h1, h3, h4, h5, h6⟩

theorem sq_le {N : Int} (h1 : 1 ≤ N) (h2 : N ≤ 6) : 0 ≤ N * N ∧ N * N ≤ 36 :=
  ⟨Int.mul_nonneg (by omega) (by omega), by have := Int.mul_le_mul h2 h2 (by omega) (by omega); omega⟩

theorem good_any (N : Int) (A : Option Addr) (n c : Nat) (w : World) :
    Calls Try.prog 22 #[matV N A n c] w fun e w' => e = .returned (.bool (good N n)) ∧ Below w.heap.size w w' := by
  unfold matV
  by_cases h1 : 1 ≤ N
  · by_cases h2 : N ≤ 6
    · have h3 := sq_le h1 h2
      have hg := Lib.hid (show good N n = decide ((n : Int) = N * N) from by simp [good, h1, h2, eq_comm])
      go_enter Try.func22, Try.ntmps22
      go_wp2
      go_ret
      exact ⟨by rw [hg.out]; rfl, (Below.refl _ _).alloc (Nat.le_refl _) _⟩
    · have hg := Lib.hid (show good N n = false from by simp [good, h2])
      go_enter Try.func22, Try.ntmps22
      go_wp2
      go_ret
      exact ⟨by rw [hg.out]; rfl, (Below.refl _ _).alloc (Nat.le_refl _) _⟩
  · have hg := Lib.hid (show good N n = false from by simp [good, h1])
    go_enter Try.func22, Try.ntmps22
    go_wp2
    go_ret
    exact ⟨by rw [hg.out]; rfl, (Below.refl _ _).alloc (Nat.le_refl _) _⟩

theorem goodref_any (N : Int) (A : Option Addr) (n c : Nat) (w : World) :
    Calls Try.prog 28 #[matV N A n c] w fun e w' => e = .returned (.bool (good N n)) ∧ Below w.heap.size w w' := by
  unfold matV
  by_cases h1 : 1 ≤ N
  · have h1' : 0 < N := by omega
    by_cases h2 : N ≤ 6
    · have h3 := sq_le h1 h2
      have hg := Lib.hid (show good N n = decide (N * N = (n : Int)) from by simp [good, h1, h2, eq_comm])
      go_enter Try.func28, Try.ntmps28
      go_wp2
      go_ret
      exact ⟨by rw [hg.out]; rfl, (Below.refl _ _).alloc (Nat.le_refl _) _⟩
    · have hg := Lib.hid (show good N n = false from by simp [good, h2])
      go_enter Try.func28, Try.ntmps28
      go_wp2
      go_ret
      exact ⟨by rw [hg.out]; rfl, (Below.refl _ _).alloc (Nat.le_refl _) _⟩
  · have h1' : ¬ 0 < N := by omega
    have hg := Lib.hid (show good N n = false from by simp [good, h1])
    go_enter Try.func28, Try.ntmps28
    go_wp2
    go_ret
    exact ⟨by rw [hg.out]; rfl, (Below.refl _ _).alloc (Nat.le_refl _) _⟩

theorem least_any (x : Int) (w : World) :
    Calls Try.prog 11 #[.int .i64 x] w fun e w' => Owned w w' 1 [.int .i64 x] 1 e := by
  go_enter Try.func11, Try.ntmps11
  go_wp2
  refine ret_row rfl rfl ((Blk.new rfl).alloc _) Try.underlying24 rfl (by kernel_rfl) rfl ⟨_, _, rfl, ?_, ?_⟩
  · refine ⟨rfl, .inr ⟨w.heap.size + 1, 1, #[.int .i64 x], rfl, by omega, Blk.new (by simp), by omega, by unfold maxLen; omega, rfl, rfl⟩⟩
  · exact ((Below.refl _ _).alloc (Nat.le_refl _) _).alloc (by simp) _
end Go.Proofs.Ytejefecglioifaa.Mats
