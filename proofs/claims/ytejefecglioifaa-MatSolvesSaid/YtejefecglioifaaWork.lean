/- Contracts: a matrix at work: see and at; a chain of products. -/
import Derived.Test.YtejefecglioifaaReck0
import Derived.Test.YtejefecglioifaaMats
import Derived.Test.YtejefecglioifaaInts
import Derived.Test.YtejefecglioifaaRws
namespace Go.Proofs.Ytejefecglioifaa.BigW
open Go.RowKit Go.Proofs.Ytejefecglioifaa.Mem Go.Proofs.Ytejefecglioifaa.BigLaw Go.Proofs.Ytejefecglioifaa.Rws Go.Proofs.Ytejefecglioifaa.Ints
set_option linter.unusedVariables false
set_option linter.unusedSimpArgs false

/-- nought, and product by product -/
def chainF (f g : Nat → Int) : Nat → Int × Bool
  | 0 => (0, false)
  | k + 1 => ((fadd (chainF f g k).1 (fmul (f k) (g k)).1).1, (chainF f g k).2 || (fmul (f k) (g k)).2 || (fadd (chainF f g k).1 (fmul (f k) (g k)).1).2)
theorem chainF_range (f g : Nat → Int) : ∀ k, In64 (chainF f g k).1
  | 0 => by unfold In64; simp [chainF]
  | k + 1 => fadd_range _ _
def workV (N : Int) (A : Option Addr) (n c gk : Nat) : Value := .agg #[.int .i64 N, .slice A n c, .pointer (some ⟨gk, 0, none⟩)]
def Bn (w : World) (gk : Nat) (x : Bool) : Prop := Blk w gk 4 #[.bool x]

set_option maxRecDepth 100000 in
set_option maxHeartbeats 1000000 in
theorem see_any (N : Int) (A : Option Addr) (n c gk : Nat) (x : Bool) (m : Int) (b : Bool) (w : World) (hk : Bn w gk x) :
    Calls Try.prog 26 #[workV N A n c gk, .int .i64 m, .bool b] w fun e w' => e = .returned (.int .i64 m) ∧ Bn w' gk (x || b) ∧ w.grownBy w' (some gk) := by
  have HB := Lib.hid hk
  have hk1 : Bn (w.alloc (.cells #[.int .i64 N, .slice A n c, .pointer (some ⟨gk, 0, none⟩)] 47)) gk x := Blk.alloc hk _
  have c0 : (w.alloc (.cells #[.int .i64 N, .slice A n c, .pointer (some ⟨gk, 0, none⟩)] 47)).cell? ⟨gk, 0, none⟩ = some (.bool x) := (Blk.cell hk1 0).trans rfl
  have f0 := Blk.thaw hk1 0
  have hb1 : Blk (w.alloc (.cells #[.int .i64 N, .slice A n c, .pointer (some ⟨gk, 0, none⟩)] 47)) w.heap.size 47 #[.int .i64 N, .slice A n c, .pointer (some ⟨gk, 0, none⟩)] := Blk.new rfl
  have c1 : (w.alloc (.cells #[.int .i64 N, .slice A n c, .pointer (some ⟨gk, 0, none⟩)] 47)).cell? ⟨w.heap.size, 2, none⟩ = some (.pointer (some ⟨gk, 0, none⟩)) := (hb1.cell 2).trans rfl
  have HK := Lib.hid hk1
  have HG := Lib.hid (show w.grownBy (w.alloc (.cells #[.int .i64 N, .slice A n c, .pointer (some ⟨gk, 0, none⟩)] 47)) (some gk) from grown_of_below ((Below.refl _ _).alloc (Nat.le_refl _) _))
  clear hk hk1 hb1
  unfold workV
  cases x <;> cases b
  all_goals
    go_enter Try.func26, Try.ntmps26
    go_upto_region 1 with fail
    generalize (w.alloc (.cells #[.int .i64 N, .slice A n c, .pointer (some ⟨gk, 0, none⟩)] 47)) = w1 at *
    go_region
  all_goals
    go_wp2_with fail
    go_ret
    exact ⟨rfl, Blk.drew (HK.out.set 0 _), (HG.out.trans (grown_setCell _ _ _ _)).trans (grown_of_below ((Below.refl _ _).drew))⟩

set_option maxRecDepth 100000 in
set_option maxHeartbeats 1000000 in
theorem at_any (N i k : Nat) (A : Option Addr) (c : Nat) (zs : List Int) (gk : Nat) (w : World) (hr : Rd w w.heap.size 1 A zs.length (intsV zs)) (h : i * N + k < zs.length) (hl : zs.length ≤ 36) :
    Calls Try.prog 36 #[workV (N : Int) A zs.length c gk, .int .i64 (i : Int), .int .i64 (k : Int)] w fun e w' => e = .returned (.int .i64 (zs.getD (i * N + k) 0)) ∧ Below w.heap.size w w' := by
  obtain ⟨b, o, u, rfl, hbB, hu, hcell⟩ := hr.at h
  rw [intsV_at zs _ h] at hu
  injection hu with hu
  subst hu
  have HE := Lib.hid (show zs.getD (i * N + k) 0 = zs[i * N + k] from by rw [List.getD_eq_getElem?_getD, List.getElem?_eq_getElem h]; rfl)
  generalize zs[i * N + k] = z at HE hcell
  have hB : Below w.heap.size w (w.alloc (.cells #[.int .i64 (N : Int), .slice (some ⟨b, o, none⟩) zs.length c, .pointer (some ⟨gk, 0, none⟩)] 47)) := (Below.refl _ _).alloc (Nat.le_refl _) _
  have hcell := (hB.cell (p := ⟨b, o + (i * N + k), none⟩) hbB).trans hcell
  have HB := Lib.hid hB
  have hb1 : Blk (w.alloc (.cells #[.int .i64 (N : Int), .slice (some ⟨b, o, none⟩) zs.length c, .pointer (some ⟨gk, 0, none⟩)] 47)) w.heap.size 47 #[.int .i64 (N : Int), .slice (some ⟨b, o, none⟩) zs.length c, .pointer (some ⟨gk, 0, none⟩)] := Blk.new rfl
  have c0 := (hb1.cell 0).trans rfl
  have c1 := (hb1.cell 1).trans rfl
  simp only [List.getElem?_toArray, List.getElem?_cons_zero, List.getElem?_cons_succ] at c0 c1
  obtain ⟨q, hq⟩ : ∃ q, i * N = q := ⟨_, rfl⟩
  have hq1 : (i : Int) * (N : Int) = (q : Int) := by rw [← hq]; push_cast; rfl
  have HQ := Lib.hid hq
  rw [hq] at hcell h
  have h1 : (q : Int) + (k : Int) < (zs.length : Int) := by omega
  have h2 : (zs.length : Int) ≤ 36 := by omega
  have hcell : (w.alloc (.cells #[.int .i64 (N : Int), .slice (some ⟨b, o, none⟩) zs.length c, .pointer (some ⟨gk, 0, none⟩)] 47)).cell? ⟨b, o + (q + k), none⟩ = some (.int .i64 z) := hcell
  have htn : ((q : Int) + (k : Int)).toNat = q + k := by omega
  clear hr hb1 hB hq
  unfold workV
  go_enter Try.func36, Try.ntmps36
  go_upto_region 1 with fail
  generalize (w.alloc (.cells #[.int .i64 (N : Int), .slice (some ⟨b, o, none⟩) zs.length c, .pointer (some ⟨gk, 0, none⟩)] 47)) = w1 at *
  go_wp2_with fail
  go_ret
  exact ⟨by rw [HE.out]; rfl, HB.out⟩
end Go.Proofs.Ytejefecglioifaa.BigW
