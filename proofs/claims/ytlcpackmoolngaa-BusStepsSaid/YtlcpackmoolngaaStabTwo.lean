/- slices.SortStableFunc at the parcels, by bus.Step's comparison. -/
import Derived.Test.YtlcpackmoolngaaStabOne
namespace Go.Proofs.Ytlcpackmoolngaa.Ss
open Go.Shelf Go.RowKit Go.Lib Go.Sort Go.Proofs.Ytlcpackmoolngaa.Stb Go.Proofs.Ytlcpackmoolngaa.Bu
set_option linter.unusedVariables false
set_option linter.unusedSimpArgs false
/-- a parcel with its text's place, and its place in the row at first -/
abbrev PC := Parc × Option Addr × Nat
instance : Inhabited (PC × Nat) := ⟨((⟨0, 0, 0, 0, []⟩, none, 0), 0)⟩
def encP (x : PC × Nat) : List Value := parcL x.1.1 x.1.2.1 x.1.2.2
def dueK (x : PC) : Int := x.1.d
def serK (x : PC) : Int := x.1.s
def cfP (x y : PC × Nat) : Int := cmpP x.1.1 y.1.1
theorem cfP_lt (x y : PC × Nat) : decide (cfP x y < 0) = ltK dueK serK x y := by
  unfold cfP cmpP orI cmpI ltK dueK serK
  apply decide_eq_decide.2
  repeat' split
  all_goals omega
theorem cfP_tag (x y : PC × Nat) (h : x.2 < y.2) : decide (cfP y x < 0) = ltT dueK serK y x := (cfP_lt y x).trans (ltK_tag _ _ h)
theorem cmp_lays (blk off size : Nat) (w0 : World) : CmpLays Try.prog 29 #[] encP 5 cfP blk off size w0 := fun m os dk _ x y => step1_any x.1.1 y.1.1 x.1.2.1 y.1.2.1 x.1.2.2 y.1.2.2 _

theorem step_enters : ∀ args w, (callFunc 29 args).run Try.prog w = .ok (.enter 29 args) w := enters_of Try.func29 (by decide) rfl

set_option maxRecDepth 100000 in
theorem sortStable_any {w0 W : World} {blk off cap : Nat} {d0 : Array (PC × Nat)} (R : RowK encP 5 w0 blk off d0) (hsz : d0.size < 1152921504606846976) (ht : ∀ i, i < d0.size → (d0[i]!).2 = i) (h : SWK encP 5 w0 blk off d0 W) :
    Calls Try.prog 28 #[.slice (some ⟨blk, off, none⟩) d0.size cap, .func (.func 29) #[] #[]] W fun e w' => e = .returned (.tuple #[]) ∧ ∃ f', SWK encP 5 w0 blk off f' w' ∧ f'.size = d0.size ∧ PermIn 0 d0.size d0 f' ∧ SortedIn (ltT dueK serK) 0 d0.size f' := by
  have HQ := Lib.hid (stab_any (cap := cap) laysP R step_enters (cmp_lays blk off d0.size w0) (ltT_swo _ _) (fun x y hxy => cfP_tag x y hxy) hsz ht W h)
  clear R ht h
  go_enter Try.func28, Try.ntmps28
  go_wp2_with fail
  refine HQ.out.mono ?_
  rintro e w2 ⟨rfl, f2, h2⟩
  have H2 := Lib.hid h2
  clear h2
  go_wp2_with fail
  go_end0
  exact ⟨rfl, f2, H2.out⟩
end Go.Proofs.Ytlcpackmoolngaa.Ss
