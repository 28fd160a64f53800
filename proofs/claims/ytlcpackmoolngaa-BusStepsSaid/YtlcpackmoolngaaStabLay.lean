/- slices.insertionSortCmpFunc at the parcels: the library's contract, laid at this program. -/
import Derived.Shelf.SlSortCmp.KitK
import Derived.Test.YtlcpackmoolngaaProg
namespace Go.Proofs.Ytlcpackmoolngaa.Ss
open Go.Shelf Go.RowKit Go.Lib Go.Sort

def ins_ren : Go.Shelf.Ren := ⟨fun | 20 => 77 | n => n, fun | 24 => 52 | 22 => 22 | 25 => 56 | 3 => 3 | 4 => 4 | 0 => 0 | n => n, fun | n => n⟩
theorem ins_lay : Go.Proofs.SlLaysF0.n20 Try.prog ins_ren := {
  mixed := by kernel_rfl
  f20 := ⟨Try.f77.name, by decide, Try.func77.trans (congrArg some (by kernel_rfl))⟩
  t0 := Try.underlying0
  a0 := Try.isAgg0
  z0 := Try.sizeOf0
  v0 := Try.zeroValue0
  t3 := Try.underlying3
  a3 := Try.isAgg3
  z3 := Try.sizeOf3
  v3 := Try.zeroValue3
  t4 := Try.underlying4
  a4 := Try.isAgg4
  z4 := Try.sizeOf4
  v4 := Try.zeroValue4
  t22 := Try.underlying22
  a22 := Try.isAgg22
  z22 := Try.sizeOf22
  v22 := Try.zeroValue22
  t25 := Try.underlying56
  a25 := Try.isAgg56
  z25 := Try.sizeOf56
  v25 := Try.zeroValue56 }

/-- insertionSortCmpFunc, from a world of the sort's to another -/
theorem ins_any {α : Type} [Inhabited α] {enc : α → List Value} {cf : α → α → Int} {g : Nat} {w0 W : World} {blk off cap a b : Nat} {d0 dk : Array α} (R : RowK enc 5 w0 blk off d0) (eg : ∀ args w, (callFunc g args).run Try.prog w = .ok (.enter g args) w)
    (hC : CmpLays Try.prog g #[] enc 5 cf blk off d0.size w0) (hs : dk.size = d0.size) (h : SWK enc 5 w0 blk off dk W) (hab : a ≤ b) (hb : b ≤ dk.size) (hsz : d0.size < 4611686018427387904) (hO : (Sort.insertionSort (ltOf cf) dk a b).size = dk.size) :
    Calls Try.prog 77 #[.slice (some ⟨blk, off, none⟩) d0.size cap, .int .i64 a, .int .i64 b, .func (.func g) #[] #[]] W fun e w' => e = .returned (.tuple #[]) ∧ SWK enc 5 w0 blk off (Sort.insertionSort (ltOf cf) dk a b) w' := by
  have hH := h.holds R.hblk R.hH hs
  have hcmp : CmpLays Try.prog g #[] enc 5 cf blk off dk.size W := by
    intro m os d2 h2 x y
    obtain ⟨n, os1, rfl⟩ := h
    have := SWK.on (w0 := w0) (W := sortWorldK enc 5 w0 blk off n dk os1) ⟨n, os1, rfl⟩ R.hblk m d2 os h2
    obtain ⟨n3, os3, e3⟩ := this
    rw [e3]
    exact hC n3 os3 d2 (h2.trans hs) x y
  rw [← hs]
  refine (AnyQ.insertionSortCmpFunc ins_lay 5 Try.isAgg52 Try.sizeOf52 enc R.hk R.h1 cf g #[] blk off cap a b dk W eg hcmp hH (h.lt R.hblk) hab hb (by omega)).mono ?_
  rintro e w' ⟨rfl, n, os, rfl⟩
  exact ⟨rfl, h.on R.hblk n _ os hO⟩
end Go.Proofs.Ytlcpackmoolngaa.Ss
