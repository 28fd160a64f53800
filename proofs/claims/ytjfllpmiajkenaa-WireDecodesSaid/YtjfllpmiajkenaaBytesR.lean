/- Contract: the reference's Seal. -/
import Derived.Test.YtjfllpmiajkenaaBytes0
namespace Go.Proofs.Ytjfllpmiajkenaa.Sm
open Go.ChangeShapes Go.WideShapes Go.ChangeAt Go.RowKit Go.Proofs.Ytjfllpmiajkenaa.Mem Go.Proofs.Ytjfllpmiajkenaa.SumLaw
set_option linter.unusedVariables false

/-- the reference's Seal -/
theorem refseal_any (A : Option Addr) (c : Nat) (bs : List Nat) (B : Nat) (w : World) (hB : B ≤ w.heap.size) (hA : A = none → c = 0) (hnc : bs.length ≤ c) (hc : bs.length ≤ 140737488351232) (hbs : ∀ x ∈ bs, x < 256) (hr : Rd w B 1 A bs.length (bytesV bs)) :
    Calls Try.prog 91 #[.slice A bs.length c] w fun e w' => OwnBytes w w' (sealed bs) e := by
  have HR := Lib.hid hr
  have HS := Lib.hid hbs
  clear hr hbs
  go_enter Try.func91, Try.ntmps91
  go_wp2_with fail
  refine (refsum_any A c bs B _ hB (by omega) HS.out HR.out).mono ?_
  rintro e w1 ⟨rfl, hb⟩
  have HR1 := Lib.hid (HR.out.below (hb.mono hB))
  obtain ⟨s, hs, hs2⟩ := more_nat bs HS.out
  have HM := Lib.hid hs
  rw [hs]
  clear hs
  have hsz := hb.size
  have e3 : IntKind.u8.wrap ((s : Int) / 16777216) = (s : Int) / 16777216 := by simp [IntKind.wrap, IntKind.bits, IntKind.signed]; omega
  go_wp2_with (first
    | (refine wpList_append_rd _ rfl (.const (.slice none 0 0)) (.tmp 6) 54 rfl elemBytes rfl (World.ownsRow_nil _ w.heap.size _ _) rfl (fun h => ⟨by have := hA h; omega, hA h⟩) HR1.out (bytesV_one bs) (by unfold maxLen; omega) (by omega) hsz ?_; intro A' c' w3 hA' hown' hg'; simp only [List.nil_append, Nat.zero_add] at hown')
    | (refine wpList_append_rd _ rfl (.tmp 7) (.tmp 22) 54 rfl elemBytes rfl (hown'.alloc _) rfl (by simp) (rd_alloc _ _ _ _) (by simp [Value.oneCell']) (by unfold maxLen; simp; omega) (by simp; omega) (Nat.le_trans (Nat.le_trans hsz hg'.size) (by simp)) ?_; intro A2 c2 w4 hA2 hown2 hg2))
  have hbB := onward (Below.refl w.heap.size w) (Nat.le_refl _) hb
  have hb2 := Below.grown hbB hg' hsz (by intro g e; cases e)
  have hb4 := Below.grown (hb2.alloc hb2.size _) hg2 (by have := hb2.size; simp; omega) (fun g e => (hown'.lt g e).1)
  have HM2 := Lib.hid (show sealed bs = bs ++ [s % 256, s / 256 % 256, s / 65536 % 256, s / 16777216] by unfold sealed; rw [HM.out, Int.toNat_natCast, tailTo_four, Nat.mod_eq_of_lt (show s / 16777216 < 256 by omega)])
  clear hg' hown' hA' hg2 hbB hb2 e3
  go_wp2_with fail
  go_ret
  refine ⟨A2, c2, by rw [HM2.out, List.length_append]; rfl, ?_, hb4⟩
  rw [HM2.out, bytesV_append, List.length_append]
  exact hown2
end Go.Proofs.Ytjfllpmiajkenaa.Sm
