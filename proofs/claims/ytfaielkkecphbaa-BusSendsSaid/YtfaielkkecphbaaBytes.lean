/- Contracts: sum.Seal, sum.Open and the reference's; bytes as a string. -/
import Derived.Test.YtfaielkkecphbaaSumOf
import Derived.Deep.RegionHeld3
namespace Go.Proofs.Ytfaielkkecphbaa.Sm
open Go.ChangeShapes Go.WideShapes Go.ChangeAt Go.RowKit Go.Proofs.Ytfaielkkecphbaa.Mem Go.Proofs.Ytfaielkkecphbaa.SumLaw
set_option linter.unusedVariables false

/-- P5.2: the bytes of a sum, the lowest first -/
def tailTo (s k : Nat) : List Nat := (List.range k).map fun i => s / 256 ^ i % 256
def sealed (bs : List Nat) : List Nat := bs ++ tailTo (more 0 bs).toNat 4
theorem tailTo_succ (s k : Nat) : tailTo s (k + 1) = tailTo s k ++ [s / 256 ^ k % 256] := by
  simp [tailTo, List.range_succ]
theorem tailTo_four (s : Nat) : tailTo s 4 = [s % 256, s / 256 % 256, s / 65536 % 256, s / 16777216 % 256] := by simp [tailTo, List.range_succ]
theorem tailTo_length (s k : Nat) : (tailTo s k).length = k := by simp [tailTo]
theorem bytesV_append (a b : List Nat) : bytesV (a ++ b) = bytesV a ++ bytesV b := by simp [bytesV]
theorem bytesV_length (a : List Nat) : (bytesV a).length = a.length := by simp [bytesV]
theorem more_nat (bs : List Nat) (h : ∀ x ∈ bs, x < 256) : ∃ s : Nat, more 0 bs = (s : Int) ∧ s < 4294967296 := by
  have := over_lt bs (4294967295 - ((0 : Int) % 4294967296).toNat) (by omega) h
  unfold more
  exact ⟨4294967295 - over byteT (4294967295 - ((0 : Int) % 4294967296).toNat) bs, by omega, by omega⟩

theorem rd_one (w : World) (v : Value) (e : TypeId) : Rd (w.alloc (.cells #[v] e)) (w.heap.size + 1) 1 (some ⟨w.heap.size, 0, none⟩) 1 [v] := rd_alloc w #[v] e (0, 0)

/-- 'make([]T, 0, n)': a row of the call's own, none of it taken yet. -/
theorem wpList_make_cap {P : Program} {w : World} {ops : Array Oper} {rest : List Oper} {o : Oper} {a : Act} {Q : Exit → Act → World → Prop}
    (hg : o.guard = none) (l c : Operand) (t : TypeId) (hop : o.op = Op.makeSlice t l c) {e : TypeId} {z : Value} {size bytes : Nat} (E : Elem P t e z size bytes)
    {kl kc : IntKind} {L C : Int} (n : Nat) (hl : a.eval l = .int kl L) (hc : a.eval c = .int kc C) (hL : L = 0) (hC : C = (n : Int)) (hb : bytes * n ≤ 281474976710656) (hn : n ≤ maxLen) {base : Nat} (hbase : base ≤ w.heap.size)
    (h : ∀ w1, w1.ownsRow base e size (.slice (some ⟨w.heap.size, 0, none⟩) 0 n) 0 [] → w.grownBy w1 none → wpList P ops Q rest (a.put o.dst (.slice (some ⟨w.heap.size, 0, none⟩) 0 n)) w1) : wpList P ops Q (o :: rest) a w := by
  obtain ⟨i, hi, hz0, hz1, hz2⟩ := info_parts E.info
  subst hz2
  have hb' : (i.bytes : Int) * (n : Int) ≤ 281474976710656 := by
    have h : ((i.bytes * n : Nat) : Int) ≤ 281474976710656 := by omega
    rwa [Int.natCast_mul] at h
  unfold maxLen at hn
  have hr := run_make (P := P) w t e i z E.und hi hz0 kl kc 0 n (by omega) (by omega) hb' (by omega)
  refine wpList_plain hg fun K hK => ?_
  subst hL
  subst hC
  simp only [Int.toNat_natCast, Int.toNat_zero, hz1] at hr
  unfold Oper.wp
  simp only [execOp, hop, hl, hc, hr, Result.andThen_ok, Sem.run_bind, Sem.run_pure]
  refine hK _ _ (h _ (World.ownsRow_made w _ n hbase (by unfold maxLen; omega) ?_) ?_)
  · rw [size_madeCells]
  · exact World.grownBy_alloc _ _ _

def OwnV (w wr : World) (v : Value) (n : Nat) (bs : List Nat) : Prop := ∃ A c, v = .slice A n c ∧ n = bs.length ∧ wr.ownsRow w.heap.size 5 1 (.slice A n c) n (bytesV bs)

theorem seal_any (A : Option Addr) (c : Nat) (bs : List Nat) (B : Nat) (w : World) (hB : B ≤ w.heap.size) (hA : A = none → c = 0) (hnc : bs.length ≤ c) (hc : bs.length ≤ 140737488351232) (hbs : ∀ x ∈ bs, x < 256) (hr : Rd w B 1 A bs.length (bytesV bs)) :
    Calls Try.prog 27 #[.slice A bs.length c] w fun e w' => OwnBytes w w' (sealed bs) e := by
  have HR := Lib.hid hr
  have HS := Lib.hid hbs
  clear hr hbs
  go_enter Try.func27, Try.ntmps27
  go_wp2_with fail
  refine (sum_any A c bs B _ hB (by omega) HS.out HR.out).mono ?_
  rintro e w1 ⟨rfl, hb⟩
  have HR1 := Lib.hid (HR.out.below (hb.mono hB))
  obtain ⟨s, hs, hs2⟩ := more_nat bs HS.out
  have HM := Lib.hid hs
  rw [hs]
  clear hs
  have hsz := hb.size
  go_wp2_with (first
    | (refine wpList_make_cap rfl _ _ 22 rfl elemBytes (bs.length + 4) rfl rfl rfl (by simp) (by omega) (by unfold maxLen; omega) hsz ?_; intro w2 hown hg)
    | (refine wpList_append_rd _ rfl (.tmp 11) (.tmp 12) 22 rfl elemBytes rfl hown rfl (fun h => ⟨by have := hA h; omega, hA h⟩) (HR1.out.grown hg (Nat.le_trans hB hsz) (by simp)) (bytesV_one bs) (by unfold maxLen; omega) (by omega) (Nat.le_trans hsz hg.size) ?_; intro A' c' w3 hA' hown' hg'))
  have hbB := onward (Below.refl w.heap.size w) (Nat.le_refl _) hb
  have hb2 := Below.grown hbB hg hsz (by simp)
  have hb3 := Below.grown hb2 hg' hb2.size (fun g e => (hown.lt g e).1)
  simp only [List.nil_append, Nat.zero_add] at hown'
  have HO : Hid (OwnV w w3 (.slice A' bs.length c') (bs.length + 0) (bs ++ tailTo s 0)) := Lib.hid ⟨A', c', rfl, by simp [tailTo], own_weaken (by rw [show tailTo s 0 = [] from rfl, List.append_nil]; exact hown') (by omega)⟩
  clear hown hown' hg hg' hA' hsz hb hbB hb2 HR1
  go_loopw [3, 4, 14] (fun t v i wr => ∃ k : Nat, k ≤ 4 ∧ i = .int .i64 k ∧ t = .int .i64 ((s / 256 ^ k : Nat) : Int) ∧ OwnV w wr v (bs.length + k) (bs ++ tailTo s k) ∧ Below w.heap.size w wr) (fun _ _ i _ => 4 - (intOf i).toNat)
  case atStart => exact ⟨0, by omega, rfl, by simp, HO.out, hb3⟩
  case round =>
    clear HO hb3
    obtain ⟨k, hk, rfl, rfl, ⟨A1, c1, rfl, hn1, hown⟩, hb⟩ := hrel
    have HN := Lib.hid hn1
    clear hn1
    have hsz := hb.size
    have HT := Lib.hid (tailTo_succ s k)
    have HD := Lib.hid (show s / 256 ^ (k + 1) = s / 256 ^ k / 256 by rw [Nat.pow_succ, Nat.div_div_eq_div_mul])
    have hq2 : s / 256 ^ k < 4294967296 := Nat.lt_of_le_of_lt (Nat.div_le_self _ _) hs2
    generalize hq : s / 256 ^ k = q at *
    have HQ := Lib.hid hq
    clear hq
    by_cases hlt : k < 4
    · have e1 : IntKind.u8.wrap (q : Int) = ((q % 256 : Nat) : Int) := by simp [IntKind.wrap, IntKind.bits, IntKind.signed]
      go_wp2_with (at_builtin; refine wpList_append_rd _ rfl (.tmp 16) (.tmp 19) 22 rfl elemBytes rfl (hown.alloc _) rfl (by simp) (rd_one _ _ _) (by simp [Value.oneCell']) (by unfold maxLen; omega) (by omega) (by simp; omega) ?_; intro A2 c2 w4 hA2 hown2 hg2)
      have hb4 := Below.grown (hb.alloc hsz (.cells #[.int .u8 ((q : Int) % 256)] 5)) hg2 (by simp; omega) (fun g e => (hown.lt g e).1)
      refine ⟨⟨k + 1, by omega, by go_num, by rw [HD.out]; rfl, ⟨A2, c2, by rw [Nat.add_assoc], by rw [HT.out, ← List.append_assoc, List.length_append, ← HN.out]; rfl, ?_⟩, hb4⟩, by simp [intOf]; omega⟩
      rw [HT.out, ← List.append_assoc, bytesV_append, ← Nat.add_assoc]
      exact hown2
    · obtain rfl : k = 4 := by omega
      clear hlt
      have HM2 := Lib.hid (show sealed bs = bs ++ tailTo s 4 by unfold sealed; rw [HM.out, Int.toNat_natCast])
      go_wp2_with fail
      go_ret
      exact ⟨A1, c1, by rw [HM2.out, ← HN.out]; rfl, by rw [HM2.out, ← HN.out]; exact hown, hb⟩

/-- the reference's Seal -/
theorem refseal_any (A : Option Addr) (c : Nat) (bs : List Nat) (B : Nat) (w : World) (hB : B ≤ w.heap.size) (hA : A = none → c = 0) (hnc : bs.length ≤ c) (hc : bs.length ≤ 140737488351232) (hbs : ∀ x ∈ bs, x < 256) (hr : Rd w B 1 A bs.length (bytesV bs)) :
    Calls Try.prog 28 #[.slice A bs.length c] w fun e w' => OwnBytes w w' (sealed bs) e := by
  have HR := Lib.hid hr
  have HS := Lib.hid hbs
  clear hr hbs
  go_enter Try.func28, Try.ntmps28
  go_wp2_with fail
  refine (refsum_any A c bs B _ hB (by omega) HS.out HR.out).mono ?_
  rintro e w1 ⟨rfl, hb⟩
  have HR1 := Lib.hid (HR.out.below (hb.mono hB))
  obtain ⟨s, hs, hs2⟩ := more_nat bs HS.out
  have HM := Lib.hid hs
  rw [hs]
  clear hs
  have hsz := hb.size
  have e3 : IntKind.u8.wrap ((s : Int) / 16777216) = (s : Int) / 16777216 := by simp [IntKind.wrap, IntKind.bits, IntKind.signed]; omega
  go_wp2_with (first
    | (refine wpList_append_rd _ rfl (.const (.slice none 0 0)) (.tmp 6) 22 rfl elemBytes rfl (World.ownsRow_nil _ w.heap.size _ _) rfl (fun h => ⟨by have := hA h; omega, hA h⟩) HR1.out (bytesV_one bs) (by unfold maxLen; omega) (by omega) hsz ?_; intro A' c' w3 hA' hown' hg'; simp only [List.nil_append, Nat.zero_add] at hown')
    | (refine wpList_append_rd _ rfl (.tmp 7) (.tmp 22) 22 rfl elemBytes rfl (hown'.alloc _) rfl (by simp) (rd_alloc _ _ _ _) (by simp [Value.oneCell']) (by unfold maxLen; simp; omega) (by simp; omega) (Nat.le_trans (Nat.le_trans hsz hg'.size) (by simp)) ?_; intro A2 c2 w4 hA2 hown2 hg2))
  have hbB := onward (Below.refl w.heap.size w) (Nat.le_refl _) hb
  have hb2 := Below.grown hbB hg' hsz (by intro g e; cases e)
  have hb4 := Below.grown (hb2.alloc hb2.size _) hg2 (by have := hb2.size; simp; omega) (fun g e => (hown'.lt g e).1)
  have HM2 := Lib.hid (show sealed bs = bs ++ [s % 256, s / 256 % 256, s / 65536 % 256, s / 16777216] by unfold sealed; rw [HM.out, Int.toNat_natCast, tailTo_four, Nat.mod_eq_of_lt (show s / 16777216 < 256 by omega)])
  clear hg' hown' hA' hg2 hbB hb2 e3
  go_wp2_with fail
  go_ret
  refine ⟨A2, c2, by rw [HM2.out, List.length_append]; rfl, ?_, hb4⟩
  rw [HM2.out, bytesV_append, List.length_append]
  exact hown2
end Go.Proofs.Ytfaielkkecphbaa.Sm
