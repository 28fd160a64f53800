/- fourwatchbig.Int: Text in base 10, String, of a number that is not below 0. -/
import Derived.Test.YtlcpackmoolngaaBigSm
import Derived.Test.YtlcpackmoolngaaBigI
import Derived.Test.YtlcpackmoolngaaBigS
import Derived.Test.YtlcpackmoolngaaTextLaw
import Derived.Test.YtlcpackmoolngaaTextRev
import Derived.Test.YtlcpackmoolngaaAppAt
namespace Go.Proofs.Ytlcpackmoolngaa.Tx
open Go.RowKit Go.Proofs.Ytlcpackmoolngaa.Mem Go.Proofs.Ytlcpackmoolngaa.Sm Go.Proofs.Ytlcpackmoolngaa.TextLaw Go.Proofs.Ytlcpackmoolngaa.BigW Go.Proofs.Ytlcpackmoolngaa.BigLaw
set_option linter.unusedVariables false

theorem wd_keep {w w' : World} {B g : Nat} {c : Nat} {l : List Nat} (h : Wd w B (some ⟨g, 0, none⟩) c l) (hk : ∀ o, w'.cell? ⟨g, o, none⟩ = w.cell? ⟨g, o, none⟩) : Wd w' B (some ⟨g, 0, none⟩) c l := by
  refine ⟨h.len, h.cap, h.none_, ⟨h.rd.1, fun hp => ?_⟩, h.small⟩
  obtain ⟨b, o, e, hb, hc⟩ := h.rd.2 hp
  refine ⟨b, o, e, hb, fun j u hu => ?_⟩
  injection e with e
  injection e with e1 e2
  subst e1
  rw [hk]
  exact hc j u hu

theorem dec_len_pw {X : Nat} (h : X < pw 100) : (dec X).length ≤ 1600 := by
  obtain ⟨m, hm⟩ : ∃ m, m = 1599 := ⟨_, rfl⟩
  have h1 : X < 10 ^ (m + 1) := by
    refine Nat.lt_of_lt_of_le h ?_
    rw [pw_two, show 32 * 100 = 2 * (m + 1) by omega, Nat.pow_mul]
    exact Nat.pow_le_pow_left (by omega) _
  have := dec_length m X h1
  omega

set_option maxHeartbeats 1000000 in
theorem bigText_any (p X : Nat) (w : World) (hx : BigAt w p (X : Int)) (bx : X < pw 100) :
    Calls Try.prog 68 #[.pointer (some ⟨p, 0, none⟩), .int .i64 10] w fun e w' => e = .returned (.string (strB (ch (dec X)))) ∧ Below w.heap.size w w' := by
  obtain ⟨A, c, l, x0, x1, xw, xt, xv⟩ := hx.parts
  rw [decide_eq_false (by omega)] at x0
  have HL := Lib.hid (len_of xt xv (show (X : Int).natAbs < pw 100 from bx))
  have HXW := Lib.hid xw
  have HXT := Lib.hid xt
  have HXV := Lib.hid (show val l = X from xv)
  have HBX := Lib.hid bx
  have HPX := Lib.hid hx.lt
  clear xw xt xv hx bx
  by_cases hz : X = 0
  · have hl : ((l.length : Int) == 0) = true := by
      rw [beq_iff_eq]
      have : l = [] := (val_zero HXT.out).1 (by rw [HXV.out, hz])
      rw [this]; rfl
    have HS := Lib.hid (show (⟨#[48]⟩ : ByteArray) = strB (ch (dec X)) by rw [hz, dec_lo (by omega)]; rfl)
    clear hz
    go_enter Try.func68, Try.ntmps68
    go_wp2_with fail
    go_ret
    exact ⟨by rw [HS.out]; rfl, Below.refl _ _⟩
  · have hl : ((l.length : Int) == 0) = false := by
      rw [beq_eq_false_iff_ne]
      intro h
      have : l = [] := List.eq_nil_of_length_eq_zero (by omega)
      have := (val_zero HXT.out).2 this
      have := HXV.out
      omega
    have HZ := Lib.hid hz
    clear hz
    go_enter Try.func68, Try.ntmps68
    go_wp2_with fail
    refine (twin_any A c l _ _ (Nat.le_refl _) HXW.out HL.out).mono ?_
    rintro e w1 ⟨A1, c1, rfl, hw1, hb1⟩
    have HW1 := Lib.hid hw1
    have x0' := (below_cell hb1 p 0 HPX.out).trans x0
    have HXX := Lib.hid x0
    have HPS := Lib.hid (show p < w.heap.size from HPX.out)
    clear hw1 x0' x1 x0
    go_upto_region 7 with fail
    go_loopw [5, 6, 7] (fun v av _ wr => ∃ (q : Nat) (ds : List Nat) (A2 : Option Addr) (c2 : Nat) (l2 : List Nat), av = .slice A2 l2.length c2 ∧ Wd wr wr.heap.size A2 c2 l2 ∧ trimd l2 ∧ val l2 = q ∧ l2.length ≤ 1000000 ∧ q < pw 100 ∧ OwnB w.heap.size wr v (ch ds) ∧ (∀ x ∈ ds, x < 10) ∧ top q ++ ds.reverse = dec X ∧ Below w.heap.size w wr) (fun v _ _ _ => (dec X).length - (match v with | .slice _ n _ => n | _ => 0))
    case atStart =>
      refine ⟨X, [], A1, c1, l, rfl, HW1.out, HXT.out, HXV.out, HL.out, HBX.out, ⟨none, 0, rfl, World.ownsRow_nil _ _ _ _⟩, by simp, ?_, hb1⟩
      rw [List.reverse_nil, List.append_nil, top, if_neg HZ.out]
    case round =>
      obtain ⟨q, ds, A2, c2, l2, rfl, hw2, ht2, hv2, hl2, hq, ⟨A4, c4, rfl, hov⟩, hdg, htop, hb⟩ := hrel
      rw [ch_length] at hov ⊢
      have hsz := hb.size
      have HW2 := Lib.hid hw2
      have HL2 := Lib.hid hl2
      have HT2 := Lib.hid ht2
      have HQ := Lib.hid hq
      have HOV := Lib.hid hov
      have HDG := Lib.hid hdg
      have HTOP := Lib.hid htop
      have HLEN := Lib.hid (show (top q).length + ds.length = (dec X).length by rw [← HTOP.out, List.length_append, List.length_reverse])
      have hD := dec_len_pw HBX.out
      have hdl : ds.length ≤ 1600 := by have := HLEN.out; omega
      clear hw2 ht2 hq hov hdg htop hl2
      by_cases h0 : 0 < l2.length
      · have h0' : (0 : Int) < (l2.length : Int) := by omega
        have hqp : 0 < q := by
          rcases Nat.eq_zero_or_pos q with h | h
          · rw [h] at hv2
            have := (val_zero HT2.out).1 hv2
            rw [this] at h0; simp at h0
          · exact h
        have HQP := Lib.hid hqp
        have HV2 := Lib.hid hv2
        clear hqp hv2
        go_wp2_with fail
        refine (smallF_any A2 c2 l2 10 _ _ (Nat.le_refl _) HW2.out HL2.out (by omega) (by omega)).mono ?_
        rintro e w3 ⟨c3, l3, rfl, hw3, ht3, hv3, hb3⟩
        rw [HV2.out] at hv3 ⊢
        have hr9 : q % 10 < 10 := Nat.mod_lt _ (by omega)
        have HN := Lib.hid (show top (q / 10) ++ (ds ++ [q % 10]).reverse = dec X by
          rw [List.reverse_append, List.reverse_singleton, ← List.append_assoc, top_step HQP.out, HTOP.out])
        have HQL := Lib.hid (show q / 10 < pw 100 from Nat.lt_of_le_of_lt (Nat.div_le_self _ _) HQ.out)
        have HDL := Lib.hid (show ds.length < (dec X).length by
          have h1 := HLEN.out
          have h2 : 0 < (top q).length := by rw [top, if_neg (by have := HQP.out; omega)]; exact dec_pos q
          omega)
        have HG2 := Lib.hid (show ∀ x ∈ ds ++ [q % 10], x < 10 from fun x hx => by
          rcases List.mem_append.1 hx with h | h
          · exact HDG.out x h
          · simp at h; omega)
        have HL3 := Lib.hid (show l3.length ≤ 1000000 from len_of (z := ((q / 10 : Nat) : Int)) ht3 hv3 HQL.out)
        have HW3 := Lib.hid hw3
        have HT3 := Lib.hid ht3
        have HV3 := Lib.hid hv3
        have HOV3 := Lib.hid (ownsRow_below HOV.out hb3)
        have hsz3 := hb3.size
        have hwlt := hw3
        have HG := Lib.hid (show ∀ g, (Value.slice A4 ds.length c4).ownBlock = some g → g < wr.heap.size from fun g e => (HOV.out.lt g e).2)
        have HB3 := Lib.hid (onward hb (Nat.le_refl _) hb3)
        have hfit : wr.heap.size < w3.heap.size ∨ l3.length = 0 := by
          rcases Nat.eq_zero_or_pos l3.length with h | h
          · exact .inr h
          · obtain ⟨b, o, e1, hlt, hc⟩ := hw3.rd.2 h
            injection e1 with e1
            injection e1 with e1 e2
            left
            obtain ⟨u, hu⟩ : ∃ u, (wordsV l3)[0]? = some u := ⟨_, wordsV_at h⟩
            have h2 := hc 0 u hu
            have h3 := World.block_lt_of_cell? w3 ⟨b, o + 0, none⟩ h2
            have h3 : b < w3.heap.size := h3
            omega
        have HFIT := Lib.hid hfit
        have HCH := Lib.hid (show ch (ds ++ [q % 10]) = ch ds ++ [q % 10 + 48] from ch_append _ _)
        generalize q % 10 = x at hr9 HN HG2 HCH ⊢
        generalize q / 10 = y at HN HQL HV3 hv3 ⊢
        clear hw3 ht3 hv3 hwlt hfit
        go_wp2_with (at_builtin; refine wpList_append_rd _ rfl (.tmp 36) (.tmp 40) 38 rfl elemBytes rfl (HOV3.out.alloc _) rfl (by simp) (rd_one _ _ _) (by simp [Value.oneCell']) (by unfold maxLen; omega) (by omega) (by simp; omega) ?_; intro A5 c5 w5 hA5 hown5 hg5; have HO5 := Lib.hid hown5; have HG5 := Lib.hid hg5; have HB5 := Lib.hid (Below.grown (HB3.out.alloc (by omega) (.cells #[.int .u8 (48 + (x : Int))] 5)) hg5 (by simp; omega) (fun g e => (HOV.out.lt g e).1)); clear hown5 hg5 hA5)
        have hw5 : Wd w5 w5.heap.size (some ⟨wr.heap.size, 0, none⟩) c3 l3 := by
          have hs5 := HG5.out.size
          simp at hs5
          rcases HFIT.out with h | h
          · refine (wd_keep HW3.out (fun o => ?_)).more (by omega)
            have h1 := World.cell?_alloc_lt w3 (.cells #[.int .u8 (48 + (x : Int))] 5) ⟨wr.heap.size, o, none⟩ h
            exact (World.cell?_of_block (HG5.out.block wr.heap.size (by simp; omega) (fun e => by have := HG.out _ e.symm; omega))).trans h1
          · have h2 : l3 = [] := List.eq_nil_of_length_eq_zero h
            have h3 := HW3.out
            rw [h2] at h3 ⊢
            exact ⟨h3.len, h3.cap, h3.none_, Rd.nil _ _ _ _, h3.small⟩
        refine ⟨⟨y, ds ++ [x], _, _, l3, rfl, hw5, HT3.out, HV3.out, HL3.out, HQL.out, ⟨A5, c5, by rw [ch_length, List.length_append]; rfl, ?_⟩, HG2.out, HN.out, HB5.out⟩, ?_⟩
        · rw [HCH.out, bytesV_append, List.length_append, ch_length]
          simpa [bytesV, Int.add_comm] using HO5.out
        · show (dec X).length - (ds.length + 1) < (dec X).length - ds.length
          have := HDL.out
          omega
      · have hl0 : l2 = [] := List.eq_nil_of_length_eq_zero (by omega)
        have hn0 : ¬ (0 : Int) < (l2.length : Int) := by omega
        have HR := Lib.hid (show ds.reverse = dec X by
          have h := HTOP.out
          rw [← hv2, hl0, val_nil] at h
          exact h)
        have hnp : 0 < ds.length := by
          have := congrArg List.length HR.out
          rw [List.length_reverse] at this
          have := dec_pos X
          omega
        have x0 := (below_cell hb p 0 HPS.out).trans HXX.out
        obtain ⟨n, hn⟩ : ∃ n, n = ds.length := ⟨_, rfl⟩
        have HN := Lib.hid hn
        have HCL := Lib.hid (show (ch ds).length = n by rw [ch_length, hn])
        rw [← hn] at HOV hnp hdl ⊢
        have HBE := Lib.hid hb
        clear hv2 h0 hn
        generalize wr = w2 at *
        obtain ⟨g, rfl, hgb⟩ : ∃ g, A4 = some ⟨g, 0, none⟩ ∧ w.heap.size ≤ g := by
          rcases HOV.out.2 with ⟨h1, _⟩ | ⟨g, cap, cur, hv, hb9, _⟩
          · injection h1 with h1 h2 h3; omega
          · injection hv with h1 h2 h3; exact ⟨g, h1, hb9⟩
        go_upto_region 16 with fail
        go_loopw [8, 9, 10] (fun i j _ wr => ∃ k : Nat, 2 * k ≤ n ∧ i = .int .i64 (k : Int) ∧ j = .int .i64 ((n : Int) - 1 - (k : Int)) ∧ wr.ownsRow w.heap.size 5 1 (.slice (some ⟨g, 0, none⟩) n c4) n (bytesV (mixR (ch ds) k)) ∧ Below w.heap.size w wr) (fun i j _ _ => (intOf j - intOf i).toNat)
        case atStart => exact ⟨0, by omega, rfl, by go_num, by rw [mixR_zero]; exact HOV.out, HBE.out⟩
        case round =>
          obtain ⟨k, hk, rfl, rfl, hov, hb⟩ := hrel
          have hsz := hb.size
          obtain ⟨m, hm⟩ : ∃ m : Nat, m + k + 1 = n := ⟨n - 1 - k, by omega⟩
          have em : (n : Int) - 1 - (k : Int) = (m : Int) := by omega
          rw [em]
          by_cases hlt : k < m
          · have hlt' : (k : Int) < (m : Int) := by omega
            have hkn : (k : Int) < (n : Int) := by omega
            have hmn : (m : Int) < (n : Int) := by omega
            have hl := mixR_length (ch ds) k
            rw [HCL.out] at hl
            have e1 : n - 1 - k = m := by omega
            have r1 := mixR_lo (ch ds) k (by rw [HCL.out]; omega)
            have r2 := mixR_hi (ch ds) k (by rw [HCL.out]; omega)
            rw [HCL.out, e1] at r2
            have r3 := mixR_step (ch ds) k (by rw [HCL.out]; omega)
            rw [HCL.out, e1] at r3
            have ck := hov.cellAt k (by omega)
            have cm := hov.cellAt m (by omega)
            rw [bytesV_getD _ _ (by omega), r1] at ck
            rw [bytesV_getD _ _ (by omega), r2] at cm
            have fk := hov.frozenAt k
            have fm := hov.frozenAt m
            have HRK := Lib.hid (show mixR (ch ds) (k + 1) = ((mixR (ch ds) k).set k ((ch ds).getD m 0)).set m ((ch ds).getD k 0) from r3.symm)
            generalize (ch ds).getD k 0 = y at ck HRK
            generalize (ch ds).getD m 0 = x at cm HRK
            have HOV1 := Lib.hid hov
            clear r1 r2 r3 hl hov em e1
            go_wp2_with fail
            refine ⟨⟨k + 1, by omega, by go_num, by go_num, ?_, (hb.setCell (by show _ ≤ g; exact hgb) _).setCell (by show _ ≤ g; exact hgb) _⟩, by simp [intOf]; omega⟩
            rw [HRK.out, bytesV_set, bytesV_set]
            exact ((HOV1.out.stored k (.int .u8 (x : Int))).1.stored m (.int .u8 (y : Int))).1
          · have hlt' : ¬ (k : Int) < (m : Int) := by omega
            rw [mixR_end (ch ds) k (by rw [HCL.out]; omega)] at hov
            have he : (ch ds).reverse = ch (dec X) := by rw [← HR.out]; simp [ch]
            rw [he] at hov
            have HLE := Lib.hid (show n = (ch (dec X)).length by rw [← he, List.length_reverse, HCL.out])
            have hcv := conv_own HLE.out hov
            clear hov he
            go_wp2_with fail
            go_ret
            exact ⟨rfl, hb⟩
end Go.Proofs.Ytlcpackmoolngaa.Tx
