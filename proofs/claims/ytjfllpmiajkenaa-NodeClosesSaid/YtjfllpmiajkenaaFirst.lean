/- Contract: the reference's first: the numbers of the first message of a node that fits. -/
import Derived.Test.YtjfllpmiajkenaaMsgs2
import Derived.Test.YtjfllpmiajkenaaNodeC
namespace Go.Proofs.Ytjfllpmiajkenaa.Ms
open Go.ChangeShapes Go.WideShapes Go.ChangeAt Go.RowKit Go.Proofs.Ytjfllpmiajkenaa.Mem Go.Proofs.Ytjfllpmiajkenaa.Op Go.Proofs.Ytjfllpmiajkenaa.Rws Go.Proofs.Ytjfllpmiajkenaa.Nd
set_option linter.unusedVariables false
set_option linter.unusedSimpArgs false

/-- a message of node 'fm' that fits -/
def fit (id fr kind : Int) (many : Nat) (fm : Int) (m : Msg) : Bool := m.f == fm && m.f != id && m.k == kind && m.n == fr && (m.zs.length : Int) == (many : Int)
def firstOf (id fr kind : Int) (many : Nat) (fm : Int) (ms : List Msg) : Option Msg := ms.find? (fit id fr kind many fm)

theorem find_at {α : Type} {p : α → Bool} {ms : List α} {k : Nat} {m : α} (h0 : (ms.take k).find? p = none) (hm : ms[k]? = some m) (hp : p m = true) : ms.find? p = some m := by
  have hk : k < ms.length := (List.getElem?_eq_some_iff.1 hm).1
  have e : ms = ms.take k ++ m :: ms.drop (k + 1) := by
    rw [(List.getElem?_eq_some_iff.1 hm).2.symm, List.getElem_cons_drop, List.take_append_drop]
  rw [e, List.find?_append, h0]
  simp [hp]
theorem find_not {α : Type} {p : α → Bool} {ms : List α} {k : Nat} {m : α} (h0 : (ms.take k).find? p = none) (hm : ms[k]? = some m) (hp : p m = false) : (ms.take (k + 1)).find? p = none := by
  rw [List.take_add_one, hm, List.find?_append, h0]
  simp [hp]

/-- what first answers -/
def FirstAs (w : World) (B : Nat) (o : Option Msg) (e : Ending) : Prop :=
  match o with
  | some m => ∃ a c, e = .returned (.tuple #[.slice a m.zs.length c, .bool true]) ∧ (a = none → c = 0) ∧ m.zs.length ≤ c ∧ Rd w B 1 a m.zs.length (intsV m.zs)
  | none => e = .returned (.tuple #[.slice none 0 0, .bool false])

set_option maxRecDepth 100000 in
set_option maxHeartbeats 2000000 in
theorem first_any (R : Array Value) (id fr : Int) (h0 : R[0]? = some (.int .i64 id)) (h1 : R[1]? = some (.int .i64 fr)) (A : Option Addr) (c : Nat) (ms : List Msg) (fm kind : Int) (many : Nat) (B : Nat) (w : World) (hB : B ≤ w.heap.size) (hl : ms.length ≤ 140737488355328) (hr : MsgsAt w B A ms) :
    Calls Try.prog 58 #[.agg R, .slice A ms.length c, .int .i64 fm, .int .i64 kind, .int .i64 (many : Int)] w fun e w' => FirstAs w' B (firstOf id fr kind many fm ms) e ∧ Below w.heap.size w w' := by
  have HR := Lib.hid hr
  have H0 := Lib.hid h0
  have H1 := Lib.hid h1
  clear hr h0 h1
  go_enter Try.func58, Try.ntmps58
  go_wp2_with fail
  go_loopw [16] (fun i wr => ∃ (k : Nat), k ≤ ms.length ∧ i = .int .i64 k ∧ firstOf id fr kind many fm (ms.take k) = none ∧ Blk wr w.heap.size 37 R ∧ Below w.heap.size w wr) (fun i _ => ms.length - (intOf i).toNat)
  case atStart => exact ⟨0, by omega, rfl, rfl, Blk.new rfl, (Below.refl _ _).alloc (Nat.le_refl _) _⟩
  case round =>
    obtain ⟨k, hk, rfl, hf, hn, hb⟩ := hrel
    by_cases hlt : k < ms.length
    · have hm : ms[k]? = some ms[k] := List.getElem?_eq_getElem hlt
      generalize ms[k] = m at *
      have HY := Lib.hid (fun (hp : fit id fr kind many fm m = true) => show firstOf id fr kind many fm ms = some m from find_at hf hm hp)
      have HN := Lib.hid (fun (hp : fit id fr kind many fm m = false) => show firstOf id fr kind many fm (ms.take (k + 1)) = none from find_not hf hm hp)
      obtain ⟨b, o, a, ca, rfl, hbB, x0, x1, x2, x3, h2, h3, h4, h5⟩ := (HR.out.below (hb.mono hB)).at hm
      have H5 := Lib.hid h5
      have HB := Lib.hid hb
      have HNd := Lib.hid hn
      have hk0 : (0 : Int) ≤ (k : Int) := by omega
      have hk1 : (k : Int) < (ms.length : Int) := by omega
      have hb0 := hb.size
      clear hb hn hm hf h5
      go_upto_region 4 with fail
      have M := Lib.hid (show Blk (wr.alloc (.cells #[.int .i64 m.k, .int .i64 m.f, .int .i64 m.n, .slice a m.zs.length ca] 41)) wr.heap.size 41 #[.int .i64 m.k, .int .i64 m.f, .int .i64 m.n, .slice a m.zs.length ca] from Blk.fresh _ _ _)
      have N := Lib.hid (HNd.out.alloc (.cells #[.int .i64 m.k, .int .i64 m.f, .int .i64 m.n, .slice a m.zs.length ca] 41))
      have HB := Lib.hid (HB.out.alloc HB.out.size (.cells #[.int .i64 m.k, .int .i64 m.f, .int .i64 m.n, .slice a m.zs.length ca] 41))
      have H5 := Lib.hid (H5.out.alloc (Nat.le_trans hB hb0) (.cells #[.int .i64 m.k, .int .i64 m.f, .int .i64 m.n, .slice a m.zs.length ca] 41))
      have y0 := M.out.cell 0
      have y1 := M.out.cell 1
      have y2 := M.out.cell 2
      have y3 := M.out.cell 3
      have z0 := (N.out.cell 0).trans H0.out
      have z1 := (N.out.cell 1).trans H1.out
      simp only [List.getElem?_toArray, List.getElem?_cons_zero, List.getElem?_cons_succ] at y0 y1 y2 y3
      have FD := Lib.hid (show fit id fr kind many fm m = (m.f == fm && m.f != id && m.k == kind && m.n == fr && (m.zs.length : Int) == (many : Int)) from rfl)
      clear x0 x1 x2 x3 HNd M
      generalize (wr.alloc (.cells #[.int .i64 m.k, .int .i64 m.f, .int .i64 m.n, .slice a m.zs.length ca] 41)) = w2 at *
      generalize wr.heap.size = g at *
      cases e1 : (m.f == fm) with
      | false =>
        have HF := Lib.hid (HN.out (by rw [FD.out]; simp only [e1, Bool.false_and, Bool.and_false]))
        clear FD HY HN
        go_wp2_with fail
        exact ⟨⟨k + 1, by omega, by go_num, HF.out, N.out, HB.out⟩, by simp [intOf]; omega⟩
      | true =>
        cases e2 : (m.f != id) with
        | false =>
          have HF := Lib.hid (HN.out (by rw [FD.out]; simp only [e1, e2, Bool.false_and, Bool.and_false]))
          clear FD HY HN
          go_wp2_with fail
          exact ⟨⟨k + 1, by omega, by go_num, HF.out, N.out, HB.out⟩, by simp [intOf]; omega⟩
        | true =>
          cases e3 : (m.k == kind) with
          | false =>
            have HF := Lib.hid (HN.out (by rw [FD.out]; simp only [e1, e2, e3, Bool.false_and, Bool.and_false]))
            clear FD HY HN
            go_wp2_with fail
            exact ⟨⟨k + 1, by omega, by go_num, HF.out, N.out, HB.out⟩, by simp [intOf]; omega⟩
          | true =>
            cases e4 : (m.n == fr) with
            | false =>
              have HF := Lib.hid (HN.out (by rw [FD.out]; simp only [e1, e2, e3, e4, Bool.false_and, Bool.and_false]))
              clear FD HY HN
              go_wp2_with fail
              exact ⟨⟨k + 1, by omega, by go_num, HF.out, N.out, HB.out⟩, by simp [intOf]; omega⟩
            | true =>
              cases e5 : ((m.zs.length : Int) == (many : Int)) with
              | false =>
                have HF := Lib.hid (HN.out (by rw [FD.out]; simp only [e1, e2, e3, e4, e5, Bool.false_and, Bool.and_false]))
                clear FD HY HN
                go_wp2_with fail
                exact ⟨⟨k + 1, by omega, by go_num, HF.out, N.out, HB.out⟩, by simp [intOf]; omega⟩
              | true =>
                have HF := Lib.hid (HY.out (by rw [FD.out]; simp only [e1, e2, e3, e4, e5, Bool.and_self]))
                clear FD HY HN
                go_wp2_with fail
                go_ret2
                refine ⟨?_, HB.out⟩
                rw [HF.out]
                exact ⟨a, ca, rfl, h2, h3, H5.out⟩
    · obtain rfl : k = ms.length := by omega
      clear hlt
      have HB := Lib.hid hb
      rw [List.take_length] at hf
      have HF := Lib.hid hf
      clear hb hf hn
      go_wp2_with fail
      go_ret2
      refine ⟨?_, HB.out⟩
      rw [HF.out]
      rfl
end Go.Proofs.Ytjfllpmiajkenaa.Ms
