/- Contracts: wire.put, the reference's bytesOf; wire.Encode and the reference's Encode. -/
import Derived.Test.YtfaielkkecphbaaMsg
import Derived.Test.YtfaielkkecphbaaStr
namespace Go.Proofs.Ytfaielkkecphbaa.Wr
open Go.ChangeShapes Go.WideShapes Go.ChangeAt Go.RowKit Go.Proofs.Ytfaielkkecphbaa.Mem Go.Proofs.Ytfaielkkecphbaa.Sm Go.Proofs.Ytfaielkkecphbaa.SumLaw Go.Proofs.Ytfaielkkecphbaa.Ms
set_option linter.unusedVariables false

/-- byte j of a number, the lowest is 0 -/
def hb (v : Int) (j : Nat) : Nat := (v / 256 ^ j % 256).toNat
theorem hb_lt (v : Int) (j : Nat) : hb v j < 256 := by unfold hb; omega
theorem hb_int (v : Int) (j : Nat) : ((hb v j : Nat) : Int) = v / 256 ^ j % 256 := by unfold hb; omega
/-- the lowest n bytes of a number, the highest first -/
def hi (v : Int) : Nat → List Nat
  | 0 => []
  | j + 1 => hb v j :: hi v j
theorem hi_length (v : Int) : ∀ j, (hi v j).length = j
  | 0 => rfl
  | j + 1 => by simp [hi, hi_length v j]
theorem hi_small (v : Int) : ∀ j, ∀ x ∈ hi v j, x < 256
  | 0, x, h => by cases h
  | j + 1, x, h => by
    rcases List.mem_cons.1 h with rfl | h
    · exact hb_lt v j
    · exact hi_small v j x h
theorem shr_pow (v : Int) (j : Nat) : v / 2 ^ (8 * j) = v / 256 ^ j := by
  rw [Int.pow_mul]; rfl

def OwnB (base : Nat) (w w' : World) (xs : List Nat) (e : Ending) : Prop :=
  ∃ A c, e = .returned (.slice A xs.length c) ∧ w'.ownsRow base 5 1 (.slice A xs.length c) xs.length (bytesV xs) ∧ Below base w w'
def PutAt (base : Nat) (w wr : World) (xs : List Nat) (v : Int) (n : Nat) (sv si : Value) : Prop :=
  ∃ (j : Nat) (P : List Nat) (A : Option Addr) (c : Nat), j ≤ n ∧ P ++ hi v j = hi v n ∧ si = .int .i64 ((j : Int) - 1) ∧ sv = .slice A (xs ++ P).length c ∧ wr.ownsRow base 5 1 (.slice A (xs ++ P).length c) (xs ++ P).length (bytesV (xs ++ P)) ∧ Below base w wr

set_option maxHeartbeats 1000000 in
theorem put_any (A : Option Addr) (c : Nat) (xs : List Nat) (v : Int) (n : Nat) (base : Nat) (w : World) (hn : n ≤ 8) (hl : xs.length ≤ 140737488355000) (hbase : base ≤ w.heap.size) (ho : w.ownsRow base 5 1 (.slice A xs.length c) xs.length (bytesV xs)) :
    Calls Try.prog 88 #[.slice A xs.length c, .int .i64 v, .int .i64 (n : Int)] w fun e w' => OwnB base w w' (xs ++ hi v n) e := by
  have HO := Lib.hid ho
  clear ho
  go_enter Try.func88, Try.ntmps88
  go_wp2_with fail
  go_loopw [0, 7] (fun sv si wr => PutAt base w wr xs v n sv si) (fun _ i _ => (intOf i + 1).toNat)
  case atStart => exact ⟨n, [], A, c, Nat.le_refl _, rfl, rfl, by rw [List.append_nil], by rw [List.append_nil]; exact HO.out, Below.refl _ _⟩
  case round =>
    obtain ⟨j, P, A1, c1, hj, hP, rfl, rfl, hown, hbel⟩ := hrel
    have HP := Lib.hid hP
    have HW := Lib.hid hown
    have hsz := hbel.size
    have hlen : (xs ++ P).length + j = xs.length + n := by
      have := congrArg List.length hP
      simp only [List.length_append, hi_length] at this ⊢
      omega
    obtain ⟨m, hm⟩ : ∃ m, (xs ++ P).length = m := ⟨_, rfl⟩
    rw [hm] at HW hlen ⊢
    have HM := Lib.hid hm
    clear hP hown hm
    by_cases h0 : j = 0
    · subst h0
      have HE := Lib.hid (show xs ++ hi v n = xs ++ P by rw [← HP.out]; simp [hi])
      go_wp2_with fail
      go_ret
      exact ⟨A1, c1, by rw [HE.out, HM.out]; rfl, by rw [HE.out, HM.out]; exact HW.out, hbel⟩
    · obtain ⟨i, rfl⟩ : ∃ i, j = i + 1 := ⟨j - 1, by omega⟩
      have e1 : ((i + 1 : Nat) : Int) - 1 = (i : Int) := by omega
      rw [e1]
      clear e1 h0
      have e2 : (8 * (i : Int)).toNat = 8 * i := by omega
      have e3 : IntKind.u8.wrap (v / 2 ^ (8 * i)) = ((hb v i : Nat) : Int) := by rw [shr_pow, hb_int]; simp [IntKind.wrap, IntKind.bits, IntKind.signed]
      go_wp2_with (at_builtin; refine wpList_append_rd _ rfl (.tmp 14) (.tmp 21) 22 rfl elemBytes rfl (HW.out.alloc _) rfl (by simp) (rd_one _ _ _) (by simp [Value.oneCell']) (by unfold maxLen; omega) (by omega) (by simp; omega) ?_; intro A2 c2 w4 hA2 hown2 hg2)
      have hb4 := Below.grown (hbel.alloc (Nat.le_trans hbase hsz) (.cells #[.int .u8 ((hb v i : Nat) : Int)] 5)) hg2 (by simp; omega) (fun g e => (HW.out.lt g e).1)
      have hlen2 : (xs ++ (P ++ [hb v i])).length = m + 1 := by rw [← List.append_assoc, List.length_append, HM.out]; rfl
      refine ⟨⟨i, P ++ [hb v i], A2, c2, by omega, by rw [← HP.out, List.append_assoc]; rfl, rfl, by rw [hlen2], ?_, hb4⟩, by simp [intOf]⟩
      rw [hlen2, ← List.append_assoc, bytesV_append]
      exact hown2

def OfAt (base : Nat) (w wr : World) (v : Int) (n : Nat) (sv si sb : Value) : Prop :=
  ∃ (j : Nat) (A : Option Addr) (c : Nat), j ≤ n ∧ si = .int .i64 ((n : Int) - j) ∧ sv = .int .i64 (v / 256 ^ j) ∧ sb = .slice A j c ∧ wr.ownsRow base 5 1 (.slice A j c) j (bytesV (hi v j)) ∧ Below base w wr
theorem div_step (v : Int) (j : Nat) : v / 256 ^ j / 256 = v / 256 ^ (j + 1) := by
  rw [Int.pow_succ, Int.ediv_ediv_of_nonneg (Int.pow_nonneg (by omega))]

set_option maxHeartbeats 1000000 in
theorem bytesOf_any (v : Int) (n : Nat) (w : World) (hn : n ≤ 8) :
    Calls Try.prog 90 #[.int .i64 v, .int .i64 (n : Int)] w fun e w' => OwnB w.heap.size w w' (hi v n) e := by
  go_enter Try.func90, Try.ntmps90
  go_wp2_with fail
  go_loopw [0, 1, 5] (fun sv si sb wr => OfAt w.heap.size w wr v n sv si sb) (fun _ i _ _ => (intOf i).toNat)
  case atStart => exact ⟨0, none, 0, by omega, by simp, by simp, rfl, World.ownsRow_nil _ _ _ _, Below.refl _ _⟩
  case round =>
    obtain ⟨j, A1, c1, hj, rfl, rfl, rfl, hown, hbel⟩ := hrel
    have HW := Lib.hid hown
    have hsz := hbel.size
    have hN := own_nil hown
    clear hown
    by_cases h0 : n = j
    · subst h0
      have e0 : (n : Int) - (n : Int) = 0 := by omega
      rw [e0]
      clear e0
      go_wp2_with fail
      go_ret
      exact ⟨A1, c1, by rw [hi_length]; rfl, by rw [hi_length]; exact HW.out, hbel⟩
    · have e3 : IntKind.u8.wrap (v / 256 ^ j) = ((hb v j : Nat) : Int) := by rw [hb_int]; simp [IntKind.wrap, IntKind.bits, IntKind.signed]
      have HD := Lib.hid (div_step v j)
      generalize v / 256 ^ j = q at *
      have hlt : (0 : Int) < (n : Int) - (j : Int) := by omega
      clear h0
      go_wp2_with (at_builtin; refine wpList_append_rd _ rfl (.tmp 12) (.tmp 13) 22 rfl (base := wr.heap.size) elemBytes rfl (World.ownsRow_lit wr #[.int .u8 ((hb v j : Nat) : Int)] 1 (Nat.le_refl _) (by unfold maxLen; omega) rfl) rfl hN ((Rd.of_own HW.out).alloc (Nat.le_refl _) _) (bytesV_one _) (by unfold maxLen; omega) (by omega) (by simp) ?_; intro A2 c2 w4 hA2 hown2 hg2)
      have hb4 := Below.grown (hbel.alloc hsz (.cells #[.int .u8 ((hb v j : Nat) : Int)] 5)) hg2 (by simp; omega) (fun g e => by have e : some wr.heap.size = some g := e; injection e with e; omega)
      refine ⟨⟨j + 1, A2, c2, by omega, ?_, by rw [HD.out], by rw [Nat.add_comm], by have h := own_weaken hown2 hsz; rw [Nat.add_comm 1 j] at h; exact h, hb4⟩, by simp [intOf]; omega⟩
      congr 1; omega

/-- P6.2: the bytes ahead of the numbers -/
def front (k f n : Int) (l : Nat) : List Nat := [87, hb k 0, hb f 0] ++ hi n 4 ++ [l % 256]
/-- the numbers' bytes -/
def vals (zs : List Int) : List Nat := (zs.map fun z => hi z 8).flatten
theorem vals_take (zs : List Int) (k : Nat) (hk : k < zs.length) : vals (zs.take (k + 1)) = vals (zs.take k) ++ hi zs[k] 8 := by
  unfold vals
  rw [List.take_succ_eq_append_getElem hk, List.map_append, List.flatten_append]
  simp
theorem vals_length (zs : List Int) : (vals zs).length = 8 * zs.length := by
  induction zs with
  | nil => rfl
  | cons z zs ih =>
    have : vals (z :: zs) = hi z 8 ++ vals zs := rfl
    rw [this, List.length_append, hi_length, ih, List.length_cons]; omega
theorem front_length (k f n : Int) (l : Nat) : (front k f n l).length = 8 := by simp [front, hi_length]
theorem front_small (k f n : Int) (l : Nat) : ∀ x ∈ front k f n l, x < 256 := fun x h => by
  unfold front at h
  rcases List.mem_append.1 h with h | h
  · rcases List.mem_append.1 h with h | h
    · simp at h
      have := hb_lt k 0
      have := hb_lt f 0
      omega
    · exact hi_small n 4 x h
  · simp at h; omega
theorem vals_small (zs : List Int) : ∀ x ∈ vals zs, x < 256 := fun x h => by
  unfold vals at h
  obtain ⟨l, hl, hx⟩ := List.mem_flatten.1 h
  obtain ⟨z, _, rfl⟩ := List.mem_map.1 hl
  exact hi_small z 8 x hx
def body (k f n : Int) (zs : List Int) (j : Nat) : List Nat := front k f n zs.length ++ vals (zs.take j)
theorem body_length (k f n : Int) (zs : List Int) (j : Nat) (hj : j ≤ zs.length) : (body k f n zs j).length = 8 + 8 * j := by
  rw [body, List.length_append, front_length, vals_length, List.length_take, Nat.min_eq_left hj]
theorem body_small (k f n : Int) (zs : List Int) (j : Nat) : ∀ x ∈ body k f n zs j, x < 256 := fun x h => by
  rcases List.mem_append.1 h with h | h
  · exact front_small _ _ _ _ x h
  · exact vals_small _ x h
/-- P6.2 -/
def enc (k f n : Int) (zs : List Int) : List Nat := sealed (body k f n zs zs.length)

def EncAt (w w' : World) (k f n : Int) (zs : List Int) (e : Ending) : Prop :=
  (wrong k f n zs.length ≠ 0 ∧ e = .returned (.tuple #[.slice none 0 0, .int .i64 (wrong k f n zs.length)]) ∧ Below w.heap.size w w') ∨
  (wrong k f n zs.length = 0 ∧ ∃ A c, e = .returned (.tuple #[.slice A (enc k f n zs).length c, .int .i64 0]) ∧ w'.ownsRow w.heap.size 5 1 (.slice A (enc k f n zs).length c) (enc k f n zs).length (bytesV (enc k f n zs)) ∧ Below w.heap.size w w')

theorem wrong_len {k f n : Int} {l : Nat} (h : wrong k f n l = 0) : l ≤ 24 := by
  unfold wrong at h
  split at h
  · omega
  · split at h
    · omega
    · split at h <;> omega

def LoopAt (base : Nat) (w wr : World) (k f n : Int) (zs : List Int) (sb si : Value) : Prop :=
  ∃ (j : Nat) (A : Option Addr) (c : Nat), j ≤ zs.length ∧ si = .int .i64 (j : Int) ∧ sb = .slice A (body k f n zs j).length c ∧ wr.ownsRow base 5 1 (.slice A (body k f n zs j).length c) (body k f n zs j).length (bytesV (body k f n zs j)) ∧ Below base w wr

set_option maxRecDepth 100000 in
set_option maxHeartbeats 2000000 in
theorem encode_any (k f n : Int) (A : Option Addr) (c : Nat) (zs : List Int) (B : Nat) (w : World) (hB : B ≤ w.heap.size) (hA : A = none → c = 0) (hnc : zs.length ≤ c) (hc : zs.length * 8 ≤ 140737488351232) (hr : Rd w B 1 A zs.length (intsV zs)) :
    Calls Try.prog 37 #[msgV k f n A zs.length c] w fun e w' => EncAt w w' k f n zs e := by
  have hr' := Lib.hid hr
  have b0 : Blk (w.alloc (.cells (msgC k f n A zs.length c) 37)) w.heap.size 37 (msgC k f n A zs.length c) := Blk.new rfl
  have hb0 : Below w.heap.size w (w.alloc (.cells (msgC k f n A zs.length c) 37)) := (Below.refl _ _).alloc (Nat.le_refl _) _
  have HB0 := Lib.hid hb0
  have HK := Lib.hid b0
  clear hr b0 hb0
  have cR := right_any k f n A zs.length c
  unfold msgV at *
  unfold msgC at HK HB0
  cases hw : decide (wrong k f n zs.length = 0)
  · have hw' : wrong k f n zs.length ≠ 0 := by simpa using hw
    have HW := Lib.hid hw'
    obtain ⟨e0, he0⟩ : ∃ e0, wrong k f n zs.length = e0 := ⟨_, rfl⟩
    have HE := Lib.hid he0
    rw [he0] at cR hw'
    have hne : (e0 != 0) = true := by simpa using hw'
    clear hw hw' he0
    go_enter Try.func37, Try.ntmps37
    go_wp2_with (go_at_call 87; refine (cR _ (by omega)).mono ?_; rintro e w1 ⟨rfl, hb1⟩)
    all_goals
      go_ret2
      exact .inl ⟨HW.out, by rw [HE.out]; rfl, onward HB0.out (Nat.le_refl _) hb1⟩
  · have hw' : wrong k f n zs.length = 0 := by simpa using hw
    have hl := wrong_len hw'
    have HW := Lib.hid hw'
    rw [hw'] at cR
    clear hw hw'
    have e4 : IntKind.u8.wrap k = ((hb k 0 : Nat) : Int) := by rw [hb_int]; simp [IntKind.wrap, IntKind.bits, IntKind.signed]
    have e5 : IntKind.u8.wrap f = ((hb f 0 : Nat) : Int) := by rw [hb_int]; simp [IntKind.wrap, IntKind.bits, IntKind.signed]
    have HL2 := Lib.hid (show ([87, hb k 0, hb f 0] ++ hi n 4).length = 7 by simp [hi_length])
    have e6 : IntKind.u8.wrap (zs.length : Int) = ((zs.length % 256 : Nat) : Int) := by simp [IntKind.wrap, IntKind.bits, IntKind.signed]
    go_enter Try.func37, Try.ntmps37
    go_wp2_with (first
      | (go_at_call 87; refine (cR _ (by omega)).mono ?_; rintro e w1 ⟨rfl, hb1⟩; have HB1 := Lib.hid (onward HB0.out (Nat.le_refl _) hb1); have HK1 := Lib.hid (HK.out.below hb1 HK.out.lt); have hs1 := Nat.lt_of_lt_of_le HK.out.lt hb1.size; have x0 := HK1.out.cell 0; have x1 := HK1.out.cell 1; have x2 := (HK1.out.alloc (.cells #[.int .u8 87, .int .u8 ((hb k 0 : Nat) : Int), .int .u8 ((hb f 0 : Nat) : Int)] 5)).cell 2; simp only [List.getElem?_toArray, List.getElem?_cons_zero, List.getElem?_cons_succ] at x0 x1 x2; clear hb1)
      | (go_at_call 88; refine (put_any (some ⟨w1.heap.size, 0, none⟩) 3 [87, hb k 0, hb f 0] n 4 (w.heap.size + 1) _ (by omega) (by simp) (by simp; omega) (World.ownsRow_lit w1 #[.int .u8 87, .int .u8 ((hb k 0 : Nat) : Int), .int .u8 ((hb f 0 : Nat) : Int)] 3 hs1 (by unfold maxLen; omega) rfl)).mono ?_; rintro e w2 ⟨A2, c2, rfl, hown2, hb2⟩; rw [HL2.out] at hown2 ⊢; have HB2 := Lib.hid ((HB1.out.alloc HB1.out.size _).trans (hb2.mono (by omega))); have HK2 := Lib.hid ((HK1.out.alloc _).below hb2 (by omega)); have HO2 := Lib.hid hown2; have y3 := HK2.out.cell 3; simp only [List.getElem?_toArray, List.getElem?_cons_zero, List.getElem?_cons_succ] at y3; have hs2 : w.heap.size + 1 ≤ w2.heap.size := HK2.out.lt; clear hb2 hown2 x2)
      | (refine wpList_append_rd _ rfl (.tmp 23) (.tmp 28) 22 rfl elemBytes rfl (HO2.out.alloc _) rfl (by simp) (rd_one _ _ _) (by simp [Value.oneCell']) (by unfold maxLen; omega) (by omega) (by simp; omega) ?_; intro A3 c3 w3 hA3 hown3 hg3; have HO3 := Lib.hid hown3; have hb3 := ((Below.refl w2.heap.size w2).alloc (Nat.le_refl _) (.cells #[.int .u8 ((zs.length % 256 : Nat) : Int)] 5)); have HB3 := Lib.hid (Below.grown (HB2.out.alloc HB2.out.size (.cells #[.int .u8 ((zs.length % 256 : Nat) : Int)] 5)) hg3 (by simp; omega) (fun g e => by have := (HO2.out.lt g e).1; omega)); have HK3 := Lib.hid ((HK2.out.alloc (.cells #[.int .u8 ((zs.length % 256 : Nat) : Int)] 5)).grown hg3 (fun e => by have := (HO2.out.lt _ e.symm).1; omega)); have z3 := HK3.out.cell 3; simp only [List.getElem?_toArray, List.getElem?_cons_zero, List.getElem?_cons_succ] at z3; clear hown3 hg3 hb3))
    have HF : Hid (w3.ownsRow (w.heap.size + 1) 5 1 (.slice A3 8 c3) 8 (bytesV (body k f n zs 0))) := Lib.hid (by
      rw [body, front, List.take_zero, show vals [] = [] from rfl, List.append_nil, bytesV_append]; exact HO3.out)
    have HL3 := Lib.hid (body_length k f n zs 0 (by omega))
    have HR3 := Lib.hid (hr'.out.below (HB3.out.mono hB))
    clear x0 x1 y3 z3 HO3 HO2 HK2 HK1 HK HL2 HB2 HB1 HB0 cR
    have hs3 : w.heap.size < w3.heap.size := HK3.out.lt
    clear HK3
    go_loopw [5, 33] (fun sb si wr => LoopAt (w.heap.size + 1) w3 wr k f n zs sb si) (fun _ i _ => zs.length - (intOf i).toNat)
    case atStart => exact ⟨0, A3, c3, by omega, rfl, by rw [HL3.out], by rw [HL3.out]; exact HF.out, Below.refl _ _⟩
    case round =>
      clear HF
      obtain ⟨j, A4, c4, hj, rfl, rfl, hown, hbel⟩ := hrel
      have HW4 := Lib.hid hown
      have hsz := Nat.lt_of_lt_of_le hs3 hbel.size
      have HL4 := Lib.hid (body_length k f n zs j hj)
      clear hown
      by_cases hlt : j < zs.length
      · have hx := HR3.out.below (hbel.mono (by omega : B ≤ w.heap.size + 1))
        obtain ⟨b, o, u, rfl, hbB, hu, hcell⟩ := hx.at hlt
        rw [intsV_at zs j hlt] at hu
        obtain rfl := Option.some.inj hu
        have HV := Lib.hid (vals_take zs j hlt)
        generalize zs[j] = z at *
        clear hu hx
        go_wp2_with (go_at_call 88; refine (put_any A4 c4 (body k f n zs j) z 8 (w.heap.size + 1) _ (by omega) (by rw [HL4.out]; omega) hsz HW4.out).mono ?_; rintro e w5 ⟨A5, c5, rfl, hown5, hb5⟩)
        have hbj : body k f n zs j ++ hi z 8 = body k f n zs (j + 1) := by rw [body, body, List.append_assoc, HV.out]
        rw [hbj] at hown5
        refine ⟨⟨j + 1, A5, c5, by omega, by go_num, by rw [← hbj, List.length_append], hown5, hbel.trans hb5⟩, by simp [intOf]; omega⟩
      · obtain rfl : j = zs.length := by omega
        clear hlt
        have HX := Lib.hid (show enc k f n zs = sealed (body k f n zs zs.length) from rfl)
        go_wp2_with (go_at_call 27; refine (seal_any A4 c4 (body k f n zs zs.length) _ _ (Nat.le_refl _) (fun h => (own_nil HW4.out h).2) (own_cap HW4.out) (by rw [HL4.out]; omega) (body_small _ _ _ _ _) (Rd.of_own HW4.out)).mono ?_; rintro e w5 ⟨A5, c5, rfl, hown5, hb5⟩)
        go_ret2
        exact .inr ⟨HW.out, A5, c5, rfl, own_weaken hown5 (by omega), HB3.out.trans ((hbel.mono (by omega)).trans (hb5.mono (by omega)))⟩

set_option maxRecDepth 100000 in
set_option maxHeartbeats 2000000 in
theorem refencode_any (k f n : Int) (A : Option Addr) (c : Nat) (zs : List Int) (B : Nat) (w : World) (hB : B ≤ w.heap.size) (hA : A = none → c = 0) (hnc : zs.length ≤ c) (hc : zs.length * 8 ≤ 140737488351232) (hr : Rd w B 1 A zs.length (intsV zs)) :
    Calls Try.prog 39 #[msgV k f n A zs.length c] w fun e w' => EncAt w w' k f n zs e := by
  have hr' := Lib.hid hr
  have b0 : Blk (w.alloc (.cells (msgC k f n A zs.length c) 37)) w.heap.size 37 (msgC k f n A zs.length c) := Blk.new rfl
  have hb0 : Below w.heap.size w (w.alloc (.cells (msgC k f n A zs.length c) 37)) := (Below.refl _ _).alloc (Nat.le_refl _) _
  have HB0 := Lib.hid hb0
  have HK := Lib.hid b0
  clear hr b0 hb0
  have cR := refwrong_any k f n A zs.length c
  unfold msgV at *
  unfold msgC at HK HB0
  cases hw : decide (wrong k f n zs.length = 0)
  · have hw' : wrong k f n zs.length ≠ 0 := by simpa using hw
    have HW := Lib.hid hw'
    obtain ⟨e0, he0⟩ : ∃ e0, wrong k f n zs.length = e0 := ⟨_, rfl⟩
    have HE := Lib.hid he0
    rw [he0] at cR hw'
    have hne : (e0 != 0) = true := by simpa using hw'
    clear hw hw' he0
    go_enter Try.func39, Try.ntmps39
    go_wp2_with (go_at_call 89; refine (cR _ (by omega)).mono ?_; rintro e w1 ⟨rfl, hb1⟩)
    all_goals
      go_ret2
      exact .inl ⟨HW.out, by rw [HE.out]; rfl, onward HB0.out (Nat.le_refl _) hb1⟩
  · have hw' : wrong k f n zs.length = 0 := by simpa using hw
    have hl := wrong_len hw'
    have HW := Lib.hid hw'
    rw [hw'] at cR
    clear hw hw'
    have e4 : IntKind.u8.wrap k = ((hb k 0 : Nat) : Int) := by rw [hb_int]; simp [IntKind.wrap, IntKind.bits, IntKind.signed]
    have e5 : IntKind.u8.wrap f = ((hb f 0 : Nat) : Int) := by rw [hb_int]; simp [IntKind.wrap, IntKind.bits, IntKind.signed]
    have HL2 := Lib.hid (show ([87, hb k 0, hb f 0] ++ hi n 4).length = 7 by simp [hi_length])
    have e6 : IntKind.u8.wrap (zs.length : Int) = ((zs.length % 256 : Nat) : Int) := by simp [IntKind.wrap, IntKind.bits, IntKind.signed]
    go_enter Try.func39, Try.ntmps39
    go_wp2_with (first
      | (go_at_call 89; refine (cR _ (by omega)).mono ?_; rintro e w1 ⟨rfl, hb1⟩; have HB1 := Lib.hid (onward HB0.out (Nat.le_refl _) hb1); have HK1 := Lib.hid (HK.out.below hb1 HK.out.lt); have hs1 := Nat.lt_of_lt_of_le HK.out.lt hb1.size; have x0 := HK1.out.cell 0; have x1 := HK1.out.cell 1; have x2 := (HK1.out.alloc (.cells #[.int .u8 87, .int .u8 ((hb k 0 : Nat) : Int), .int .u8 ((hb f 0 : Nat) : Int)] 5)).cell 2; simp only [List.getElem?_toArray, List.getElem?_cons_zero, List.getElem?_cons_succ] at x0 x1 x2; clear hb1)
      | (go_at_call 90; refine (bytesOf_any n 4 _ (by omega)).mono ?_; rintro e w2 ⟨A2, c2, rfl, hown2, hb2⟩; have HOL := Lib.hid (ownsRow_below (World.ownsRow_lit (e := 5) (size := 1) (base := w.heap.size + 1) w1 #[.int .u8 87, .int .u8 ((hb k 0 : Nat) : Int), .int .u8 ((hb f 0 : Nat) : Int)] 3 hs1 (by unfold maxLen; omega) rfl) hb2); have HB2 := Lib.hid (onward (HB1.out.alloc HB1.out.size _) (Nat.le_refl _) hb2); have HK2 := Lib.hid ((HK1.out.alloc _).below hb2 (by simp; omega)); have HO2 := Lib.hid hown2; have hs2 : w.heap.size + 1 ≤ w2.heap.size := HK2.out.lt; have HS2 := Lib.hid hb2.size; rw [hi_length] at HO2 ⊢; clear hb2 hown2 x2)
      | (refine wpList_append_rd _ rfl (.tmp 20) (.tmp 23) 22 rfl elemBytes rfl HOL.out rfl (by intro h; have := own_nil HO2.out h; omega) (Rd.of_own HO2.out) (bytesV_one _) (by unfold maxLen; omega) (by omega) hs2 ?_; intro A6 c6 w6 hA6 hown6 hg6; have HO6 := Lib.hid hown6; have HB6 := Lib.hid (Below.grown HB2.out hg6 (by omega) (fun g e => by have := (HOL.out.lt g e).1; omega)); have HK6 := Lib.hid (HK2.out.grown hg6 (fun e => by have := (HOL.out.lt _ e.symm).1; omega)); have y3 := HK6.out.cell 3; simp only [List.getElem?_toArray, List.getElem?_cons_zero, List.getElem?_cons_succ] at y3; have hs6 : w.heap.size + 1 ≤ w6.heap.size := HK6.out.lt; clear hown6 hg6 hA6)
      | (refine wpList_append_rd _ rfl (.tmp 25) (.tmp 30) 22 rfl elemBytes rfl (HO6.out.alloc _) rfl (by simp) (rd_one _ _ _) (by simp [Value.oneCell']) (by unfold maxLen; omega) (by omega) (by simp; omega) ?_; intro A3 c3 w3 hA3 hown3 hg3; have HO3 := Lib.hid hown3; have HB3 := Lib.hid (Below.grown (HB6.out.alloc HB6.out.size (.cells #[.int .u8 ((zs.length % 256 : Nat) : Int)] 5)) hg3 (by simp; omega) (fun g e => by have := (HO6.out.lt g e).1; omega)); have HK3 := Lib.hid ((HK6.out.alloc (.cells #[.int .u8 ((zs.length % 256 : Nat) : Int)] 5)).grown hg3 (fun e => by have := (HO6.out.lt _ e.symm).1; omega)); have z3 := HK3.out.cell 3; simp only [List.getElem?_toArray, List.getElem?_cons_zero, List.getElem?_cons_succ] at z3; clear hown3 hg3))
    have HF : Hid (w3.ownsRow (w.heap.size + 1) 5 1 (.slice A3 8 c3) 8 (bytesV (body k f n zs 0))) := Lib.hid (by
      rw [body, front, List.take_zero, show vals [] = [] from rfl, List.append_nil, bytesV_append]; exact HO3.out)
    have HL3 := Lib.hid (body_length k f n zs 0 (by omega))
    have HR3 := Lib.hid (hr'.out.below (HB3.out.mono hB))
    clear x0 x1 y3 z3 HO3 HO2 HO6 HOL HK2 HK1 HK6 HK HL2 HB2 HB6 HB1 HB0 cR
    have hs3 : w.heap.size < w3.heap.size := HK3.out.lt
    clear HK3
    go_loopw [5, 35] (fun sb si wr => LoopAt (w.heap.size + 1) w3 wr k f n zs sb si) (fun _ i _ => zs.length - (intOf i).toNat)
    case atStart => exact ⟨0, A3, c3, by omega, rfl, by rw [HL3.out], by rw [HL3.out]; exact HF.out, Below.refl _ _⟩
    case round =>
      clear HF
      obtain ⟨j, A4, c4, hj, rfl, rfl, hown, hbel⟩ := hrel
      have HW4 := Lib.hid hown
      have hsz := Nat.lt_of_lt_of_le hs3 hbel.size
      have HL4 := Lib.hid (body_length k f n zs j hj)
      clear hown
      by_cases hlt : j < zs.length
      · have hx := HR3.out.below (hbel.mono (by omega : B ≤ w.heap.size + 1))
        obtain ⟨b, o, u, rfl, hbB, hu, hcell⟩ := hx.at hlt
        rw [intsV_at zs j hlt] at hu
        obtain rfl := Option.some.inj hu
        have HV := Lib.hid (vals_take zs j hlt)
        generalize zs[j] = z at *
        clear hu hx
        go_wp2_with (first
          | (go_at_call 90; refine (bytesOf_any z 8 _ (by omega)).mono ?_; rintro e w5 ⟨A5, c5, rfl, hown5, hb5⟩; rw [hi_length] at hown5 ⊢; have HO5 := Lib.hid hown5; have HW5 := Lib.hid (ownsRow_below HW4.out hb5); have HB5 := Lib.hid hb5; have hs5 := hb5.size; clear hown5 hb5)
          | (refine wpList_append_rd _ rfl (.tmp 39) (.tmp 41) 22 rfl elemBytes rfl HW5.out rfl (by intro h; have := own_nil HO5.out h; omega) (Rd.of_own HO5.out) (bytesV_one _) (by unfold maxLen; rw [HL4.out]; omega) (by rw [HL4.out]; omega) (by omega) ?_; intro A7 c7 w7 hA7 hown7 hg7))
        have hb7 := Below.grown (HB5.out.mono (show w.heap.size + 1 ≤ wr.heap.size from hsz)) hg7 (by omega) (fun g e => (HW5.out.lt g e).1)
        have hbj : body k f n zs j ++ hi z 8 = body k f n zs (j + 1) := by rw [body, body, List.append_assoc, HV.out]
        have hlj : (body k f n zs j).length + 8 = (body k f n zs (j + 1)).length := by rw [← hbj, List.length_append, hi_length]
        rw [← bytesV_append, hbj, hlj] at hown7
        refine ⟨⟨j + 1, A7, c7, by omega, by go_num, by rw [hlj], hown7, hbel.trans hb7⟩, by simp [intOf]; omega⟩
      · obtain rfl : j = zs.length := by omega
        clear hlt
        have HX := Lib.hid (show enc k f n zs = sealed (body k f n zs zs.length) from rfl)
        go_wp2_with (go_at_call 28; refine (refseal_any A4 c4 (body k f n zs zs.length) _ _ (Nat.le_refl _) (fun h => (own_nil HW4.out h).2) (own_cap HW4.out) (by rw [HL4.out]; omega) (body_small _ _ _ _ _) (Rd.of_own HW4.out)).mono ?_; rintro e w5 ⟨A5, c5, rfl, hown5, hb5⟩)
        go_ret2
        exact .inr ⟨HW.out, A5, c5, rfl, own_weaken hown5 (by omega), HB3.out.trans ((hbel.mono (by omega)).trans (hb5.mono (by omega)))⟩
end Go.Proofs.Ytfaielkkecphbaa.Wr
