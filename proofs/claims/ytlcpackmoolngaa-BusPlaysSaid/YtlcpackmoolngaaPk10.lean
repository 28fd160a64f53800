import Derived.Test.YtlcpackmoolngaaPk8
import Derived.Test.YtlcpackmoolngaaPk9
import Derived.Test.YtlcpackmoolngaaPk1
import Derived.Test.YtlcpackmoolngaaPk2
namespace Go.Proofs.Ytlcpackmoolngaa.Stb
open Go.Sort
set_option linter.unusedVariables false
set_option linter.unusedSimpArgs false
section
variable {α : Type} [Inhabited α] {lt : α → α → Bool} {τ : α → Nat}
def Bk (lt : α → α → Bool) (τ : α → Nat) (a b : Nat) (d : Array α) : Prop := SortedIn lt a b d ∧ ∀ i, a ≤ i → i < b → a ≤ τ d[i]! ∧ τ d[i]! < b
theorem Bk.keep {a b : Nat} {d d' : Array α} (h : Bk lt τ a b d) (he : ∀ i, a ≤ i → i < b → d'[i]! = d[i]!) : Bk lt τ a b d' := by
  refine ⟨fun i j h1 h2 h3 => ?_, fun i h1 h2 => ?_⟩
  · rw [he i h1 (by omega), he j (by omega) h3]
    exact h.1 i j h1 h2 h3
  · rw [he i h1 h2]
    exact h.2 i h1 h2
theorem Bk.first {a b : Nat} {d d' : Array α} (hb : b ≤ d.size) (ht : ∀ i, a ≤ i → i < b → τ d[i]! = i) (hp : PermIn a b d d') (hs : SortedIn lt a b d') : Bk lt τ a b d' :=
  ⟨hs, fun i h1 h2 => permIn_all d d' a b (fun x => a ≤ τ x ∧ τ x < b) hb hp (fun q h3 h4 => by rw [ht q h3 h4]; exact ⟨h3, h4⟩) i h1 h2⟩
theorem Bk.merge {a m b : Nat} {d d' : Array α} (ham : a ≤ m) (hmb : m ≤ b) (hb : b ≤ d.size) (h1 : Bk lt τ a m d) (h2 : Bk lt τ m b d) (hp : PermIn a b d d') (hs : SortedIn lt a b d') : Bk lt τ a b d' :=
  ⟨hs, fun i h3 h4 => permIn_all d d' a b (fun x => a ≤ τ x ∧ τ x < b) hb hp (fun q h5 h6 => by
    by_cases c : q < m
    · have := h1.2 q h5 c
      exact ⟨this.1, by omega⟩
    · have := h2.2 q (by omega) h6
      exact ⟨by omega, this.2⟩) i h3 h4⟩
theorem Bk.cross {a m b : Nat} {d : Array α} (h1 : Bk lt τ a m d) (h2 : Bk lt τ m b d) {x y : Nat} (hx : a ≤ x) (hx2 : x < m) (hy : m ≤ y) (hy2 : y < b) : τ d[x]! < τ d[y]! := by
  have := h1.2 x hx hx2
  have := h2.2 y hy hy2
  omega
def Ins (lt : α → α → Bool) (τ : α → Nat) (B k n : Nat) (d0 d : Array α) : Prop := PermIn 0 (k * B) d0 d ∧ ∀ q, q < k → Bk lt τ (q * B) ((q + 1) * B) d
theorem Ins.zero (B n : Nat) (d : Array α) : Ins lt τ B 0 n d d := ⟨permIn_refl _ _ _, fun q h => absurd h (Nat.not_lt_zero _)⟩
theorem Ins.step {B k n : Nat} {d0 d d' : Array α} (h : Ins lt τ B k n d0 d) (hn : n = d0.size) (hk : (k + 1) * B ≤ n) (ht : ∀ i, i < n → τ d0[i]! = i) (hp : PermIn (k * B) ((k + 1) * B) d d') (hs : SortedIn lt (k * B) ((k + 1) * B) d') : Ins lt τ B (k + 1) n d0 d' := by
  have e : (k + 1) * B = k * B + B := Nat.succ_mul k B
  have hz := h.1.1
  refine ⟨permIn_trans _ _ _ _ _ (permIn_mono _ _ _ _ _ _ (Nat.le_refl _) (by omega) (by omega) h.1) (permIn_mono _ _ _ _ _ _ (Nat.zero_le _) (Nat.le_refl _) (by omega) hp), fun q hq => ?_⟩
  by_cases c : q = k
  · subst c
    exact Bk.first (by omega) (fun i h1 h2 => by rw [h.1.2.1 i (.inr h1)]; exact ht i (by omega)) hp hs
  · have hq2 : (q + 1) * B ≤ k * B := Nat.mul_le_mul_right B (by omega)
    exact (h.2 q (by omega)).keep fun i h1 h2 => hp.2.1 i (.inl (by omega))
end
end Go.Proofs.Ytlcpackmoolngaa.Stb
namespace Go.Proofs.Ytlcpackmoolngaa.Stb
open Go.Sort
set_option linter.unusedVariables false
set_option linter.unusedSimpArgs false
section
variable {α : Type} [Inhabited α] {lt : α → α → Bool} {τ : α → Nat}
def Done (lt : α → α → Bool) (τ : α → Nat) (B n : Nat) (d : Array α) : Prop := ∀ q, q * B < n → Bk lt τ (q * B) (min ((q + 1) * B) n) d
theorem Ins.done {B k n : Nat} {d0 d d' : Array α} (h : Ins lt τ B k n d0 d) (hn : n = d0.size) (hk : k * B ≤ n) (hk2 : n < (k + 1) * B) (ht : ∀ i, i < n → τ d0[i]! = i) (hp : PermIn (k * B) n d d') (hs : SortedIn lt (k * B) n d') : PermIn 0 n d0 d' ∧ Done lt τ B n d' := by
  have hz := h.1.1
  refine ⟨permIn_trans _ _ _ _ _ (permIn_mono _ _ _ _ _ _ (Nat.le_refl _) hk (by omega) h.1) (permIn_mono _ _ _ _ _ _ (Nat.zero_le _) (Nat.le_refl _) (by omega) hp), fun q hq => ?_⟩
  by_cases c : q < k
  · have hq2 : (q + 1) * B ≤ k * B := Nat.mul_le_mul_right _ (by omega)
    rw [Nat.min_eq_left (by omega)]
    exact (h.2 q c).keep fun i h1 h2 => hp.2.1 i (.inl (by omega))
  · have hqk : q = k := by
      by_cases c3 : q = k
      · exact c3
      · have : (k + 1) * B ≤ q * B := Nat.mul_le_mul_right _ (by omega)
        omega
    subst hqk
    rw [Nat.min_eq_right (by omega)]
    exact Bk.first (by omega) (fun i h1 h2 => by rw [h.1.2.1 i (.inr h1)]; exact ht i h2) hp hs
def Mrg (lt : α → α → Bool) (τ : α → Nat) (B k n : Nat) (d : Array α) : Prop := (∀ q, q < k → Bk lt τ (q * (2 * B)) ((q + 1) * (2 * B)) d) ∧ ∀ q, 2 * k ≤ q → q * B < n → Bk lt τ (q * B) (min ((q + 1) * B) n) d
theorem Mrg.zero {B n : Nat} {d : Array α} (h : Done lt τ B n d) : Mrg lt τ B 0 n d := ⟨fun q hq => absurd hq (Nat.not_lt_zero _), fun q _ hq => h q hq⟩
theorem Mrg.pair {B k n : Nat} {d : Array α} (hB : 0 < B) (h : Mrg lt τ B k n d) (hm : k * (2 * B) + B < n) : Bk lt τ (k * (2 * B)) (k * (2 * B) + B) d ∧ Bk lt τ (k * (2 * B) + B) (min ((k + 1) * (2 * B)) n) d := by
  have e1 : (2 * k + 1) * B = 2 * k * B + B := Nat.succ_mul _ _
  have e2 : (2 * k + 1 + 1) * B = (2 * k + 1) * B + B := Nat.succ_mul _ _
  have e3 : k * (2 * B) = 2 * k * B := by rw [← Nat.mul_assoc, Nat.mul_comm k 2]
  have e4 : (k + 1) * (2 * B) = k * (2 * B) + 2 * B := Nat.succ_mul _ _
  have b1 := h.2 (2 * k) (Nat.le_refl _) (by omega)
  have b2 := h.2 (2 * k + 1) (by omega) (by omega)
  rw [e1, Nat.min_eq_left (by omega)] at b1
  rw [e2, e1] at b2
  rw [e4, e3, show 2 * k * B + 2 * B = 2 * k * B + B + B by omega]
  exact ⟨b1, b2⟩
theorem Mrg.step {B k n : Nat} {d d' : Array α} (hB : 0 < B) (h : Mrg lt τ B k n d) (hk : (k + 1) * (2 * B) ≤ n) (hn : n ≤ d.size) (hp : PermIn (k * (2 * B)) ((k + 1) * (2 * B)) d d') (hs : SortedIn lt (k * (2 * B)) ((k + 1) * (2 * B)) d') : Mrg lt τ B (k + 1) n d' := by
  have e4 : (k + 1) * (2 * B) = k * (2 * B) + 2 * B := Nat.succ_mul _ _
  obtain ⟨b1, b2⟩ := h.pair hB (by omega)
  rw [Nat.min_eq_left hk] at b2
  refine ⟨fun q hq => ?_, fun q h1 h2 => ?_⟩
  · by_cases c : q = k
    · subst c
      exact Bk.merge (by omega) (by omega) (by omega) b1 b2 hp hs
    · have hq2 : (q + 1) * (2 * B) ≤ k * (2 * B) := Nat.mul_le_mul_right _ (by omega)
      exact (h.1 q (by omega)).keep fun i h1 h2 => hp.2.1 i (.inl (by omega))
  · have hq2 : (2 * (k + 1)) * B ≤ q * B := Nat.mul_le_mul_right _ h1
    have e3 : (k + 1) * (2 * B) = 2 * (k + 1) * B := by rw [← Nat.mul_assoc, Nat.mul_comm (k + 1) 2]
    exact (h.2 q (by omega) h2).keep fun i h3 h4 => hp.2.1 i (.inr (by omega))
theorem Mrg.done {B k n : Nat} {d : Array α} (hB : 0 < B) (h : Mrg lt τ B k n d) (h0 : k * (2 * B) ≤ n) (h1 : n < (k + 1) * (2 * B)) (h2 : n ≤ k * (2 * B) + B) : Done lt τ (2 * B) n d := by
  intro q hq
  by_cases c : q < k
  · have hq2 : (q + 1) * (2 * B) ≤ k * (2 * B) := Nat.mul_le_mul_right _ (by omega)
    rw [Nat.min_eq_left (by omega)]
    exact h.1 q c
  · have hq3 : k * (2 * B) ≤ q * (2 * B) := Nat.mul_le_mul_right _ (by omega)
    have e4 : (k + 1) * (2 * B) = k * (2 * B) + 2 * B := Nat.succ_mul _ _
    have hqk : q = k := by
      by_cases c3 : q = k
      · exact c3
      · have : (k + 1) * (2 * B) ≤ q * (2 * B) := Nat.mul_le_mul_right _ (by omega)
        omega
    subst hqk
    have e3 : q * (2 * B) = 2 * q * B := by rw [← Nat.mul_assoc, Nat.mul_comm q 2]
    have e1 : (2 * q + 1) * B = 2 * q * B + B := Nat.succ_mul _ _
    have b := h.2 (2 * q) (Nat.le_refl _) (by omega)
    rw [Nat.min_eq_right (by omega)] at b
    rw [Nat.min_eq_right (by omega), e3]
    exact b
theorem Mrg.last {B k n : Nat} {d d' : Array α} (hB : 0 < B) (h : Mrg lt τ B k n d) (h1 : n < (k + 1) * (2 * B)) (h2 : k * (2 * B) + B < n) (hn : n ≤ d.size) (hp : PermIn (k * (2 * B)) n d d') (hs : SortedIn lt (k * (2 * B)) n d') : Done lt τ (2 * B) n d' := by
  obtain ⟨b1, b2⟩ := h.pair hB h2
  rw [Nat.min_eq_right (by omega)] at b2
  have hm := Bk.merge (by omega) (by omega) hn b1 b2 hp hs
  intro q hq
  by_cases c : q < k
  · have hq2 : (q + 1) * (2 * B) ≤ k * (2 * B) := Nat.mul_le_mul_right _ (by omega)
    rw [Nat.min_eq_left (by omega)]
    exact (h.1 q c).keep fun i h1 h2 => hp.2.1 i (.inl (by omega))
  · have e4 : (k + 1) * (2 * B) = k * (2 * B) + 2 * B := Nat.succ_mul _ _
    have hqk : q = k := by
      by_cases c3 : q = k
      · exact c3
      · have : (k + 1) * (2 * B) ≤ q * (2 * B) := Nat.mul_le_mul_right _ (by omega)
        omega
    subst hqk
    rw [Nat.min_eq_right (by omega)]
    exact hm
theorem Done.sorted {B n : Nat} {d : Array α} (h : Done lt τ B n d) (hB : n ≤ B) : SortedIn lt 0 n d := by
  intro i j h1 h2 h3
  have := h 0 (by rw [Nat.zero_mul]; omega)
  rw [Nat.zero_mul, Nat.zero_add, Nat.one_mul, Nat.min_eq_right hB] at this
  exact this.1 i j h1 h2 h3
end
end Go.Proofs.Ytlcpackmoolngaa.Stb
namespace Go.Proofs.Ytlcpackmoolngaa.Ss
open Go.Shelf Go.RowKit Go.Lib Go.Sort Go.Proofs.Ytlcpackmoolngaa.Stb
set_option linter.unusedVariables false
variable {α : Type} [Inhabited α] {enc : α → List Value} {w0 : World} {blk off cap : Nat} {d0 : Array α}
variable {P : Program} {k gf : Nat} {cf : α → α → Int} {lt : α → α → Bool} {τ : α → Nat}
theorem ins_blk (L : LaysP P k) (R : RowK enc k w0 blk off d0) (eg : ∀ args w, (callFunc gf args).run P w = .ok (.enter gf args) w) (hC : CmpLays P gf #[] enc k cf blk off d0.size w0) (hS : SWO lt) (hlt : ∀ x y, τ x < τ y → decide (cf y x < 0) = lt y x) (hsz : d0.size < 1152921504606846976) (ht : ∀ i, i < d0.size → τ d0[i]! = i) {q A : Nat} {W : World} {g : Array α} (hA : A = q * 20) (b : Nat) (hs : g.size = d0.size) (h : SWK enc k w0 blk off g W) (hI : Ins lt τ 20 q d0.size d0 g) (hab : A ≤ b) (hb : b ≤ d0.size) :
    Calls P 77 #[.slice (some ⟨blk, off, none⟩) d0.size cap, .int .i64 A, .int .i64 b, .func (.func gf) #[] #[]] W fun e w' => e = .returned (.tuple #[]) ∧ ∃ g', SWK enc k w0 blk off g' w' ∧ g'.size = d0.size ∧ PermIn A b g g' ∧ SortedIn lt A b g' := by
  have he : insertionSort (ltOf cf) g A b = insertionSort lt g A b := by
    refine insertion_eq (ltOf cf) lt τ (fun x y hxy => hlt x y hxy) g A b (by omega) (fun i j h1 h2 h3 => ?_)
    rw [hI.1.2.1 i (.inr (by omega)), hI.1.2.1 j (.inr (by omega)), ht i (by omega), ht j (by omega)]
    exact h2
  obtain ⟨hp, hso⟩ := insertionSort_holds hS g A b hab (by omega)
  have hsi : (insertionSort lt g A b).size = g.size := hp.1
  have hH := h.holds R.hblk R.hH hs
  have hcmp : CmpLays P gf #[] enc k cf blk off g.size W := by
    intro m os d2 h2 x y
    obtain ⟨n, os1, rfl⟩ := h
    have := SWK.on (w0 := w0) (W := sortWorldK enc k w0 blk off n g os1) ⟨n, os1, rfl⟩ R.hblk m d2 os h2
    obtain ⟨n3, os3, e3⟩ := this
    rw [e3]
    exact hC n3 os3 d2 (h2.trans hs) x y
  rw [← hs]
  refine (AnyQ.insertionSortCmpFunc L.lay k L.aE L.zE enc R.hk R.h1 cf gf #[] blk off cap A b g W eg hcmp hH (h.lt R.hblk) hab (by omega) (by omega)).mono ?_
  rintro e w' ⟨rfl, n, os, rfl⟩
  rw [he]
  exact ⟨rfl, _, h.on R.hblk n _ os hsi, hsi, hp, hso⟩
set_option maxRecDepth 100000 in
set_option maxHeartbeats 4000000 in
theorem stab_any (L : LaysP P k) (R : RowK enc k w0 blk off d0) (eg : ∀ args w, (callFunc gf args).run P w = .ok (.enter gf args) w) (hC : CmpLays P gf #[] enc k cf blk off d0.size w0) (hS : SWO lt) (hlt : ∀ x y, τ x < τ y → decide (cf y x < 0) = lt y x) (hsz : d0.size < 1152921504606846976) (ht : ∀ i, i < d0.size → τ d0[i]! = i) (W : World) (h : SWK enc k w0 blk off d0 W) :
    Calls P 54 #[.slice (some ⟨blk, off, none⟩) d0.size cap, .int .i64 d0.size, .func (.func gf) #[] #[]] W fun e w' => e = .returned (.tuple #[]) ∧ ∃ f', SWK enc k w0 blk off f' w' ∧ f'.size = d0.size ∧ PermIn 0 d0.size d0 f' ∧ SortedIn lt 0 d0.size f' := by
  have mixed : P.follows .mixedOrders = true := L.lay.mixed
  have aE := L.aE; have zE := L.zE
  have t0 : P.underlying 0 = _ := L.lay.t0; have a0 : ∀ w, (isAgg 0).run P w = _ := L.lay.a0; have z0 : ∀ w, (Go.sizeOf 0).run P w = _ := L.lay.z0; have v0 : ∀ w, (zeroValue 0).run P w = _ := L.lay.v0
  have t3 : P.underlying 3 = _ := L.lay.t3; have a3 : ∀ w, (isAgg 3).run P w = _ := L.lay.a3; have z3 : ∀ w, (Go.sizeOf 3).run P w = _ := L.lay.z3; have v3 : ∀ w, (zeroValue 3).run P w = _ := L.lay.v3
  have t4 : P.underlying 4 = _ := L.lay.t4; have a4 : ∀ w, (isAgg 4).run P w = _ := L.lay.a4; have z4 : ∀ w, (Go.sizeOf 4).run P w = _ := L.lay.z4; have v4 : ∀ w, (zeroValue 4).run P w = _ := L.lay.v4
  have t22 : P.underlying 22 = some (.slice 52) := L.lay.t22; have a22 : ∀ w, (isAgg 22).run P w = _ := L.lay.a22; have z22 : ∀ w, (Go.sizeOf 22).run P w = _ := L.lay.z22; have v22 : ∀ w, (zeroValue 22).run P w = _ := L.lay.v22
  have t25 : P.underlying 56 = some (.func #[52, 52] #[3] false) := L.lay.t25; have a25 : ∀ w, (isAgg 56).run P w = _ := L.lay.a25; have z25 : ∀ w, (Go.sizeOf 56).run P w = _ := L.lay.z25; have v25 : ∀ w, (zeroValue 56).run P w = _ := L.lay.v25
  have u22 := run_underlying t22
  have t59 := L.t59
  have gsw : ∀ (args : Array Value) (w : World), (callFunc 89 args).run P w = .ok (.enter 89 args) w := L.gsw
  have grot : ∀ (args : Array Value) (w : World), (callFunc 85 args).run P w = .ok (.enter 85 args) w := L.grot
  have gsym : ∀ (args : Array Value) (w : World), (callFunc 78 args).run P w = .ok (.enter 78 args) w := L.gsym
  have gins : ∀ (args : Array Value) (w : World), (callFunc 77 args).run P w = .ok (.enter 77 args) w := L.gins
  have gsym : ∀ (args : Array Value) (w : World), (callFunc 78 args).run P w = .ok (.enter 78 args) w := L.gsym
  obtain ⟨n, hn⟩ : ∃ n, n = d0.size := ⟨_, rfl⟩
  have HN := Lib.hid hn
  have HI := Lib.hid (fun (q A : Nat) (W : World) (g : Array α) (hA : A = q * 20) (b : Nat) hs h hI hab hb => ins_blk (cap := cap) L R eg hC hS hlt hsz ht (q := q) (A := A) (W := W) (g := g) hA b hs h hI hab hb)
  have HM := Lib.hid (fun (a m b : Nat) (f : Array α) (W : World) hs h ham hmb hb hL hR hx => sym_any (cap := cap) L R eg hC hS hlt (by omega) a m b f W hs h ham hmb hb hL hR hx)
  have HT := Lib.hid ht
  have HH := Lib.hid h
  have hsz2 : n < 1152921504606846976 := by omega
  rw [← hn]
  rw [← hn] at HI HM HT
  clear hn hsz R eg hC hS hlt ht h
  go_enter L.stab, Try.ntmps54
  go_wp2_with fail
  go_loopw [7, 8] (fun av bv wr => ∃ (q A B : Nat) (g : Array α), av = .int .i64 (A : Int) ∧ bv = .int .i64 (B : Int) ∧ A = q * 20 ∧ B = A + 20 ∧ A ≤ n ∧ SWK enc k w0 blk off g wr ∧ g.size = n ∧ Ins lt τ 20 q n d0 g) (fun _ bv _ => n + 20 - (intOf bv).toNat)
  case atStart => exact ⟨0, 0, 20, d0, rfl, rfl, rfl, rfl, Nat.zero_le _, HH.out, HN.out.symm, Ins.zero 20 n d0⟩
  case round =>
    obtain ⟨q, A, B, g, rfl, rfl, hA, hB, hAn, hw, hg, hins⟩ := hrel
    have HW := Lib.hid hw
    have HG := Lib.hid hg
    have HA := Lib.hid hA
    have HIN := Lib.hid hins
    have HBE := Lib.hid hB
    have hBl : B ≤ A + 20 := by omega
    have hBg : A + 20 ≤ B := by omega
    clear hw hg hA hins hB
    by_cases hle : B ≤ n
    · have hlez : (B : Int) ≤ (n : Int) := by omega
      have HQ := Lib.hid (HI.out q A _ g HA.out B HG.out HW.out HIN.out (by omega) hle)
      go_wp2_with fail
      refine HQ.out.mono ?_
      rintro e w2 ⟨rfl, f2, h2, hf2, hp2, hs2⟩
      have HW2 := Lib.hid h2
      have HF2 := Lib.hid hf2
      have HP2 := Lib.hid hp2
      have HS2 := Lib.hid hs2
      clear h2 hf2 hp2 hs2
      go_wp2_with fail
      refine ⟨⟨q + 1, B, B + 20, f2, rfl, by go_num, by have := HA.out; omega, rfl, hle, HW2.out, HF2.out, ?_⟩, by simp [intOf]; omega⟩
      have e1 : q * 20 = A := HA.out.symm
      have e2 : (q + 1) * 20 = B := by omega
      exact HIN.out.step HN.out (by omega) HT.out (by rw [e1, e2]; exact HP2.out) (by rw [e1, e2]; exact HS2.out)
    · have hlez : ¬ (B : Int) ≤ (n : Int) := by omega
      have HQ := Lib.hid (HI.out q A _ g HA.out n HG.out HW.out HIN.out hAn (Nat.le_refl _))
      have HAB := Lib.hid (And.intro HBE.out (And.intro hAn hle))
      clear hBl hBg hAn hle
      go_wp2_with fail
      refine HQ.out.mono ?_
      rintro e w2 ⟨rfl, f2, h2, hf2, hp2, hs2⟩
      have HW2 := Lib.hid h2
      have HF2 := Lib.hid hf2
      have HD := Lib.hid (HIN.out.done HN.out (by have := HA.out; have := HAB.out; omega) (by have := HA.out; have := HAB.out; omega) HT.out (by rw [← HA.out]; exact hp2) (by rw [← HA.out]; exact hs2))
      clear h2 hf2 hp2 hs2 hlez
      clear HQ HW HG HIN HI
      go_wp2_with fail
      go_loopw [6, 7, 8, 9] (fun sv _ _ _ wr => ∃ (S : Nat) (g : Array α), sv = .int .i64 (S : Int) ∧ 20 ≤ S ∧ S ≤ 2 * n + 20 ∧ SWK enc k w0 blk off g wr ∧ g.size = n ∧ PermIn 0 n d0 g ∧ Done lt τ S n g) (fun sv _ _ _ _ => n - (intOf sv).toNat)
      case atStart => exact ⟨20, f2, rfl, Nat.le_refl _, by omega, HW2.out, HF2.out, HD.out.1, HD.out.2⟩
      case round =>
        obtain ⟨S, g1, rfl, hS20, hSn, hw1, hg1, hp1, hd1⟩ := hrel
        have HW1 := Lib.hid hw1
        have HG1 := Lib.hid hg1
        have HP1 := Lib.hid hp1
        have HD1 := Lib.hid hd1
        clear hw1 hg1 hp1 hd1
        by_cases hlt : S < n
        · have hltz : (S : Int) < (n : Int) := by omega
          obtain ⟨T, hT⟩ : ∃ T, T = 2 * S := ⟨_, rfl⟩
          have eT : 2 * (S : Int) = (T : Int) := by omega
          have hTn : T ≤ 2 * n := by omega
          have HTS := Lib.hid hT
          clear hT
          go_upto_region 6 with fail
          go_loopw [7, 8] (fun av bv wr => ∃ (q A B : Nat) (g : Array α), av = .int .i64 (A : Int) ∧ bv = .int .i64 (B : Int) ∧ A = q * T ∧ B = A + T ∧ A ≤ n ∧ SWK enc k w0 blk off g wr ∧ g.size = n ∧ PermIn 0 n d0 g ∧ Mrg lt τ S q n g) (fun _ bv _ => n + T - (intOf bv).toNat)
          case atStart => exact ⟨0, 0, T, g1, rfl, rfl, (Nat.zero_mul _).symm, (Nat.zero_add _).symm, Nat.zero_le _, HW1.out, HG1.out, HP1.out, Mrg.zero HD1.out⟩
          case round =>
            obtain ⟨q1, A1, B1, g2, rfl, rfl, hA1, hB1, hAn1, hw3, hg3, hp3, hm3⟩ := hrel
            have HA1 := Lib.hid (show A1 = q1 * (2 * S) by rw [← HTS.out]; exact hA1)
            have HW3 := Lib.hid hw3
            have HG3 := Lib.hid hg3
            have HP3 := Lib.hid hp3
            have HM3 := Lib.hid hm3
            clear hw3 hg3 hp3 hm3 hA1
            obtain ⟨M, hM⟩ : ∃ M, M = A1 + S := ⟨_, rfl⟩
            have eM : (A1 : Int) + (S : Int) = (M : Int) := by omega
            have eB1 : (q1 + 1) * (2 * S) = B1 := by rw [Nat.succ_mul, ← HA1.out, ← HTS.out]; exact hB1.symm
            have HB1 := Lib.hid eB1
            have hBl : B1 ≤ A1 + T := by omega
            have hBg : A1 + T ≤ B1 := by omega
            have hMl : M ≤ A1 + S := by omega
            have hMg : A1 + S ≤ M := by omega
            have HME := Lib.hid hM
            clear eB1 hB1 hM
            by_cases hle1 : B1 ≤ n
            · have hlez1 : (B1 : Int) ≤ (n : Int) := by omega
              have hMn : M < n := by have := HTS.out; omega
              obtain ⟨b1, b2⟩ := HM3.out.pair (by omega) (by rw [← HA1.out, ← HME.out]; exact hMn)
              rw [← HA1.out, ← HME.out] at b1
              rw [← HA1.out, ← HME.out, HB1.out, Nat.min_eq_left hle1] at b2
              have HQ1 := Lib.hid (HM.out A1 M B1 g2 _ HG3.out HW3.out (by omega) (by have := HTS.out; omega) hle1 b1.1 b2.1 (fun x y h1 h2 h3 h4 => Bk.cross b1 b2 h1 h2 h3 h4))
              clear b1 b2
              go_wp2_with fail
              refine HQ1.out.mono ?_
              rintro e w4 ⟨rfl, f4, h4, hf4, hp4, hs4⟩
              have HW4 := Lib.hid h4
              have HF4 := Lib.hid hf4
              have HP4 := Lib.hid hp4
              have HS4 := Lib.hid hs4
              clear h4 hf4 hp4 hs4
              go_wp2_with fail
              refine ⟨⟨q1 + 1, B1, B1 + T, f4, rfl, by go_num, by rw [HTS.out]; exact HB1.out.symm, rfl, hle1, HW4.out, HF4.out, ?_, ?_⟩, by simp [intOf]; omega⟩
              · exact permIn_trans _ _ _ _ _ HP3.out (permIn_mono _ _ _ _ _ _ (Nat.zero_le _) hle1 (by have := HG3.out; omega) HP4.out)
              · exact HM3.out.step (by omega) (by rw [HB1.out]; exact hle1) (by have := HG3.out; omega) (by rw [← HA1.out, HB1.out]; exact HP4.out) (by rw [← HA1.out, HB1.out]; exact HS4.out)
            · have hlez1 : ¬ (B1 : Int) ≤ (n : Int) := by omega
              by_cases hMn : M < n
              · have hMz : (M : Int) < (n : Int) := by omega
                obtain ⟨b1, b2⟩ := HM3.out.pair (by omega) (by rw [← HA1.out, ← HME.out]; exact hMn)
                rw [← HA1.out, ← HME.out] at b1
                rw [← HA1.out, ← HME.out, HB1.out, Nat.min_eq_right (by omega)] at b2
                have HQ1 := Lib.hid (HM.out A1 M n g2 _ HG3.out HW3.out (by omega) hMn (Nat.le_refl _) b1.1 b2.1 (fun x y h1 h2 h3 h4 => Bk.cross b1 b2 h1 h2 h3 h4))
                clear b1 b2
                go_wp2_with fail
                refine HQ1.out.mono ?_
                rintro e w4 ⟨rfl, f4, h4, hf4, hp4, hs4⟩
                have HW4 := Lib.hid h4
                have HF4 := Lib.hid hf4
                have HP4 := Lib.hid hp4
                have HS4 := Lib.hid hs4
                clear h4 hf4 hp4 hs4
                go_wp2_with fail
                refine ⟨⟨2 * S, f4, by go_num, by omega, by omega, HW4.out, HF4.out, ?_, ?_⟩, by simp [intOf]; omega⟩
                · exact permIn_trans _ _ _ _ _ HP3.out (permIn_mono _ _ _ _ _ _ (Nat.zero_le _) (Nat.le_refl _) (by have := HG3.out; omega) HP4.out)
                · exact HM3.out.last (by omega) (by rw [HB1.out]; omega) (by rw [← HA1.out, ← HME.out]; exact hMn) (by have := HG3.out; omega) (by rw [← HA1.out]; exact HP4.out) (by rw [← HA1.out]; exact HS4.out)
              · have hMz : ¬ (M : Int) < (n : Int) := by omega
                go_wp2_with fail
                exact ⟨⟨2 * S, g2, by go_num, by omega, by omega, HW3.out, HG3.out, HP3.out, HM3.out.done (by omega) (by rw [← HA1.out]; exact hAn1) (by rw [HB1.out]; omega) (by rw [← HA1.out, ← HME.out]; omega)⟩, by simp [intOf]; omega⟩
        · have hltz : ¬ (S : Int) < (n : Int) := by omega
          have HE := Lib.hid (HD1.out.sorted (by omega : n ≤ S))
          clear hlt
          go_wp2_with fail
          go_end0
          exact ⟨rfl, g1, HW1.out, HG1.out, HP1.out, HE.out⟩
end Go.Proofs.Ytlcpackmoolngaa.Ss
namespace Go.Proofs.Ytlcpackmoolngaa.Stb
open Go.Sort
theorem uniq {γ : Type} {l : γ → γ → Bool} (hS : SWO l) : ∀ xs ys : List γ, xs.Perm ys → xs.Pairwise (fun a b => l a b = true) → ys.Pairwise (fun a b => l a b = true) → xs = ys
  | [], ys, h, _, _ => h.nil_eq
  | x :: xs, [], h, _, _ => by
    have := h.length_eq
    simp at this
  | x :: xs, y :: ys, h, h1, h2 => by
    have hx : x ∈ y :: ys := h.mem_iff.1 (by simp)
    have hy : y ∈ x :: xs := h.mem_iff.2 (by simp)
    have e : x = y := by
      rcases List.mem_cons.1 hx with e | m1
      · exact e
      rcases List.mem_cons.1 hy with e | m2
      · exact e.symm
      have q1 := (List.pairwise_cons.1 h1).1 y m2
      have q2 := (List.pairwise_cons.1 h2).1 x m1
      have := asymm hS q1
      rw [q2] at this
      cases this
    subst e
    rw [uniq hS xs ys ((List.perm_cons x).1 h) (List.pairwise_cons.1 h1).2 (List.pairwise_cons.1 h2).2]
theorem strict_list {β : Type} {k1 k2 : β → Int} {l l0 : List (β × Nat)} (hp : l.Perm l0) (ht : (l0.map Prod.snd).Nodup) (hs : l.Pairwise fun x y => ltT k1 k2 y x = false) : l.Pairwise fun x y => ltT k1 k2 x y = true := by
  have hn : (l.map Prod.snd).Nodup := (hp.map Prod.snd).nodup_iff.2 ht
  rw [List.Nodup, List.pairwise_map] at hn
  have h := List.pairwise_and_iff.2 ⟨hs, hn⟩
  exact h.imp fun {x y} h => by
    obtain ⟨h1, h2⟩ := h
    simp only [ltT, decide_eq_false_iff_not] at h1
    simp only [ltT, decide_eq_true_eq]
    omega
end Go.Proofs.Ytlcpackmoolngaa.Stb
namespace Go.Proofs.Ytlcpackmoolngaa.Stb
open Go.Sort
section
variable {β : Type} {k1 k2 : β → Int} {due : β → Bool}
theorem best_least {q : List (β × Nat)} (hq : q.Pairwise fun x y => x.2 < y.2) {i : Nat} (hi : i < q.length)
    (h : ∀ j (hj : j < q.length), due q[j].1 = true → (j < i → ltK k1 k2 q[i] q[j] = true) ∧ (i < j → ltK k1 k2 q[j] q[i] = false)) (j : Nat) (hj : j < q.length) (hne : j ≠ i) (hd : due q[j].1 = true) : ltT k1 k2 q[i] q[j] = true := by
  obtain ⟨h1, h2⟩ := h j hj hd
  by_cases c : j < i
  · have := h1 c
    simp only [ltK, decide_eq_true_eq] at this
    simp only [ltT, decide_eq_true_eq]
    omega
  · have := h2 (by omega)
    have ht := List.pairwise_iff_getElem.1 hq i j hi hj (by omega)
    simp only [ltK, decide_eq_false_iff_not] at this
    simp only [ltT, decide_eq_true_eq]
    omega
def Sel (k1 k2 : β → Int) (due : β → Bool) (l0 come q : List (β × Nat)) : Prop :=
  q.Pairwise (fun x y => x.2 < y.2) ∧ come.Pairwise (fun x y => ltT k1 k2 x y = true) ∧ (∀ c ∈ come, ∀ x ∈ q, due x.1 = true → ltT k1 k2 c x = true) ∧
    (come ++ q.filter fun x => due x.1).Perm (l0.filter fun x => due x.1) ∧ (q.filter fun x => !due x.1) = l0.filter fun x => !due x.1
theorem Sel.zero {l : List (β × Nat)} (h : l.Pairwise fun x y => x.2 < y.2) : Sel k1 k2 due l [] l := ⟨h, List.Pairwise.nil, fun c hc x _ _ => absurd hc (by simp), List.Perm.refl _, rfl⟩
theorem Sel.step {l0 come q : List (β × Nat)} (h : Sel k1 k2 due l0 come q) {i : Nat} (hi : i < q.length) (hd : due q[i].1 = true)
    (hb : ∀ j (hj : j < q.length), due q[j].1 = true → (j < i → ltK k1 k2 q[i] q[j] = true) ∧ (i < j → ltK k1 k2 q[j] q[i] = false)) : Sel k1 k2 due l0 (come ++ [q[i]]) (q.eraseIdx i) := by
  obtain ⟨h1, h2, h3, h4, h5⟩ := h
  have eq : q = q.take i ++ q[i] :: q.drop (i + 1) := by
    rw [← List.drop_eq_getElem_cons hi, List.take_append_drop]
  have ee : q.eraseIdx i = q.take i ++ q.drop (i + 1) := List.eraseIdx_eq_take_drop_succ q i
  refine ⟨h1.sublist (List.eraseIdx_sublist q i), ?_, fun c hc x hx hdx => ?_, ?_, ?_⟩
  · rw [List.pairwise_append]
    exact ⟨h2, List.pairwise_singleton _ _, fun c hc x hx => by
      rw [List.mem_singleton] at hx
      subst hx
      exact h3 c hc _ (List.getElem_mem hi) hd⟩
  · obtain ⟨j, hj, hne, rfl⟩ := List.mem_eraseIdx_iff_getElem.1 hx
    rcases List.mem_append.1 hc with hc | hc
    · exact h3 c hc _ (List.getElem_mem hj) hdx
    · rw [List.mem_singleton] at hc
      subst hc
      exact best_least h1 hi hb j hj hne hdx
  · refine List.Perm.trans ?_ h4
    rw [List.append_assoc]
    refine List.Perm.append_left _ ?_
    rw [ee]
    conv => rhs; rw [eq]
    rw [List.filter_append, List.filter_append, List.filter_cons_of_pos (by simpa using hd)]
    rw [List.singleton_append]
    exact List.perm_middle.symm
  · rw [← h5, ee]
    conv => rhs; rw [eq]
    rw [List.filter_append, List.filter_append, List.filter_cons_of_neg (by simp [hd])]
end
end Go.Proofs.Ytlcpackmoolngaa.Stb
namespace Go.Proofs.Ytlcpackmoolngaa.Ss
open Go.Shelf Go.RowKit Go.Lib Go.Sort Go.Proofs.Ytlcpackmoolngaa.Stb
set_option linter.unusedVariables false
set_option linter.unusedSimpArgs false
theorem isNaN_any (x : Int) (w : World) : Calls Try.prog 55 #[.int .i64 x] w fun e w' => e = .returned (.bool false) ∧ w' = w := by
  go_enter Try.func55, Try.ntmps55
  go_wp2_with fail
  go_ret
  exact ⟨by simp, rfl⟩
def cmpI (x y : Int) : Int := if x < y then -1 else if y < x then 1 else 0
set_option maxRecDepth 100000 in
theorem compare_any (x y : Int) (w : World) : Calls Try.prog 31 #[.int .i64 x, .int .i64 y] w fun e w' => e = .returned (.int .i64 (cmpI x y)) ∧ w' = w := by
  go_enter Try.func31, Try.ntmps31
  unfold cmpI
  by_cases h1 : x < y
  · have h2 : ¬ y < x := by omega
    go_wp2_with fail
    refine (isNaN_any _ _).mono ?_
    rintro e w' ⟨rfl, rfl⟩
    go_wp2_with fail
    refine (isNaN_any _ _).mono ?_
    rintro e w' ⟨rfl, rfl⟩
    go_wp2_with fail
    go_ret
    exact ⟨by simp [h1], rfl⟩
  · by_cases h2 : y < x
    · go_wp2_with fail
      refine (isNaN_any _ _).mono ?_
      rintro e w' ⟨rfl, rfl⟩
      go_wp2_with fail
      refine (isNaN_any _ _).mono ?_
      rintro e w' ⟨rfl, rfl⟩
      go_wp2_with fail
      go_ret
      exact ⟨by simp [h1, h2], rfl⟩
    · go_wp2_with fail
      refine (isNaN_any _ _).mono ?_
      rintro e w' ⟨rfl, rfl⟩
      go_wp2_with fail
      refine (isNaN_any _ _).mono ?_
      rintro e w' ⟨rfl, rfl⟩
      go_wp2_with fail
      go_ret
      exact ⟨by simp [h1, h2], rfl⟩
set_option maxRecDepth 100000 in
theorem or_any (B : Nat) (a b : Int) (w : World) (h0 : w.cell? ⟨B, 0, none⟩ = some (.int .i64 a)) (h1 : w.cell? ⟨B, 1, none⟩ = some (.int .i64 b)) : Calls Try.prog 30 #[.slice (some ⟨B, 0, none⟩) 2 2] w fun e w' => e = .returned (.int .i64 (if a = 0 then b else a)) ∧ w' = w := by
  go_enter Try.func30, Try.ntmps30
  go_wp2_with fail
  go_loopw [5, 8] (fun _ i wr => wr = w ∧ ∃ k : Nat, k ≤ 2 ∧ i = .int .i64 k ∧ (1 ≤ k → a = 0) ∧ (k = 2 → b = 0)) (fun _ i _ => 2 - (intOf i).toNat)
  case atStart => exact ⟨rfl, 0, by omega, rfl, fun h => absurd h (by omega), fun h => absurd h (by omega)⟩
  case round =>
    obtain ⟨rfl, k, hk, rfl, ha, hb⟩ := hrel
    by_cases c0 : k = 0
    · subst c0
      by_cases ca : a = 0
      · go_wp2_with fail
        exact ⟨⟨by first | trivial | rfl, 1, by omega, by go_num, fun _ => ca, fun h => absurd h (by omega)⟩, by simp [intOf]⟩
      · go_wp2_with fail
        go_ret
        exact ⟨by simp [ca], rfl⟩
    · by_cases c1 : k = 1
      · subst c1
        by_cases cb : b = 0
        · go_wp2_with fail
          exact ⟨⟨by first | trivial | rfl, 2, by omega, by go_num, fun _ => ha (by omega), fun _ => cb⟩, by simp [intOf]⟩
        · go_wp2_with fail
          go_ret
          exact ⟨by simp [ha (by omega)], rfl⟩
      · obtain rfl : k = 2 := by omega
        go_wp2_with fail
        go_ret
        exact ⟨by simp [ha (by omega), hb (by first | trivial | rfl)], rfl⟩
end Go.Proofs.Ytlcpackmoolngaa.Ss
namespace Go.Proofs.Ytlcpackmoolngaa.Ss
open Go.ChangeShapes Go.WideShapes Go.ChangeAt Go.Shelf Go.RowKit Go.Lib Go.Sort Go.Proofs.Ytlcpackmoolngaa.Stb Go.Proofs.Ytlcpackmoolngaa.Bu Go.Proofs.Ytlcpackmoolngaa.Mem Go.Proofs.Ytlcpackmoolngaa.Op Go.Proofs.Ytlcpackmoolngaa.Sm
set_option linter.unusedVariables false
set_option linter.unusedSimpArgs false
def orI (a b : Int) : Int := if a = 0 then b else a
theorem or_orI (B : Nat) (a b : Int) (w : World) (h0 : w.cell? ⟨B, 0, none⟩ = some (.int .i64 a)) (h1 : w.cell? ⟨B, 1, none⟩ = some (.int .i64 b)) : Calls Try.prog 30 #[.slice (some ⟨B, 0, none⟩) 2 2] w fun e w' => e = .returned (.int .i64 (orI a b)) ∧ w' = w := or_any B a b w h0 h1
theorem fresh2 (w : World) (o : Obj) (T : TypeId) (C : Array Value) : Blk ((w.alloc o).alloc (.cells C T)) (w.heap.size + 1) T C := by
  have h : Blk ((w.alloc o).alloc (.cells C T)) (w.alloc o).heap.size T C := Blk.fresh _ _ _
  rwa [show (w.alloc o).heap.size = w.heap.size + 1 from Array.size_push _] at h
def cmpP (p q : Parc) : Int := orI (cmpI p.d q.d) (cmpI p.s q.s)
def Grew (w w' : World) : Prop := ∃ (n : Nat) (os : Array Obj), w' = grow (w.drewN n) os
theorem grew_refl (w : World) : Grew w w := ⟨0, #[], (grow_empty _).symm⟩
theorem grew_alloc {w w' : World} (h : Grew w w') (o : Obj) : Grew w (w'.alloc o) := by
  obtain ⟨n, os, rfl⟩ := h
  exact ⟨n, os ++ #[o], by rw [← grow_grow]; rfl⟩
theorem grew_drew {w w' : World} (h : Grew w w') : Grew w w'.drew := by
  obtain ⟨n, os, rfl⟩ := h
  exact ⟨n + 1, os, rfl⟩
set_option maxRecDepth 100000 in
set_option maxHeartbeats 2000000 in
theorem step1_any (p q : Parc) (A C : Option Addr) (c d : Nat) (w : World) :
    Calls Try.prog 29 #[.agg #[.int .i64 p.f, .int .i64 p.t, .int .i64 p.d, .int .i64 p.s, .slice A p.bs.length c], .agg #[.int .i64 q.f, .int .i64 q.t, .int .i64 q.d, .int .i64 q.s, .slice C q.bs.length d]] w fun e w' => e = .returned (.int .i64 (cmpP p q)) ∧ Grew w w' := by
  have HG := Lib.hid (grew_drew (grew_alloc (grew_alloc (grew_refl w) (.cells #[.int .i64 p.f, .int .i64 p.t, .int .i64 p.d, .int .i64 p.s, .slice A p.bs.length c] 52)) (.cells #[.int .i64 q.f, .int .i64 q.t, .int .i64 q.d, .int .i64 q.s, .slice C q.bs.length d] 52)))
  have P1 := Lib.hid (show Blk (w.alloc (.cells #[.int .i64 p.f, .int .i64 p.t, .int .i64 p.d, .int .i64 p.s, .slice A p.bs.length c] 52)) w.heap.size 52 #[.int .i64 p.f, .int .i64 p.t, .int .i64 p.d, .int .i64 p.s, .slice A p.bs.length c] from Blk.fresh _ _ _)
  have P1 := Lib.hid (P1.out.alloc (.cells #[.int .i64 q.f, .int .i64 q.t, .int .i64 q.d, .int .i64 q.s, .slice C q.bs.length d] 52))
  have P2 := Lib.hid (show Blk ((w.alloc (.cells #[.int .i64 p.f, .int .i64 p.t, .int .i64 p.d, .int .i64 p.s, .slice A p.bs.length c] 52)).alloc (.cells #[.int .i64 q.f, .int .i64 q.t, .int .i64 q.d, .int .i64 q.s, .slice C q.bs.length d] 52)) (w.heap.size + 1) 52 #[.int .i64 q.f, .int .i64 q.t, .int .i64 q.d, .int .i64 q.s, .slice C q.bs.length d] from fresh2 _ _ _ _)
  have HS := And.intro P1.out.drew P2.out.drew
  clear P1 P2
  go_enter Try.func29, Try.ntmps29
  go_upto_region 1 with fail
  refine wp_region_noPanic ?_
  refine Rg.beginR [1, 3, 6, 8] (fun w' => Blk w' w.heap.size 52 #[.int .i64 p.f, .int .i64 p.t, .int .i64 p.d, .int .i64 p.s, .slice A p.bs.length c] ∧ Blk w' (w.heap.size + 1) 52 #[.int .i64 q.f, .int .i64 q.t, .int .i64 q.d, .int .i64 q.s, .slice C q.bs.length d]) (by kernel_rfl) ?_
  generalize ((w.alloc (.cells #[.int .i64 p.f, .int .i64 p.t, .int .i64 p.d, .int .i64 p.s, .slice A p.bs.length c] 52)).alloc (.cells #[.int .i64 q.f, .int .i64 q.t, .int .i64 q.d, .int .i64 q.s, .slice C q.bs.length d] 52)).drew = V0 at *
  refine Rg.takeP (i := 0) (oi := { dst := some 5, op := Op.fieldAddr 52 (Operand.tmp 2) 2, type := 0, pos := "bus.go:55", after := #[], guard := none }) (v := ?_) rfl (by kernel_rfl) (fun _ _ _ h => h) (by rfl) ?_ ?_
  rotate_left 1
  · (intro w; go_simp; (try with_reducible rfl))
  try simp only [Act.put, List.setIfInBounds_toArray, List.set_cons_zero, List.set_cons_succ]
  refine Rg.takeS (i := 1) (oi := { dst := some 6, op := Op.load 3 (Operand.tmp 5), type := 3, pos := "bus.go:55", after := #[{ on := 0, ground := Ground.data }], guard := none }) (v := .int .i64 p.d) rfl (by kernel_rfl) (fun _ _ _ h => h) (by rfl) HS ?_ ?_
  · (intro w' hSw; have y := hSw.1.cell 2; simp only [List.getElem?_toArray, List.getElem?_cons_zero, List.getElem?_cons_succ] at y; go_simp; (try with_reducible rfl))
  try simp only [Act.put, List.setIfInBounds_toArray, List.set_cons_zero, List.set_cons_succ]
  refine Rg.takeP (i := 2) (oi := { dst := some 7, op := Op.fieldAddr 52 (Operand.tmp 3) 2, type := 0, pos := "bus.go:55", after := #[], guard := none }) (v := ?_) rfl (by kernel_rfl) (fun _ _ _ h => h) (by rfl) ?_ ?_
  rotate_left 1
  · (intro w; go_simp; (try with_reducible rfl))
  try simp only [Act.put, List.setIfInBounds_toArray, List.set_cons_zero, List.set_cons_succ]
  refine Rg.takeS (i := 3) (oi := { dst := some 8, op := Op.load 3 (Operand.tmp 7), type := 3, pos := "bus.go:55", after := #[{ on := 2, ground := Ground.data }], guard := none }) (v := .int .i64 q.d) rfl (by kernel_rfl) (fun _ _ _ h => h) (by rfl) HS ?_ ?_
  · (intro w' hSw; have y := hSw.2.cell 2; simp only [List.getElem?_toArray, List.getElem?_cons_zero, List.getElem?_cons_succ] at y; go_simp; (try with_reducible rfl))
  try simp only [Act.put, List.setIfInBounds_toArray, List.set_cons_zero, List.set_cons_succ]
  refine Rg.takeP (i := 5) (oi := { dst := some 10, op := Op.fieldAddr 52 (Operand.tmp 2) 3, type := 0, pos := "bus.go:55", after := #[], guard := none }) (v := ?_) rfl (by kernel_rfl) (fun _ _ _ h => h) (by rfl) ?_ ?_
  rotate_left 1
  · (intro w; go_simp; (try with_reducible rfl))
  try simp only [Act.put, List.setIfInBounds_toArray, List.set_cons_zero, List.set_cons_succ]
  refine Rg.takeS (i := 6) (oi := { dst := some 11, op := Op.load 3 (Operand.tmp 10), type := 3, pos := "bus.go:55", after := #[{ on := 5, ground := Ground.data }], guard := none }) (v := .int .i64 p.s) rfl (by kernel_rfl) (fun _ _ _ h => h) (by rfl) HS ?_ ?_
  · (intro w' hSw; have y := hSw.1.cell 3; simp only [List.getElem?_toArray, List.getElem?_cons_zero, List.getElem?_cons_succ] at y; go_simp; (try with_reducible rfl))
  try simp only [Act.put, List.setIfInBounds_toArray, List.set_cons_zero, List.set_cons_succ]
  refine Rg.takeP (i := 7) (oi := { dst := some 12, op := Op.fieldAddr 52 (Operand.tmp 3) 3, type := 0, pos := "bus.go:55", after := #[], guard := none }) (v := ?_) rfl (by kernel_rfl) (fun _ _ _ h => h) (by rfl) ?_ ?_
  rotate_left 1
  · (intro w; go_simp; (try with_reducible rfl))
  try simp only [Act.put, List.setIfInBounds_toArray, List.set_cons_zero, List.set_cons_succ]
  refine Rg.takeS (i := 8) (oi := { dst := some 13, op := Op.load 3 (Operand.tmp 12), type := 3, pos := "bus.go:55", after := #[{ on := 7, ground := Ground.data }], guard := none }) (v := .int .i64 q.s) rfl (by kernel_rfl) (fun _ _ _ h => h) (by rfl) HS ?_ ?_
  · (intro w' hSw; have y := hSw.2.cell 3; simp only [List.getElem?_toArray, List.getElem?_cons_zero, List.getElem?_cons_succ] at y; go_simp; (try with_reducible rfl))
  try simp only [Act.put, List.setIfInBounds_toArray, List.set_cons_zero, List.set_cons_succ]
  refine Rg.oneR (i := 4) (oi := { dst := some 9, op := Op.call { callee := Callee.value (Operand.func 31), args := #[Operand.tmp 6, Operand.tmp 8], argTypes := #[3, 3] }, type := 3, pos := "bus.go:55", after := #[{ on := 1, ground := Ground.data }, { on := 3, ground := Ground.data }], guard := none }) rfl (by kernel_rfl) ?_
  refine Rg.stepS ?_
  intro K hK
  rw [if_pos (by rfl)]
  go_simp
  go_at_call 31
  refine (compare_any _ _ _).mono ?_
  rintro e w' ⟨rfl, hw⟩
  have hw := hw.symm
  subst hw
  dsimp only
  refine hK.out _ _ HS ?_
  clear hK K
  try simp only [Act.put, List.setIfInBounds_toArray, List.set_cons_zero, List.set_cons_succ]
  refine Rg.oneR (i := 9) (oi := { dst := some 14, op := Op.call { callee := Callee.value (Operand.func 31), args := #[Operand.tmp 11, Operand.tmp 13], argTypes := #[3, 3] }, type := 3, pos := "bus.go:55", after := #[{ on := 6, ground := Ground.data }, { on := 8, ground := Ground.data }, { on := 4, ground := Ground.chain }], guard := none }) rfl (by kernel_rfl) ?_
  refine Rg.stepF ?_ ?_
  · kernel_rfl
  intro K hK
  rw [if_pos (by rfl)]
  go_simp
  go_at_call 31
  refine (compare_any _ _ _).mono ?_
  rintro e w' ⟨rfl, hw⟩
  have hw := hw.symm
  subst hw
  dsimp only
  refine hK.out _ _ ?_
  clear hK K
  try simp only [Act.put, List.setIfInBounds_toArray, List.set_cons_zero, List.set_cons_succ]
  refine Rg.oneR (i := 10) (oi := { dst := some 15, op := Op.buildSlice 83 2 #[(0, Operand.tmp 9), (1, Operand.tmp 14)], type := 83, pos := "bus.go:55", after := #[{ on := 4, ground := Ground.data }, { on := 9, ground := Ground.data }], guard := none }) rfl (by kernel_rfl) ?_
  refine Rg.stepF ?_ ?_
  · kernel_rfl
  intro K hK
  go_simp
  have HQ : Hid (Blk (V0.alloc (.cells #[.int .i64 (cmpI p.d q.d), .int .i64 (cmpI p.s q.s)] 3)) V0.heap.size 3 #[.int .i64 (cmpI p.d q.d), .int .i64 (cmpI p.s q.s)]) := Lib.hid (Blk.fresh _ _ _)
  have HG1 := Lib.hid (grew_alloc HG.out (.cells #[.int .i64 (cmpI p.d q.d), .int .i64 (cmpI p.s q.s)] 3))
  generalize (V0.alloc (.cells #[.int .i64 (cmpI p.d q.d), .int .i64 (cmpI p.s q.s)] 3)) = V1 at *
  obtain ⟨ga, hgb⟩ : ∃ ga, V0.heap.size = ga := ⟨_, rfl⟩
  rw [hgb] at HQ ⊢
  clear HS
  have y0 := HQ.out.cell 0
  have y1 := HQ.out.cell 1
  simp only [List.getElem?_toArray, List.getElem?_cons_zero, List.getElem?_cons_succ] at y0 y1
  refine hK.out _ _ ?_
  clear hK K
  try simp only [Act.put, List.setIfInBounds_toArray, List.set_cons_zero, List.set_cons_succ]
  refine Rg.oneR (i := 11) (oi := { dst := some 16, op := Op.call { callee := Callee.value (Operand.func 30), args := #[Operand.tmp 15], argTypes := #[83] }, type := 3, pos := "bus.go:55", after := #[{ on := 10, ground := Ground.data }, { on := 9, ground := Ground.chain }], guard := none }) rfl (by kernel_rfl) ?_
  refine Rg.stepF ?_ ?_
  · kernel_rfl
  intro K hK
  rw [if_pos (by rfl)]
  go_simp
  go_at_call 30
  refine (or_orI ga _ _ _ y0 y1).mono ?_
  rintro e w' ⟨rfl, hw⟩
  have hw := hw.symm
  subst hw
  dsimp only
  refine hK.out _ _ ?_
  clear hK K
  try simp only [Act.put, List.setIfInBounds_toArray, List.set_cons_zero, List.set_cons_succ]
  refine Rg.takeP (i := 12) (oi := { dst := some 4, op := Op.assign (Operand.tmp 16), type := 3, pos := "bus.go:55", after := #[{ on := 11, ground := Ground.data }, { on := 11, ground := Ground.chain }, { on := 0, ground := Ground.phase }, { on := 1, ground := Ground.phase }, { on := 2, ground := Ground.phase }, { on := 3, ground := Ground.phase }, { on := 4, ground := Ground.phase }, { on := 5, ground := Ground.phase }, { on := 6, ground := Ground.phase }, { on := 7, ground := Ground.phase }, { on := 8, ground := Ground.phase }, { on := 9, ground := Ground.phase }, { on := 10, ground := Ground.phase }, { on := 11, ground := Ground.phase }], guard := none }) (v := ?_) rfl (by kernel_rfl) (fun _ _ _ h => h) (by rfl) ?_ ?_
  rotate_left 1
  · (intro w; go_simp; (try with_reducible rfl))
  try simp only [Act.put, List.setIfInBounds_toArray, List.set_cons_zero, List.set_cons_succ]
  refine Rg.doneR (by kernel_rfl) ?_ _
  refine NoPanic.normal ?_
  go_wp2_with fail
  go_ret
  exact ⟨rfl, HG1.out⟩
end Go.Proofs.Ytlcpackmoolngaa.Ss
namespace Go.Proofs.Ytlcpackmoolngaa.Ss
open Go.Shelf Go.RowKit Go.Lib Go.Sort Go.Proofs.Ytlcpackmoolngaa.Stb Go.Proofs.Ytlcpackmoolngaa.Bu
set_option linter.unusedVariables false
set_option linter.unusedSimpArgs false
abbrev PC := Parc × Option Addr × Nat
instance : Inhabited (PC × Nat) := ⟨((⟨0, 0, 0, 0, []⟩, none, 0), 0)⟩
def encP (x : PC × Nat) : List Value := parcL x.1.1 x.1.2.1 x.1.2.2
def dueK (x : PC) : Int := x.1.d
def serK (x : PC) : Int := x.1.s
def cfP (x y : PC × Nat) : Int := cmpP x.1.1 y.1.1
theorem cfP_lt (x y : PC × Nat) : decide (cfP x y < 0) = ltK dueK serK x y := by
  unfold cfP cmpP orI cmpI ltK dueK serK
  apply decide_eq_decide.2
  repeat' split
  all_goals omega
theorem cfP_tag (x y : PC × Nat) (h : x.2 < y.2) : decide (cfP y x < 0) = ltT dueK serK y x := (cfP_lt y x).trans (ltK_tag _ _ h)
theorem cmp_lays (blk off size : Nat) (w0 : World) : CmpLays Try.prog 29 #[] encP 5 cfP blk off size w0 := fun m os dk _ x y => step1_any x.1.1 y.1.1 x.1.2.1 y.1.2.1 x.1.2.2 y.1.2.2 _
theorem step_enters : ∀ args w, (callFunc 29 args).run Try.prog w = .ok (.enter 29 args) w := enters_of Try.func29 (by decide) rfl
set_option maxRecDepth 100000 in
theorem sortStable_any {w0 W : World} {blk off cap : Nat} {d0 : Array (PC × Nat)} (R : RowK encP 5 w0 blk off d0) (hsz : d0.size < 1152921504606846976) (ht : ∀ i, i < d0.size → (d0[i]!).2 = i) (h : SWK encP 5 w0 blk off d0 W) :
    Calls Try.prog 28 #[.slice (some ⟨blk, off, none⟩) d0.size cap, .func (.func 29) #[] #[]] W fun e w' => e = .returned (.tuple #[]) ∧ ∃ f', SWK encP 5 w0 blk off f' w' ∧ f'.size = d0.size ∧ PermIn 0 d0.size d0 f' ∧ SortedIn (ltT dueK serK) 0 d0.size f' := by
  have HQ := Lib.hid (stab_any (cap := cap) laysP R step_enters (cmp_lays blk off d0.size w0) (ltT_swo _ _) (fun x y hxy => cfP_tag x y hxy) hsz ht W h)
  clear R ht h
  go_enter Try.func28, Try.ntmps28
  go_wp2_with fail
  refine HQ.out.mono ?_
  rintro e w2 ⟨rfl, f2, h2⟩
  have H2 := Lib.hid h2
  clear h2
  go_wp2_with fail
  go_end0
  exact ⟨rfl, f2, H2.out⟩
end Go.Proofs.Ytlcpackmoolngaa.Ss
