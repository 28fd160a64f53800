/- Contract: agree.one. -/
import Derived.Test.YtlikfikmfimfhaaAgrLaw
import Derived.Test.YtlikfikmfimfhaaLiar
import Derived.Test.YtlikfikmfimfhaaMaj
import Derived.Test.YtlikfikmfimfhaaTold
import Derived.Test.YtlikfikmfimfhaaRegR
namespace Go.Proofs.Ytlikfikmfimfhaa.Av
open Go.RowKit Go.Proofs.Ytlikfikmfimfhaa.Mem Go.Proofs.Ytlikfikmfimfhaa.Rws Go.Proofs.Ytlikfikmfimfhaa.Ints Go.Proofs.Ytlikfikmfimfhaa.BigW
set_option linter.unusedVariables false
set_option linter.unusedSimpArgs false

theorem mix_keep {f : Nat → Int} {r : Nat} {v : Int} (h : f r = v) (j : Nat) : (if j < r + 1 then f j else 0) = if j = r then v else if j < r then f j else 0 := by
  by_cases e : j = r
  · subst e; simp [h]
  · by_cases h1 : j < r
    · simp [e, h1, show j < r + 1 by omega]
    · simp [e, h1, show ¬ j < r + 1 by omega]

theorem upd_upd (S : Nat → Nat → Int) (i j : Nat) (u v : Int) : upd (upd S i j u) i j v = upd S i j v := by
  funext a b
  unfold upd
  by_cases h : a = i ∧ b = j
  · rw [if_pos h, if_pos h]
  · rw [if_neg h, if_neg h, if_neg h]
theorem Told.drew {w : World} {base : Nat} {T : Nat → Value} {tl : Nat → List Int} (h : Told w base T tl) : Told w.drew base T tl := ⟨fun a ha => (h.1 a ha).drew, h.2⟩
theorem told_two {w : World} {base : Nat} {T : Nat → Value} {tl : Nat → List Int} (h : Told w base T tl) {a : Nat} (ha : a < 4) (h2 : (tl a).length = 2) :
    ∃ b o c x y, T a = .slice (some ⟨b, o, none⟩) 2 c ∧ 2 ≤ c ∧ c ≤ maxLen ∧ tl a = [x, y] ∧ w.cell? ⟨b, o, none⟩ = some (.int .i64 x) ∧ w.cell? ⟨b, o + 1, none⟩ = some (.int .i64 y) := by
  obtain ⟨x, y, e⟩ : ∃ x y, tl a = [x, y] := by
    rcases hl : tl a with _ | ⟨x, _ | ⟨y, _ | ⟨z, l⟩⟩⟩
    · rw [hl] at h2; simp at h2
    · rw [hl] at h2; simp at h2
    · exact ⟨x, y, rfl⟩
    · rw [hl] at h2; simp at h2
  have h1 := h.1 a ha
  rw [e] at h1
  obtain ⟨A, c, hv, h3, h4, _, _, hr⟩ := own_form h1
  obtain ⟨b, o, hA, _, hc⟩ := hr.2 (by simp)
  refine ⟨b, o, c, x, y, by rw [hv, hA]; rfl, h3, h4, e, ?_, ?_⟩
  · exact hc 0 (.int .i64 x) rfl
  · exact hc 1 (.int .i64 y) rfl

set_option maxRecDepth 100000 in
set_option maxHeartbeats 2000000 in
theorem one_any (s n go gl B : Nat) (bad : Int) (vals : Nat → Int) (O : Nat → Nat → Int) (A : Option Addr) (c : Nat) (lies : List Int) (w : World) (hs : s < 4) (hn : n ≤ 80) (ho : Blk w go 24 (rowF .i64 16 fun q => O (q / 4) (q % 4))) (hli : Blk w gl 83 #[.slice A lies.length c, .int .i64 ((min n lies.length : Nat) : Int)]) (hr : Rd w B 1 A lies.length (intsV lies)) (hBo : B ≤ go) (hog : go < gl) (hl : lies.length ≤ 140737488355328) (lie : Nat → Int) (hle : ∀ k, lies.getD k 0 = lie k) :
    Calls Try.prog 35 #[.pointer (some ⟨go, 0, none⟩), .int .i64 (s : Int), .int .i64 (vals s), .int .i64 bad, .pointer (some ⟨gl, 0, none⟩)] w fun e w' =>
      e = .returned (.tuple #[]) ∧ Blk w' go 24 (rowF .i64 16 fun q => colF O s 4 (takeF s (vals s) (dirA bad vals lie s n).1 (saidA bad vals lie s n).1) (q / 4) (q % 4)) ∧ Blk w' gl 83 #[.slice A lies.length c, .int .i64 ((min (saidA bad vals lie s n).2 lies.length : Nat) : Int)] ∧ Below go w w' := by
  have HO := Lib.hid ho
  have HLI := Lib.hid hli
  have HGW := Lib.hid (show go ≤ w.heap.size from Nat.le_of_lt ho.lt)
  have HR := Lib.hid hr
  have HLL := Lib.hid hl
  clear ho hli hr hl
  go_enter Try.func35, Try.ntmps35
  go_upto_region 2 with fail
  have hgo := HO.out.lt
  have hgl := HLI.out.lt
  have HD := Lib.hid (show Blk ((w.alloc (.cells #[.int .i64 0, .int .i64 0, .int .i64 0, .int .i64 0] 22)).alloc (.cells #[.slice none 0 0, .slice none 0 0, .slice none 0 0, .slice none 0 0] 94)) w.heap.size 22 (rowF .i64 4 fun _ => 0) from (Blk.new rfl).alloc _)
  have HT := Lib.hid (show Blk ((w.alloc (.cells #[.int .i64 0, .int .i64 0, .int .i64 0, .int .i64 0] 22)).alloc (.cells #[.slice none 0 0, .slice none 0 0, .slice none 0 0, .slice none 0 0] 94)) (w.heap.size + 1) 94 (rowV 4 fun _ => .slice none 0 0) from Blk.new (by simp))
  have HO := Lib.hid (show Blk ((w.alloc (.cells #[.int .i64 0, .int .i64 0, .int .i64 0, .int .i64 0] 22)).alloc (.cells #[.slice none 0 0, .slice none 0 0, .slice none 0 0, .slice none 0 0] 94)) go 24 _ from (HO.out.alloc _).alloc _)
  have HLI := Lib.hid (show Blk ((w.alloc (.cells #[.int .i64 0, .int .i64 0, .int .i64 0, .int .i64 0] 22)).alloc (.cells #[.slice none 0 0, .slice none 0 0, .slice none 0 0, .slice none 0 0] 94)) gl 83 _ from (HLI.out.alloc _).alloc _)
  have HB := Lib.hid (show Below go w ((w.alloc (.cells #[.int .i64 0, .int .i64 0, .int .i64 0, .int .i64 0] 22)).alloc (.cells #[.slice none 0 0, .slice none 0 0, .slice none 0 0, .slice none 0 0] 94)) from ((Below.refl _ _).alloc (by omega) _).alloc (by simp; omega) _)
  generalize ((w.alloc (.cells #[.int .i64 0, .int .i64 0, .int .i64 0, .int .i64 0] 22)).alloc (.cells #[.slice none 0 0, .slice none 0 0, .slice none 0 0, .slice none 0 0] 94)) = w1 at *
  obtain ⟨gt, hgt⟩ : ∃ g, w.heap.size + 1 = g := ⟨_, rfl⟩
  rw [hgt] at HT ⊢
  obtain ⟨gd, hgd⟩ : ∃ g, w.heap.size = g := ⟨_, rfl⟩
  rw [hgd] at HD hgo hgl hgt ⊢
  have hdt : gd < gt := by omega
  clear hgt hgd
  have HLE := Lib.hid hle
  clear hle
  go_wp2_with fail
  go_loopw [17] (fun iv wr => ∃ r : Nat, r ≤ 4 ∧ iv = .int .i64 r ∧ Blk wr gd 22 (rowF .i64 4 fun j => if j < r then (dirF s bad (vals s) lie n r).1 j else 0) ∧ Blk wr gl 83 #[.slice A lies.length c, .int .i64 ((min (dirF s bad (vals s) lie n r).2 lies.length : Nat) : Int)] ∧ Blk wr gt 94 (rowV 4 fun _ => .slice none 0 0) ∧ Blk wr go 24 (rowF .i64 16 fun q => O (q / 4) (q % 4)) ∧ Below go w wr) (fun iv _ => 4 - (intOf iv).toNat)
  case atStart => exact ⟨0, by omega, rfl, HD.out, HLI.out, HT.out, HO.out, HB.out⟩
  case round =>
    clear HD HLI HT HO HB
    obtain ⟨r, hr4, rfl, hd, hli, ht, ho, hb⟩ := hrel
    have HD := Lib.hid hd
    have HLI := Lib.hid hli
    have HT := Lib.hid ht
    have HO := Lib.hid ho
    have HB := Lib.hid hb
    clear hd hli ht ho hb
    by_cases hlt : r < 4
    · have HDF := Lib.hid (show dirF s bad (vals s) lie n (r + 1) = if (s : Int) = bad ∧ r ≠ s then (putI (dirF s bad (vals s) lie n r).1 r (lie (dirF s bad (vals s) lie n r).2), (dirF s bad (vals s) lie n r).2 + 1) else dirF s bad (vals s) lie n r from rfl)
      have HCN := Lib.hid (show (dirF s bad (vals s) lie n r).2 ≤ 200 from by have := dirF_count s bad (vals s) lie n r; omega)
      have HLT := Lib.hid (dirF_later s bad (vals s) lie n r r (Nat.le_refl r))
      generalize dirF s bad (vals s) lie n r = dd at *
      obtain ⟨f, m⟩ := dd
      simp only at HDF HD HLI HCN HLT
      have hc := HD.out.cell r
      rw [rowF_at _ _ _ _ hlt, if_neg (by omega)] at hc
      have hf := HD.out.thaw r
      have hlt1 : (r : Int) < 4 := by omega
      obtain ⟨v, hv⟩ : ∃ v, vals s = v := ⟨_, rfl⟩
      rw [hv]
      go_upto_region 6 with fail
      clear hc hf
      have hset := HD.out.set r (.int .i64 v)
      rw [rowF_set (g := fun j => if j = r then v else if j < r then f j else 0) (fun j _ => rfl)] at hset
      clear HD
      have HD := Lib.hid hset
      clear hset
      have HLI := Lib.hid (HLI.out.other (p := ⟨gd, r, none⟩) (by show _ ≠ gd; omega) (.int .i64 v))
      have HT := Lib.hid (HT.out.other (p := ⟨gd, r, none⟩) (by show _ ≠ gd; omega) (.int .i64 v))
      have HO := Lib.hid (HO.out.other (p := ⟨gd, r, none⟩) (by show _ ≠ gd; omega) (.int .i64 v))
      have HB := Lib.hid (HB.out.setCell (p := ⟨gd, r, none⟩) (by show _ ≤ gd; omega) (.int .i64 v))
      generalize (wr.setCell ⟨gd, r, none⟩ (.int .i64 v)) = w2 at *
      by_cases hsb : (s : Int) = bad
      · have HSB := Lib.hid hsb
        have hq : ((s : Int) == bad) = true := by simp [hsb]
        clear hsb
        by_cases hrs : r = s
        · have hrs1 : ((r : Int) != (s : Int)) = false := by simp [hrs]
          have hdf : dirF s bad (vals s) lie n (r + 1) = (f, m) := by rw [HDF.out, if_neg (fun h => h.2 hrs)]
          have HDE := Lib.hid hdf
          have HRS := Lib.hid hrs
          clear hdf hrs
          go_wp2_with fail
          refine ⟨⟨r + 1, by omega, by go_num, ?_, ?_, HT.out, HO.out, HB.out⟩, by simp [intOf]; omega⟩
          · rw [← hv, HDE.out]; have hd := HD.out; rw [rowF_congr (g := fun j => if j < r + 1 then f j else 0) (fun j _ => (mix_keep (HLT.out.trans hv) j).symm)] at hd; exact hd
          · rw [← hv, HDE.out]; exact HLI.out
        · have hrs1 : ((r : Int) != (s : Int)) = true := by simp; omega
          have hdf : dirF s bad (vals s) lie n (r + 1) = (putI f r (lie m), m + 1) := by rw [HDF.out, if_pos ⟨HSB.out, hrs⟩]
          have HDE := Lib.hid hdf
          clear hdf
          go_wp2_with fail
          have hw2 := HO.out.lt
          refine (next_any A c m gl B lies w2 HLI.out (HR.out.below (HB.out.mono hBo)) (by omega) HLL.out).mono ?_
          rw [HLE.out]
          rintro e w3 ⟨rfl, hst, hg⟩
          have HLI := Lib.hid hst
          have HD := Lib.hid (HD.out.grown hg (neq_of (by omega)))
          have HT := Lib.hid (HT.out.grown hg (neq_of (by omega)))
          have HO := Lib.hid (HO.out.grown hg (neq_of (by omega)))
          have HB := Lib.hid (HB.out.grown hg (by omega) (fun g e => by injection e with e; omega))
          clear hst hg
          have hc := HD.out.cell r
          rw [rowF_at _ _ _ _ hlt, if_pos rfl] at hc
          have hf := HD.out.thaw r
          go_wp2_with fail
          clear hc hf
          have hset := HD.out.set r (.int .i64 (lie m))
          rw [rowF_set (g := fun j => if j < r + 1 then putI f r (lie m) j else 0) (fun j _ => by
            unfold putI
            by_cases h : j = r
            · subst h; simp
            · by_cases h1 : j < r
              · simp [h, h1, show j < r + 1 by omega]
              · simp [h, h1, show ¬ j < r + 1 by omega])] at hset
          refine ⟨⟨r + 1, by omega, by go_num, ?_, ?_, HT.out.other (p := ⟨gd, r, none⟩) (by show _ ≠ gd; omega) _, HO.out.other (p := ⟨gd, r, none⟩) (by show _ ≠ gd; omega) _, HB.out.setCell (p := ⟨gd, r, none⟩) (by show _ ≤ gd; omega) _⟩, by simp [intOf]; omega⟩
          · rw [← hv, HDE.out]; exact hset
          · rw [← hv, HDE.out]; exact HLI.out.other (p := ⟨gd, r, none⟩) (by show _ ≠ gd; omega) _
      · have hdf : dirF s bad (vals s) lie n (r + 1) = (f, m) := by rw [HDF.out, if_neg (fun h => hsb h.1)]
        have HDE := Lib.hid hdf
        clear hdf
        go_wp2_with fail
        refine ⟨⟨r + 1, by omega, by go_num, ?_, ?_, HT.out, HO.out, HB.out⟩, by simp [intOf]; omega⟩
        · rw [← hv, HDE.out]; have hd := HD.out; rw [rowF_congr (g := fun j => if j < r + 1 then f j else 0) (fun j _ => (mix_keep (HLT.out.trans hv) j).symm)] at hd; exact hd
        · rw [← hv, HDE.out]; exact HLI.out
    · obtain rfl : r = 4 := by omega
      clear hlt
      have HM4 := Lib.hid (show (dirF s bad (vals s) lie n 4).2 ≤ 84 from by have := dirF_count s bad (vals s) lie n 4; omega)
      obtain ⟨⟨d, m⟩, hdd⟩ : ∃ D, dirF s bad (vals s) lie n 4 = D := ⟨_, rfl⟩
      have HDD := Lib.hid hdd
      rw [hdd] at HD HLI HM4
      clear hdd
      simp only at HD HLI HM4
      have hd := HD.out
      rw [rowF_congr (g := d) (fun j hj => by rw [if_pos hj])] at hd
      clear HD
      have HD := Lib.hid hd
      clear hd
      rw [show ((4 : Nat) : Int) = 4 from rfl]
      go_wp2_with fail
      generalize wr = wq1 at *
      go_loopw [36] (fun iv wr => ∃ (r : Nat) (T : Nat → Value), r ≤ 4 ∧ iv = .int .i64 r ∧ Told wr (gt + 1) T (fun a => tlF s (saidR s bad d lie m r).1 a r) ∧ Blk wr gt 94 (rowV 4 T) ∧ Blk wr gd 22 (rowF .i64 4 d) ∧ Blk wr gl 83 #[.slice A lies.length c, .int .i64 ((min (saidR s bad d lie m r).2 lies.length : Nat) : Int)] ∧ Blk wr go 24 (rowF .i64 16 fun q => O (q / 4) (q % 4)) ∧ Below go w wr) (fun iv _ => 4 - (intOf iv).toNat)
      case atStart => exact ⟨0, fun _ => .slice none 0 0, by omega, rfl, (Told.nil wq1 (gt + 1)).congr (fun a _ => by unfold tlF toldF; split <;> rfl), HT.out, HD.out, HLI.out, HO.out, HB.out⟩
      case round =>
        clear HD HLI HT HO HB
        obtain ⟨r, T, hr4, rfl, htl, ht, hd, hli, ho, hb⟩ := hrel
        have HTL := Lib.hid htl
        have HD := Lib.hid hd
        have HLI := Lib.hid hli
        have HT := Lib.hid ht
        have HO := Lib.hid ho
        have HB := Lib.hid hb
        clear htl hd hli ht ho hb
        by_cases hlt : r < 4
        · have HSR := Lib.hid (show saidR s bad d lie m (r + 1) = saidQ s r bad d lie (saidR s bad d lie m r).1 (saidR s bad d lie m r).2 4 from rfl)
          have HCN := Lib.hid (show (saidR s bad d lie m r).2 ≤ 100 from by have := saidR_count s bad d lie m r; have := HM4.out; omega)
          generalize saidR s bad d lie m r = ss at *
          obtain ⟨S, k⟩ := ss
          simp only at HSR HCN HTL HLI
          have hlt1 : (r : Int) < 4 := by omega
          go_wp2_with fail
          generalize wr = wq2 at *
          go_loopw [39] (fun iv wr => ∃ (q : Nat) (T : Nat → Value), q ≤ 4 ∧ iv = .int .i64 q ∧ Told wr (gt + 1) T (fun a => tlF s (saidQ s r bad d lie S k q).1 a (if a < q then r + 1 else r)) ∧ Blk wr gt 94 (rowV 4 T) ∧ Blk wr gd 22 (rowF .i64 4 d) ∧ Blk wr gl 83 #[.slice A lies.length c, .int .i64 ((min (saidQ s r bad d lie S k q).2 lies.length : Nat) : Int)] ∧ Blk wr go 24 (rowF .i64 16 fun q => O (q / 4) (q % 4)) ∧ Below go w wr) (fun iv _ => 4 - (intOf iv).toNat)
          case atStart => exact ⟨0, T, by omega, rfl, HTL.out.congr (fun a _ => by rw [if_neg (by omega)]; rfl), HT.out, HD.out, HLI.out, HO.out, HB.out⟩
          case round =>
            clear HD HLI HT HO HB HTL
            obtain ⟨q, T, hq4, rfl, htl, ht, hd, hli, ho, hb⟩ := hrel
            have HTL := Lib.hid htl
            have HD := Lib.hid hd
            have HLI := Lib.hid hli
            have HT := Lib.hid ht
            have HO := Lib.hid ho
            have HB := Lib.hid hb
            clear htl hd hli ht ho hb
            by_cases hq : q < 4
            · have HSQ := Lib.hid (show saidQ s r bad d lie S k (q + 1) = if tells s r q then (if (r : Int) = bad then (upd (saidQ s r bad d lie S k q).1 r q (lie (saidQ s r bad d lie S k q).2), (saidQ s r bad d lie S k q).2 + 1) else (upd (saidQ s r bad d lie S k q).1 r q (d r), (saidQ s r bad d lie S k q).2)) else saidQ s r bad d lie S k q from rfl)
              have HCQ := Lib.hid (show (saidQ s r bad d lie S k q).2 ≤ 200 from by have := saidQ_count s r bad d lie S k q; have := HCN.out; omega)
              generalize saidQ s r bad d lie S k q = qq at *
              obtain ⟨Q, kq⟩ := qq
              simp only at HSQ HCQ HTL HLI
              have hq1 : (q : Int) < 4 := by omega
              by_cases htell : tells s r q
              · have h1 : ((r : Int) == (s : Int)) = false := by have := htell.1; simp; omega
                have h2 : ((q : Int) == (s : Int)) = false := by have := htell.2.1; simp; omega
                have h3 : ((q : Int) == (r : Int)) = false := by have := htell.2.2; simp; omega
                have HTE := Lib.hid htell
                clear htell
                by_cases hrb : (r : Int) = bad
                · have hdf : saidQ s r bad d lie S k (q + 1) = (upd Q r q (lie kq), kq + 1) := by rw [HSQ.out, if_pos HTE.out, if_pos hrb]
                  have HDE := Lib.hid hdf
                  have hb1 : ((r : Int) == bad) = true := by simp [hrb]
                  clear hdf hrb
                  have hc := HD.out.cell r
                  rw [rowF_at _ _ _ _ hlt] at hc
                  go_upto_region 18 with fail
                  clear hc
                  go_wp2_with fail
                  have hw2 := HO.out.lt
                  refine (next_any A c kq gl B lies wr HLI.out (HR.out.below (HB.out.mono hBo)) (by omega) HLL.out).mono ?_
                  rw [HLE.out]
                  rintro e w3 ⟨rfl, hst, hg⟩
                  have HLI := Lib.hid hst
                  have HD := Lib.hid (HD.out.grown hg (neq_of (by omega)))
                  have HT := Lib.hid (HT.out.grown hg (neq_of (by omega)))
                  have HO := Lib.hid (HO.out.grown hg (neq_of (by omega)))
                  have HB := Lib.hid (HB.out.grown hg (by omega) (fun g e => by injection e with e; omega))
                  have HTL := Lib.hid (HTL.out.grown hg (by omega))
                  clear hst hg
                  obtain ⟨x, hx⟩ : ∃ x, lie kq = x := ⟨_, rfl⟩
                  rw [hx] at HDE ⊢
                  clear hx
                  have hT := HT.out.cell q
                  rw [rowV_at 4 T hq] at hT
                  have hTf := HT.out.thaw q
                  have HSG := Lib.hid (rd_single w3 (.int .i64 x) 3)
                  have how := HTL.out.1 q hq
                  dsimp only at how
                  rw [if_neg (Nat.lt_irrefl q)] at how
                  have HOW := Lib.hid (how.alloc (.cells #[.int .i64 x] 3))
                  clear how
                  have hgt2 : gt < w3.heap.size := HT.out.lt
                  have htl2 : (tlF s Q q r).length ≤ 4 := Nat.le_trans (tlF_le s Q q r) (by omega)
                  go_upto_region 20 with (at_builtin; go_loud (refine wpList_append_at _ rfl (.tmp 66) (.tmp 68) 23 rfl (gt + 1) Go.Proofs.Ytlikfikmfimfhaa.Ints.elemInts rfl HOW.out rfl HSG.out (by omega) (by simp [Value.oneCell']) (by unfold maxLen; omega) (by omega) (by simp; omega) ?_; intro v' w5 hown2 hg2 hat2; obtain ⟨A9, c9, rfl, _⟩ := own_form hown2; have HO2 := Lib.hid (show w5.ownsRow (gt + 1) 3 1 (Value.slice A9 ((tlF s Q q r).length + 1) c9) ((tlF s Q q r).length + 1) (intsV (tlF s Q q r) ++ [.int .i64 x]) from hown2); have HG2 := Lib.hid (show World.grownBy (w3.alloc (.cells #[.int .i64 x] 3)) w5 (T q).ownBlock from hg2); have HA2 := Lib.hid (show (Value.slice A9 ((tlF s Q q r).length + 1) c9).ownBlock = (T q).ownBlock ∨ (Value.slice A9 ((tlF s Q q r).length + 1) c9).ownBlock = some (w3.alloc (.cells #[.int .i64 x] 3)).heap.size from hat2); clear hown2 hg2 hat2; have HT5 := Lib.hid ((HT.out.alloc _).grown HG2.out (own_apart (HTL.out.1 q hq) (by omega))); have hT5 := HT5.out.cell q; rw [rowV_at 4 T hq] at hT5; have hTf5 := HT5.out.thaw q))
                  clear hT hTf
                  have hset := HT5.out.set q (Value.slice A9 ((tlF s Q q r).length + 1) c9)
                  rw [rowV_set 4 T (fun a => if a = q then (Value.slice A9 ((tlF s Q q r).length + 1) c9) else T a) q (Value.slice A9 ((tlF s Q q r).length + 1) c9) (fun a _ => rfl)] at hset
                  clear HT hT5 hTf5
                  have hne5 : ∀ g, g < gt + 1 → some g ≠ (T q).ownBlock := fun g hg => own_apart (HTL.out.1 q hq) hg
                  have HD := Lib.hid (((HD.out.alloc (.cells #[.int .i64 x] 3)).grown HG2.out (hne5 _ (by omega))).other (p := ⟨gt, q, none⟩) (by show _ ≠ gt; omega) (Value.slice A9 ((tlF s Q q r).length + 1) c9))
                  have HLI := Lib.hid (((HLI.out.alloc (.cells #[.int .i64 x] 3)).grown HG2.out (hne5 _ (by omega))).other (p := ⟨gt, q, none⟩) (by show _ ≠ gt; omega) (Value.slice A9 ((tlF s Q q r).length + 1) c9))
                  have HO := Lib.hid (((HO.out.alloc (.cells #[.int .i64 x] 3)).grown HG2.out (hne5 _ (by omega))).other (p := ⟨gt, q, none⟩) (by show _ ≠ gt; omega) (Value.slice A9 ((tlF s Q q r).length + 1) c9))
                  have HB := Lib.hid (((HB.out.alloc (by omega) (.cells #[.int .i64 x] 3)).grown HG2.out (by simp; omega) (fun g e => by have := ((HTL.out.1 q hq).lt g e).1; omega)).setCell (p := ⟨gt, q, none⟩) (by show _ ≤ gt; omega) (Value.slice A9 ((tlF s Q q r).length + 1) c9))
                  have HTL := Lib.hid (((Told.put (HTL.out.alloc (.cells #[.int .i64 x] 3)) hq (v' := (Value.slice A9 ((tlF s Q q r).length + 1) c9)) (x := x) (by (try dsimp only); rw [if_neg (Nat.lt_irrefl q)]; exact HO2.out) HG2.out HA2.out).congr (tl' := fun a => tlF s (upd Q r q x) a (if a < q + 1 then r + 1 else r)) (fun a _ => by (try dsimp only); rw [if_neg (Nat.lt_irrefl q)]; exact tl_put x HTE.out a)).grown (grown_set w5 gt q (Value.slice A9 ((tlF s Q q r).length + 1) c9)) (by omega))
                  have HT := Lib.hid hset
                  clear hset HT5 HOW HO2 HG2 HA2 hne5
                  generalize (w5.setCell ⟨gt, q, none⟩ (Value.slice A9 ((tlF s Q q r).length + 1) c9)) = w6 at *
                  go_wp2_with fail
                  refine ⟨⟨q + 1, fun a => if a = q then (Value.slice A9 ((tlF s Q q r).length + 1) c9) else T a, by omega, by go_num, ?_, HT.out, HD.out, ?_, HO.out, HB.out⟩, by simp [intOf]; omega⟩
                  · rw [HDE.out]; exact HTL.out
                  · rw [HDE.out]; exact HLI.out
                · have hdf : saidQ s r bad d lie S k (q + 1) = (upd Q r q (d r), kq) := by rw [HSQ.out, if_pos HTE.out, if_neg hrb]
                  have HDE := Lib.hid hdf
                  have hb1 : ((r : Int) == bad) = false := by simp [hrb]
                  clear hdf hrb
                  have hc := HD.out.cell r
                  rw [rowF_at _ _ _ _ hlt] at hc
                  obtain ⟨x, hx⟩ : ∃ x, d r = x := ⟨_, rfl⟩
                  rw [hx] at HDE hc
                  clear hx
                  go_upto_region 19 with fail
                  clear hc
                  have hT := HT.out.cell q
                  rw [rowV_at 4 T hq] at hT
                  have hTf := HT.out.thaw q
                  have HSG := Lib.hid (rd_single wr (.int .i64 x) 3)
                  have how := HTL.out.1 q hq
                  dsimp only at how
                  rw [if_neg (Nat.lt_irrefl q)] at how
                  have HOW := Lib.hid (how.alloc (.cells #[.int .i64 x] 3))
                  clear how
                  have hgt2 : gt < wr.heap.size := HT.out.lt
                  have htl2 : (tlF s Q q r).length ≤ 4 := Nat.le_trans (tlF_le s Q q r) (by omega)
                  go_upto_region 20 with (at_builtin; go_loud (refine wpList_append_at _ rfl (.tmp 66) (.tmp 68) 23 rfl (gt + 1) Go.Proofs.Ytlikfikmfimfhaa.Ints.elemInts rfl HOW.out rfl HSG.out (by omega) (by simp [Value.oneCell']) (by unfold maxLen; omega) (by omega) (by simp; omega) ?_; intro v' w5 hown2 hg2 hat2; obtain ⟨A9, c9, rfl, _⟩ := own_form hown2; have HO2 := Lib.hid (show w5.ownsRow (gt + 1) 3 1 (Value.slice A9 ((tlF s Q q r).length + 1) c9) ((tlF s Q q r).length + 1) (intsV (tlF s Q q r) ++ [.int .i64 x]) from hown2); have HG2 := Lib.hid (show World.grownBy (wr.alloc (.cells #[.int .i64 x] 3)) w5 (T q).ownBlock from hg2); have HA2 := Lib.hid (show (Value.slice A9 ((tlF s Q q r).length + 1) c9).ownBlock = (T q).ownBlock ∨ (Value.slice A9 ((tlF s Q q r).length + 1) c9).ownBlock = some (wr.alloc (.cells #[.int .i64 x] 3)).heap.size from hat2); clear hown2 hg2 hat2; have HT5 := Lib.hid ((HT.out.alloc _).grown HG2.out (own_apart (HTL.out.1 q hq) (by omega))); have hT5 := HT5.out.cell q; rw [rowV_at 4 T hq] at hT5; have hTf5 := HT5.out.thaw q))
                  clear hT hTf
                  have hset := HT5.out.set q (Value.slice A9 ((tlF s Q q r).length + 1) c9)
                  rw [rowV_set 4 T (fun a => if a = q then (Value.slice A9 ((tlF s Q q r).length + 1) c9) else T a) q (Value.slice A9 ((tlF s Q q r).length + 1) c9) (fun a _ => rfl)] at hset
                  clear HT hT5 hTf5
                  have hne5 : ∀ g, g < gt + 1 → some g ≠ (T q).ownBlock := fun g hg => own_apart (HTL.out.1 q hq) hg
                  have HD := Lib.hid (((HD.out.alloc (.cells #[.int .i64 x] 3)).grown HG2.out (hne5 _ (by omega))).other (p := ⟨gt, q, none⟩) (by show _ ≠ gt; omega) (Value.slice A9 ((tlF s Q q r).length + 1) c9))
                  have HLI := Lib.hid (((HLI.out.alloc (.cells #[.int .i64 x] 3)).grown HG2.out (hne5 _ (by omega))).other (p := ⟨gt, q, none⟩) (by show _ ≠ gt; omega) (Value.slice A9 ((tlF s Q q r).length + 1) c9))
                  have HO := Lib.hid (((HO.out.alloc (.cells #[.int .i64 x] 3)).grown HG2.out (hne5 _ (by omega))).other (p := ⟨gt, q, none⟩) (by show _ ≠ gt; omega) (Value.slice A9 ((tlF s Q q r).length + 1) c9))
                  have HB := Lib.hid (((HB.out.alloc (by omega) (.cells #[.int .i64 x] 3)).grown HG2.out (by simp; omega) (fun g e => by have := ((HTL.out.1 q hq).lt g e).1; omega)).setCell (p := ⟨gt, q, none⟩) (by show _ ≤ gt; omega) (Value.slice A9 ((tlF s Q q r).length + 1) c9))
                  have HTL := Lib.hid (((Told.put (HTL.out.alloc (.cells #[.int .i64 x] 3)) hq (v' := (Value.slice A9 ((tlF s Q q r).length + 1) c9)) (x := x) (by (try dsimp only); rw [if_neg (Nat.lt_irrefl q)]; exact HO2.out) HG2.out HA2.out).congr (tl' := fun a => tlF s (upd Q r q x) a (if a < q + 1 then r + 1 else r)) (fun a _ => by (try dsimp only); rw [if_neg (Nat.lt_irrefl q)]; exact tl_put x HTE.out a)).grown (grown_set w5 gt q (Value.slice A9 ((tlF s Q q r).length + 1) c9)) (by omega))
                  have HT := Lib.hid hset
                  clear hset HT5 HOW HO2 HG2 HA2 hne5
                  generalize (w5.setCell ⟨gt, q, none⟩ (Value.slice A9 ((tlF s Q q r).length + 1) c9)) = w6 at *
                  go_wp2_with fail
                  refine ⟨⟨q + 1, fun a => if a = q then (Value.slice A9 ((tlF s Q q r).length + 1) c9) else T a, by omega, by go_num, ?_, HT.out, HD.out, ?_, HO.out, HB.out⟩, by simp [intOf]; omega⟩
                  · rw [HDE.out]; exact HTL.out
                  · rw [HDE.out]; exact HLI.out
              · have hdf : saidQ s r bad d lie S k (q + 1) = (Q, kq) := by rw [HSQ.out, if_neg htell]
                have HDE := Lib.hid hdf
                have HNT := Lib.hid htell
                have hcase : r = s ∨ (r ≠ s ∧ q = s) ∨ (r ≠ s ∧ q ≠ s ∧ q = r) := by
                  by_cases h1 : r = s
                  · exact .inl h1
                  · by_cases h2 : q = s
                    · exact .inr (.inl ⟨h1, h2⟩)
                    · by_cases h3 : q = r
                      · exact .inr (.inr ⟨h1, h2, h3⟩)
                      · exact absurd ⟨h1, h2, h3⟩ htell
                clear hdf htell
                rcases hcase with hcs | ⟨hcs, hct⟩ | ⟨hcs, hct, hcu⟩
                · have h1 : ((r : Int) == (s : Int)) = true := by simp [hcs]
                  clear hcs
                  go_wp2_with fail
                  refine ⟨⟨q + 1, T, by omega, by go_num, ?_, HT.out, HD.out, ?_, HO.out, HB.out⟩, by simp [intOf]; omega⟩
                  · rw [HDE.out]; exact HTL.out.congr (fun a _ => tl_skip HNT.out a)
                  · rw [HDE.out]; exact HLI.out
                · have h1 : ((r : Int) == (s : Int)) = false := by simp; omega
                  have h2 : ((q : Int) == (s : Int)) = true := by simp [hct]
                  clear hcs hct
                  go_wp2_with fail
                  refine ⟨⟨q + 1, T, by omega, by go_num, ?_, HT.out, HD.out, ?_, HO.out, HB.out⟩, by simp [intOf]; omega⟩
                  · rw [HDE.out]; exact HTL.out.congr (fun a _ => tl_skip HNT.out a)
                  · rw [HDE.out]; exact HLI.out
                · have h1 : ((r : Int) == (s : Int)) = false := by simp; omega
                  have h2 : ((q : Int) == (s : Int)) = false := by simp; omega
                  have h3 : ((q : Int) == (r : Int)) = true := by simp [hcu]
                  clear hcs hct hcu
                  go_wp2_with fail
                  refine ⟨⟨q + 1, T, by omega, by go_num, ?_, HT.out, HD.out, ?_, HO.out, HB.out⟩, by simp [intOf]; omega⟩
                  · rw [HDE.out]; exact HTL.out.congr (fun a _ => tl_skip HNT.out a)
                  · rw [HDE.out]; exact HLI.out
            · obtain rfl : q = 4 := by omega
              clear hq
              obtain ⟨⟨Q, kq⟩, hqq⟩ : ∃ D, saidQ s r bad d lie S k 4 = D := ⟨_, rfl⟩
              rw [hqq] at HTL HLI HSR
              clear hqq
              simp only at HTL HLI
              rw [show ((4 : Nat) : Int) = 4 from rfl]
              go_wp2_with fail
              refine ⟨⟨r + 1, T, by omega, by go_num, ?_, HT.out, HD.out, ?_, HO.out, HB.out⟩, by simp [intOf]; omega⟩
              · rw [HSR.out]; exact HTL.out.congr (fun a ha => by rw [if_pos ha])
              · rw [HSR.out]; exact HLI.out
        · obtain rfl : r = 4 := by omega
          clear hlt
          obtain ⟨⟨S, k⟩, hss⟩ : ∃ D, saidR s bad d lie m 4 = D := ⟨_, rfl⟩
          have HSA := Lib.hid (show saidA bad vals lie s n = (S, k) from by unfold saidA dirA; rw [HDD.out]; exact hss)
          have HDA := Lib.hid (show dirA bad vals lie s n = (d, m) from HDD.out)
          rw [hss] at HTL HLI
          clear hss HDD
          simp only at HTL HLI
          rw [show ((4 : Nat) : Int) = 4 from rfl]
          go_wp2_with fail
          generalize wr = wq2 at *
          obtain ⟨F, hF⟩ : ∃ F, takeF s (vals s) d S = F := ⟨_, rfl⟩
          have HF := Lib.hid hF
          clear hF
          go_loopw [73] (fun iv wr => ∃ a : Nat, a ≤ 4 ∧ iv = .int .i64 a ∧ Told wr (gt + 1) T (fun a => tlF s S a 4) ∧ Blk wr gt 94 (rowV 4 T) ∧ Blk wr gd 22 (rowF .i64 4 d) ∧ Blk wr gl 83 #[.slice A lies.length c, .int .i64 ((min k lies.length : Nat) : Int)] ∧ Blk wr go 24 (rowF .i64 16 fun q => colF O s a F (q / 4) (q % 4)) ∧ Below go w wr) (fun iv _ => 4 - (intOf iv).toNat)
          case atStart => exact ⟨0, by omega, rfl, HTL.out, HT.out, HD.out, HLI.out, by rw [colF_zero]; exact HO.out, HB.out⟩
          case round =>
            clear HD HLI HT HO HB HTL
            obtain ⟨a, ha4, rfl, htl, ht, hd, hli, ho, hb⟩ := hrel
            have HTL := Lib.hid htl
            have HD := Lib.hid hd
            have HLI := Lib.hid hli
            have HT := Lib.hid ht
            have HO := Lib.hid ho
            have HB := Lib.hid hb
            clear htl hd hli ht ho hb
            by_cases ha : a < 4
            · have HF1 := Lib.hid (show F a = takeF s (vals s) d S a from by rw [HF.out])
              have hc := HO.out.cell (a * 4 + s)
              rw [rowF_at _ _ _ _ (show a * 4 + s < 16 by omega)] at hc
              have hf := HO.out.thaw (a * 4 + s)
              obtain ⟨v, hv⟩ : ∃ v, vals s = v := ⟨_, rfl⟩
              rw [hv] at HF1 ⊢
              have ha1 : (a : Int) < 4 := by omega
              go_upto_region 26 with fail
              clear hc hf
              have hset := HO.out.set (a * 4 + s) (.int .i64 v)
              rw [rowF_set (g := fun q => upd (colF O s a F) a s v (q / 4) (q % 4)) (fun j _ => by
                unfold upd
                by_cases h : j = a * 4 + s
                · rw [if_pos (by omega), if_pos h]
                · rw [if_neg (fun h1 => h (by omega)), if_neg h])] at hset
              have HD := Lib.hid (HD.out.other (p := ⟨go, a * 4 + s, none⟩) (by show _ ≠ go; omega) (.int .i64 v))
              have HLI := Lib.hid (HLI.out.other (p := ⟨go, a * 4 + s, none⟩) (by show _ ≠ go; omega) (.int .i64 v))
              have HT := Lib.hid (HT.out.other (p := ⟨go, a * 4 + s, none⟩) (by show _ ≠ go; omega) (.int .i64 v))
              have HB := Lib.hid (HB.out.setCell (p := ⟨go, a * 4 + s, none⟩) (by show _ ≤ go; omega) (.int .i64 v))
              have HTL := Lib.hid (HTL.out.grown (grown_set wr go (a * 4 + s) (.int .i64 v)) (by omega))
              have HO := Lib.hid hset
              clear hset
              generalize (wr.setCell ⟨go, a * 4 + s, none⟩ (.int .i64 v)) = w6 at *
              by_cases has : a = s
              · have h1 : ((a : Int) != (s : Int)) = false := by simp [has]
                have HFV := Lib.hid (show F a = v from by rw [HF1.out]; unfold takeF; rw [if_pos has])
                clear has
                go_wp2_with fail
                refine ⟨⟨a + 1, by omega, by go_num, HTL.out, HT.out, HD.out, HLI.out, ?_, HB.out⟩, by simp [intOf]; omega⟩
                rw [← colF_succ, HFV.out]
                exact HO.out
              · have h1 : ((a : Int) != (s : Int)) = true := by simp; omega
                have htl0 : (tlF s S a 4).length = 2 := by unfold tlF; rw [if_neg has]; exact toldF_length s a hs ha has S
                obtain ⟨b0, o0, c0, x, y, hTa, hc2, hcm, htl1, hx, hy⟩ := told_two HTL.out ha htl0
                have HFV := Lib.hid (show F a = Go.Proofs.Ytlikfikmfimfhaa.MajLaw.maj [d a, x, y] 0 from by
                  rw [HF1.out]; unfold takeF; rw [if_neg has]
                  have h := htl1
                  unfold tlF at h
                  rw [if_neg has] at h
                  rw [h])
                clear has htl0 htl1
                have hd := HD.out.cell a
                rw [rowF_at _ _ _ _ ha] at hd
                have ht := HT.out.cell a
                rw [rowV_at 4 T ha, hTa] at ht
                have hlen := HO.out.lt
                obtain ⟨z, hz⟩ : ∃ z, d a = z := ⟨_, rfl⟩
                rw [hz] at HFV hd
                clear hz
                go_upto_region 27 with fail
                have hs1 : (s : Int) < 4 := by omega
                have HD := Lib.hid HD.out.drew
                have HLI := Lib.hid HLI.out.drew
                have HT := Lib.hid HT.out.drew
                have HO := Lib.hid HO.out.drew
                have HB := Lib.hid HB.out.drew
                have HTL := Lib.hid HTL.out.drew
                have HS : w6.drew.cell? ⟨gd, a, none⟩ = some (.int .i64 z) ∧ w6.drew.cell? ⟨gt, a, none⟩ = some (.slice (some ⟨b0, o0, none⟩) 2 c0) ∧ w6.drew.cell? ⟨b0, o0, none⟩ = some (.int .i64 x) ∧ w6.drew.cell? ⟨b0, o0 + 1, none⟩ = some (.int .i64 y) := ⟨hd, ht, hx, hy⟩
                clear hd ht hx hy hlen
                refine wp_region_noPanic ?_
                refine Rg.beginR [5, 8, 10, 13, 15] (fun w' => w'.cell? ⟨gd, a, none⟩ = some (.int .i64 z) ∧ w'.cell? ⟨gt, a, none⟩ = some (.slice (some ⟨b0, o0, none⟩) 2 c0) ∧ w'.cell? ⟨b0, o0, none⟩ = some (.int .i64 x) ∧ w'.cell? ⟨b0, o0 + 1, none⟩ = some (.int .i64 y)) (by kernel_rfl) ?_
                generalize w6.drew = w1' at *
                refine Rg.takeP (i := 0) (oi := { dst := some 86, op := Op.move (Operand.tmp 0), type := 85, pos := "agree.go:83", after := #[], guard := none }) (v := ?_) rfl (by kernel_rfl) (fun _ _ _ h => h) (by rfl) ?_ ?_
                rotate_left 1
                · (intro w; go_simp; (try with_reducible rfl))
                try simp only [Act.put, List.setIfInBounds_toArray, List.set_cons_zero, List.set_cons_succ]
                refine Rg.takeP (i := 1) (oi := { dst := some 87, op := Op.move (Operand.tmp 16), type := 3, pos := "agree.go:83", after := #[], guard := none }) (v := ?_) rfl (by kernel_rfl) (fun _ _ _ h => h) (by rfl) ?_ ?_
                rotate_left 1
                · (intro w; go_simp; (try with_reducible rfl))
                try simp only [Act.put, List.setIfInBounds_toArray, List.set_cons_zero, List.set_cons_succ]
                refine Rg.takeP (i := 2) (oi := { dst := some 88, op := Op.move (Operand.tmp 1), type := 3, pos := "agree.go:83", after := #[], guard := none }) (v := ?_) rfl (by kernel_rfl) (fun _ _ _ h => h) (by rfl) ?_ ?_
                rotate_left 1
                · (intro w; go_simp; (try with_reducible rfl))
                try simp only [Act.put, List.setIfInBounds_toArray, List.set_cons_zero, List.set_cons_succ]
                refine Rg.takeP (i := 3) (oi := { dst := some 89, op := Op.move (Operand.tmp 16), type := 3, pos := "agree.go:83", after := #[], guard := none }) (v := ?_) rfl (by kernel_rfl) (fun _ _ _ h => h) (by rfl) ?_ ?_
                rotate_left 1
                · (intro w; go_simp; (try with_reducible rfl))
                try simp only [Act.put, List.setIfInBounds_toArray, List.set_cons_zero, List.set_cons_succ]
                refine Rg.takeP (i := 4) (oi := { dst := some 90, op := Op.indexAddr 22 (Operand.tmp 10) (Operand.tmp 89), type := 0, pos := "agree.go:83", after := #[{ on := 3, ground := Ground.data }], guard := none }) (v := ?_) rfl (by kernel_rfl) (fun _ _ _ h => h) (by rfl) ?_ ?_
                rotate_left 1
                · (intro w; go_simp; (try with_reducible rfl))
                try simp only [Act.put, List.setIfInBounds_toArray, List.set_cons_zero, List.set_cons_succ]
                refine Rg.takeS (i := 5) (oi := { dst := some 91, op := Op.load 3 (Operand.tmp 90), type := 3, pos := "agree.go:83", after := #[{ on := 4, ground := Ground.data }], guard := none }) (v := ?_) rfl (by kernel_rfl) (fun _ _ _ h => h) (by rfl) HS ?_ ?_
                rotate_left 1
                · (intro w hSw; (try dsimp only at hSw); (try go_split_ands); go_simp; (try with_reducible rfl))
                try simp only [Act.put, List.setIfInBounds_toArray, List.set_cons_zero, List.set_cons_succ]
                refine Rg.takeP (i := 6) (oi := { dst := some 92, op := Op.move (Operand.tmp 16), type := 3, pos := "agree.go:83", after := #[], guard := none }) (v := ?_) rfl (by kernel_rfl) (fun _ _ _ h => h) (by rfl) ?_ ?_
                rotate_left 1
                · (intro w; go_simp; (try with_reducible rfl))
                try simp only [Act.put, List.setIfInBounds_toArray, List.set_cons_zero, List.set_cons_succ]
                refine Rg.takeP (i := 7) (oi := { dst := some 93, op := Op.indexAddr 94 (Operand.tmp 11) (Operand.tmp 92), type := 0, pos := "agree.go:83", after := #[{ on := 6, ground := Ground.data }], guard := none }) (v := ?_) rfl (by kernel_rfl) (fun _ _ _ h => h) (by rfl) ?_ ?_
                rotate_left 1
                · (intro w; go_simp; (try with_reducible rfl))
                try simp only [Act.put, List.setIfInBounds_toArray, List.set_cons_zero, List.set_cons_succ]
                refine Rg.takeS (i := 8) (oi := { dst := some 94, op := Op.load 23 (Operand.tmp 93), type := 23, pos := "agree.go:83", after := #[{ on := 7, ground := Ground.data }], guard := none }) (v := ?_) rfl (by kernel_rfl) (fun _ _ _ h => h) (by rfl) HS ?_ ?_
                rotate_left 1
                · (intro w hSw; (try dsimp only at hSw); (try go_split_ands); go_simp; (try with_reducible rfl))
                try simp only [Act.put, List.setIfInBounds_toArray, List.set_cons_zero, List.set_cons_succ]
                refine Rg.takeP (i := 9) (oi := { dst := some 95, op := Op.indexAddr 23 (Operand.tmp 94) (Operand.const (Value.int IntKind.i64 0)), type := 0, pos := "agree.go:83", after := #[{ on := 8, ground := Ground.data }], guard := none }) (v := ?_) rfl (by kernel_rfl) (fun _ _ _ h => h) (by rfl) ?_ ?_
                rotate_left 1
                · (intro w; go_simp; (try with_reducible rfl))
                try simp only [Act.put, List.setIfInBounds_toArray, List.set_cons_zero, List.set_cons_succ]
                refine Rg.takeS (i := 10) (oi := { dst := some 96, op := Op.load 3 (Operand.tmp 95), type := 3, pos := "agree.go:83", after := #[{ on := 9, ground := Ground.data }], guard := none }) (v := ?_) rfl (by kernel_rfl) (fun _ _ _ h => h) (by rfl) HS ?_ ?_
                rotate_left 1
                · (intro w hSw; (try dsimp only at hSw); (try go_split_ands); go_simp; (try with_reducible rfl))
                try simp only [Act.put, List.setIfInBounds_toArray, List.set_cons_zero, List.set_cons_succ]
                refine Rg.takeP (i := 11) (oi := { dst := some 97, op := Op.move (Operand.tmp 16), type := 3, pos := "agree.go:83", after := #[], guard := none }) (v := ?_) rfl (by kernel_rfl) (fun _ _ _ h => h) (by rfl) ?_ ?_
                rotate_left 1
                · (intro w; go_simp; (try with_reducible rfl))
                try simp only [Act.put, List.setIfInBounds_toArray, List.set_cons_zero, List.set_cons_succ]
                refine Rg.takeP (i := 12) (oi := { dst := some 98, op := Op.indexAddr 94 (Operand.tmp 11) (Operand.tmp 97), type := 0, pos := "agree.go:83", after := #[{ on := 11, ground := Ground.data }], guard := none }) (v := ?_) rfl (by kernel_rfl) (fun _ _ _ h => h) (by rfl) ?_ ?_
                rotate_left 1
                · (intro w; go_simp; (try with_reducible rfl))
                try simp only [Act.put, List.setIfInBounds_toArray, List.set_cons_zero, List.set_cons_succ]
                refine Rg.takeS (i := 13) (oi := { dst := some 99, op := Op.load 23 (Operand.tmp 98), type := 23, pos := "agree.go:83", after := #[{ on := 12, ground := Ground.data }], guard := none }) (v := ?_) rfl (by kernel_rfl) (fun _ _ _ h => h) (by rfl) HS ?_ ?_
                rotate_left 1
                · (intro w hSw; (try dsimp only at hSw); (try go_split_ands); go_simp; (try with_reducible rfl))
                try simp only [Act.put, List.setIfInBounds_toArray, List.set_cons_zero, List.set_cons_succ]
                refine Rg.takeP (i := 14) (oi := { dst := some 100, op := Op.indexAddr 23 (Operand.tmp 99) (Operand.const (Value.int IntKind.i64 1)), type := 0, pos := "agree.go:83", after := #[{ on := 13, ground := Ground.data }], guard := none }) (v := ?_) rfl (by kernel_rfl) (fun _ _ _ h => h) (by rfl) ?_ ?_
                rotate_left 1
                · (intro w; go_simp; (try with_reducible rfl))
                try simp only [Act.put, List.setIfInBounds_toArray, List.set_cons_zero, List.set_cons_succ]
                refine Rg.takeS (i := 15) (oi := { dst := some 101, op := Op.load 3 (Operand.tmp 100), type := 3, pos := "agree.go:83", after := #[{ on := 14, ground := Ground.data }], guard := none }) (v := ?_) rfl (by kernel_rfl) (fun _ _ _ h => h) (by rfl) HS ?_ ?_
                rotate_left 1
                · (intro w hSw; (try dsimp only at hSw); (try go_split_ands); go_simp; (try with_reducible rfl))
                try simp only [Act.put, List.setIfInBounds_toArray, List.set_cons_zero, List.set_cons_succ]
                refine Rg.takeP (i := 17) (oi := { dst := some 103, op := Op.nilCheck (Operand.tmp 86), type := 0, pos := "agree.go:83", after := #[{ on := 0, ground := Ground.data }], guard := none }) (v := ?_) rfl (by kernel_rfl) (fun _ _ _ h => h) (by rfl) ?_ ?_
                rotate_left 1
                · (intro w; go_simp; (try with_reducible rfl))
                try simp only [Act.put, List.setIfInBounds_toArray, List.set_cons_zero, List.set_cons_succ]
                refine Rg.takeP (i := 18) (oi := { dst := some 104, op := Op.indexAddr 24 (Operand.tmp 103) (Operand.tmp 87), type := 0, pos := "agree.go:83", after := #[{ on := 17, ground := Ground.data }, { on := 1, ground := Ground.data }], guard := none }) (v := ?_) rfl (by kernel_rfl) (fun _ _ _ h => h) (by rfl) ?_ ?_
                rotate_left 1
                · (intro w; go_simp; (try with_reducible rfl))
                try simp only [Act.put, List.setIfInBounds_toArray, List.set_cons_zero, List.set_cons_succ]
                refine Rg.oneR (i := 16) (oi := { dst := some 102, op := Op.call { callee := Callee.value (Operand.func 59), args := #[Operand.tmp 91, Operand.tmp 96, Operand.tmp 101], argTypes := #[3, 3, 3] }, type := 3, pos := "agree.go:83", after := #[{ on := 5, ground := Ground.data }, { on := 10, ground := Ground.data }, { on := 15, ground := Ground.data }], guard := none }) rfl (by kernel_rfl) ?_
                refine Rg.stepF ?_ ?_
                · kernel_rfl
                intro K hK
                rw [if_pos (by rfl)]
                go_simp
                go_at_call 59
                refine (Go.Proofs.Ytlikfikmfimfhaa.Mj.decide_any z x y w1').mono ?_
                rintro e w5 ⟨rfl, hb5⟩
                have HD := Lib.hid (HD.out.below hb5 HD.out.lt)
                have HLI := Lib.hid (HLI.out.below hb5 HLI.out.lt)
                have HT := Lib.hid (HT.out.below hb5 HT.out.lt)
                have HTL := Lib.hid (HTL.out.grown (g := gt) (grown_of_below hb5) (by omega))
                have HB := Lib.hid (onward HB.out HGW.out hb5)
                have HO := Lib.hid (HO.out.below hb5 HO.out.lt)
                clear hb5 HS
                rw [← HFV.out]
                go_wp2_with fail
                have hc := HO.out.cell (a * 4 + s)
                rw [rowF_at _ _ _ _ (show a * 4 + s < 16 by omega)] at hc
                have hf := HO.out.thaw (a * 4 + s)
                refine hK.out _ _ ?_
                clear hK K
                try simp only [Act.put, List.setIfInBounds_toArray, List.set_cons_zero, List.set_cons_succ]
                refine Rg.takeP (i := 19) (oi := { dst := some 105, op := Op.indexAddr 22 (Operand.tmp 104) (Operand.tmp 88), type := 0, pos := "agree.go:83", after := #[{ on := 18, ground := Ground.data }, { on := 2, ground := Ground.data }, { on := 0, ground := Ground.phase }, { on := 1, ground := Ground.phase }, { on := 2, ground := Ground.phase }, { on := 3, ground := Ground.phase }, { on := 4, ground := Ground.phase }, { on := 5, ground := Ground.phase }, { on := 6, ground := Ground.phase }, { on := 7, ground := Ground.phase }, { on := 8, ground := Ground.phase }, { on := 9, ground := Ground.phase }, { on := 10, ground := Ground.phase }, { on := 11, ground := Ground.phase }, { on := 12, ground := Ground.phase }, { on := 13, ground := Ground.phase }, { on := 14, ground := Ground.phase }, { on := 15, ground := Ground.phase }, { on := 16, ground := Ground.phase }], guard := none }) (v := ?_) rfl (by kernel_rfl) (fun _ _ _ h => h) (by rfl) ?_ ?_
                rotate_left 1
                · (intro w; go_simp; (try with_reducible rfl))
                try simp only [Act.put, List.setIfInBounds_toArray, List.set_cons_zero, List.set_cons_succ]
                refine Rg.oneR (i := 20) (oi := { dst := none, op := Op.store 3 (Operand.tmp 105) (Operand.tmp 102), type := 0, pos := "agree.go:83", after := #[{ on := 19, ground := Ground.data }, { on := 16, ground := Ground.data }, { on := 16, ground := Ground.chain }, { on := 0, ground := Ground.phase }, { on := 1, ground := Ground.phase }, { on := 2, ground := Ground.phase }, { on := 3, ground := Ground.phase }, { on := 4, ground := Ground.phase }, { on := 5, ground := Ground.phase }, { on := 6, ground := Ground.phase }, { on := 7, ground := Ground.phase }, { on := 8, ground := Ground.phase }, { on := 9, ground := Ground.phase }, { on := 10, ground := Ground.phase }, { on := 11, ground := Ground.phase }, { on := 12, ground := Ground.phase }, { on := 13, ground := Ground.phase }, { on := 14, ground := Ground.phase }, { on := 15, ground := Ground.phase }, { on := 16, ground := Ground.phase }], guard := none }) rfl (by kernel_rfl) ?_
                refine Rg.stepF ?_ ?_
                · kernel_rfl
                intro K hK
                go_simp
                refine hK.out _ _ ?_
                clear hK K
                try simp only [Act.put, List.setIfInBounds_toArray, List.set_cons_zero, List.set_cons_succ]
                refine Rg.doneR (by kernel_rfl) ?_ _
                refine NoPanic.normal ?_
                clear hc hf
                have hset := HO.out.set (a * 4 + s) (.int .i64 (F a))
                rw [rowF_set (g := fun q => upd (upd (colF O s a F) a s v) a s (F a) (q / 4) (q % 4)) (fun j _ => by
                  unfold upd
                  by_cases h : j = a * 4 + s
                  · rw [if_pos (by omega), if_pos h]
                  · rw [if_neg (fun h1 => h (by omega)), if_neg h])] at hset
                have HD := Lib.hid (HD.out.other (p := ⟨go, a * 4 + s, none⟩) (by show _ ≠ go; omega) (.int .i64 (F a)))
                have HLI := Lib.hid (HLI.out.other (p := ⟨go, a * 4 + s, none⟩) (by show _ ≠ go; omega) (.int .i64 (F a)))
                have HT := Lib.hid (HT.out.other (p := ⟨go, a * 4 + s, none⟩) (by show _ ≠ go; omega) (.int .i64 (F a)))
                have HB := Lib.hid (HB.out.setCell (p := ⟨go, a * 4 + s, none⟩) (by show _ ≤ go; omega) (.int .i64 (F a)))
                have HTL := Lib.hid (HTL.out.grown (grown_set w5 go (a * 4 + s) (.int .i64 (F a))) (by omega))
                have HO := Lib.hid hset
                clear hset
                generalize (w5.setCell ⟨go, a * 4 + s, none⟩ (.int .i64 (F a))) = w7 at *
                go_wp2_with fail
                refine ⟨⟨a + 1, by omega, by go_num, HTL.out, HT.out, HD.out, HLI.out, ?_, HB.out⟩, by simp [intOf]; omega⟩
                rw [← colF_succ, ← upd_upd _ a s v (F a)]
                exact HO.out
            · obtain rfl : a = 4 := by omega
              clear ha
              rw [show ((4 : Nat) : Int) = 4 from rfl]
              go_wp2_with fail
              refine bodyPost_end (results_none rfl _ _ _) rfl ?_
              refine ⟨rfl, ?_, ?_, HB.out⟩
              · rw [HSA.out, HDA.out]; simp only; rw [HF.out]; exact HO.out
              · rw [HSA.out]; exact HLI.out
end Go.Proofs.Ytlikfikmfimfhaa.Av
