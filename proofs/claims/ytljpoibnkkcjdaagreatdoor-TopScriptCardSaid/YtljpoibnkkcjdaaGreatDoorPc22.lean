import Derived.Test.YtljpoibnkkcjdaaGreatDoorPc21
set_option linter.unusedVariables false
set_option linter.unusedSimpArgs false
namespace Go.Proofs.YtljpoibnkkcjdaaGreatDoor
namespace Nd
open Go.RowKit Mem Rws Flat
def AdoptAs (w w':World) (gn:Nat) (o:Nat→Option Ms.Msg) (f:Nat→Value) (S:Value) (e:Ending):Prop:=
 e=.returned (.tuple #[])∧Blk w' gn 39 (row 74 (nodeW (adoptF o f) S))∧w.grownBy w' (some gn)
set_option maxRecDepth 100000 in
set_option maxHeartbeats 4000000 in
theorem adopt_any (f:Nat→Value) (hf:∀i,i<73→okT (nodeT i) (f i)) (s:Nat→Value) (o:Nat→Option Ms.Msg) (ho:∀i m,o i=some m→m.zs.length=24) (S:Value) (gn:Nat) (w:World) (hn:Blk w gn 39 (row 74 (nodeW f S))) (hs:∀i:Nat,i<4→HeardC w w.heap.size (o i) (s i)):
  Calls Tryz.prog 42 #[.pointer (some ⟨gn,0,none⟩),.agg (row 4 s)] w fun e w'=>AdoptAs w w' gn o f S e:=by
 have HS0:=Lib.hid hs
 have HOL:=Lib.hid ho
 have HF:=Lib.hid hf
 have HN:=Lib.hid hn
 have hgn:=hn.lt
 clear hs ho hf hn
 go_enter Tryz.func42,Tryz.ntmps42
 go_upto_region 1 with fail
 have HH:=Lib.hid (Blk.fresh w 98 (row 4 s))
 have HB:=Lib.hid ((Below.refl w.heap.size w).alloc (Nat.le_refl _) (.cells (row 4 s) 98))
 generalize(w.alloc (.cells (row 4 s) 98))=w1 at*
 obtain⟨gh,hgh⟩:∃g,w.heap.size=g:=⟨_,rfl⟩
 have HGH:=Lib.hid hgh
 rw [hgh]at HH hgn ⊢
 clear hgh
 obtain⟨gl,hgl⟩:∃g,gh+1=g:=⟨_,rfl⟩
 have HGN:=Lib.hid (show gn<gh∧gh<gl∧gl≤w1.heap.size by have:=HH.out.lt;omega)
 have HSW:=Lib.hid (fun i hi=>((HS0.out i hi).below HB.out).more (show w.heap.size≤gl by have:=HGH.out;omega))
 clear hgl
 have HRS:=Lib.hid (fun i (hi:i<4)=>show(row 4 s)[i]?=some (s i)from row_at hi)
 generalize row 4 s=R4 at*
 go_wp2_with fail
 go_loopw [6] (fun iv wr=>∃i:Nat,i≤4∧iv=.int .i64 (i:Int)∧NoPair o i (i+1)∧Below gl w1 wr) (fun iv _=>4-(intOf iv).toNat)
 case atStart=>exact⟨0,by omega,rfl,NoPair.start o,Below.refl _ _⟩
 case round=>
  obtain⟨i,hi,rfl,hnp,hbw⟩:=hrel
  have HNP:=Lib.hid hnp
  have HBW:=Lib.hid hbw
  clear hnp hbw
  by_cases hlt:i<4
  ·
   have hi1:(i:Int)<4:=by omega
   have hi0:(0:Int)≤(i:Int):=by omega
   go_wp2_with fail
   generalize wr=wq at*
   go_loopw [5] (fun kv wr=>∃k:Nat,i<k∧k≤4∧kv=.int .i64 (k:Int)∧NoPair o i k∧Below gl w1 wr) (fun kv _=>4-(intOf kv).toNat)
   case atStart=>exact⟨i+1,by omega,by omega,by go_num,HNP.out,HBW.out⟩
   case round=>
    clear HNP HBW
    obtain⟨k,hik,hk,rfl,hnp,hbw⟩:=hrel
    have HNP:=Lib.hid hnp
    have HBW:=Lib.hid hbw
    clear hnp hbw
    by_cases hlk:k<4
    ·
     have hk1:(k:Int)<4:=by omega
     have hk0:(0:Int)≤(k:Int):=by omega
     have xi:=((HH.out.below HBW.out HGN.out.2.1).cell i).trans (HRS.out i hlt)
     have xk:=((HH.out.below HBW.out HGN.out.2.1).cell k).trans (HRS.out k hlk)
     have hsi:=(HSW.out i hlt).below HBW.out
     have hsk:=(HSW.out k hlk).below HBW.out
     have hq0:∀w,(binOp .eql 70 (.slice none 0 0) (.slice none 0 0)).run Tryz.prog w=.ok (.bool true) w:=fun w=>run_eql_nil_slice w 70 3 none 0 0 0 0 Tryz.underlying70
     cases hoi:o i with
     |none=>
      rw [hoi]at hsi
      rw [show s i=.slice none 0 0 from hsi]at xi
      have HPN:=Lib.hid (HNP.out.step (pair_none1 (k:=k) hoi))
      have hqi:=hq0
      clear hoi hsi hsk xk
      have HS:=xi
      have HBW:=Lib.hid HBW.out.drew
      go_upto_region 7 with fail
      refine wp_region_noPanic ?_
      refine Rg.beginR [2] (fun w'=> w'.cell? ⟨gh,i,none⟩=some (.slice none 0 0)) (by kernel_rfl) ?_
      have HS:=(show wr.drew.cell? ⟨gh,i,none⟩=some (.slice none 0 0)from HS)
      have hV0:w1.heap.size≤wr.drew.heap.size:=HBW.out.size
      generalize wr.drew=V0 at*
      refine Rg.tp 0 ⟨some 15,.move (.tmp 4),_,_,_,none⟩ (v:=?_) rfl ?_ ?_
      rotate_left 1
      · (intro w;go_simp;(try with_reducible rfl))
      try simp only [Rg.lp]
      refine Rg.tp 1 ⟨some 16,.indexAddr 98 (.tmp 3) (.tmp 15),_,_,_,none⟩ (v:=?_) rfl ?_ ?_
      rotate_left 1
      · (intro w;go_simp;(try with_reducible rfl))
      try simp only [Rg.lp]
      refine Rg.stp_s 2 ?_ HS (hy:=?_) (h:=?_)
      rotate_left 1
      · (intro w hSw;(try dsimp only at hSw);(try go_split_ands);go_simp;(try with_reducible rfl))
      try simp only [Rg.lp]
      refine Rg.tp 3 ⟨some 18,.binOp .eql 70 (.tmp 17) (.const (.slice none 0 0)) 70,_,_,_,none⟩ (v:=?_) rfl ?_ ?_
      rotate_left 1
      · (intro w;have hq:=hqi w;go_simp;(try with_reducible rfl))
      try simp only [Rg.lp]
      refine Rg.tp 4 ⟨some 19,.move (.tmp 18),_,_,_,none⟩ (v:=?_) rfl ?_ ?_
      rotate_left 1
      · (intro w;go_simp;(try with_reducible rfl))
      try simp only [Rg.lp]
      refine Rg.stp_n 5 ?_
      try simp only [Rg.lp]
      refine Rg.stp_n 6 ?_
      try simp only [Rg.lp]
      refine Rg.stp_n 7 ?_
      try simp only [Rg.lp]
      refine Rg.stp_n 8 ?_
      try simp only [Rg.lp]
      refine Rg.tp 9 ⟨some 24,.pick (.tmp 19) (.const (.bool true)) (.tmp 23),_,_,_,none⟩ (v:=?_) rfl ?_ ?_
      rotate_left 1
      · (intro w;go_simp;(try with_reducible rfl))
      try simp only [Rg.lp]
      refine Rg.tp 10 ⟨some 25,.move (.tmp 24),_,_,_,none⟩ (v:=?_) rfl ?_ ?_
      rotate_left 1
      · (intro w;go_simp;(try with_reducible rfl))
      try simp only [Rg.lp]
      refine Rg.stp_n 11 ?_
      try simp only [Rg.lp]
      refine Rg.stp_n 12 ?_
      try simp only [Rg.lp]
      refine Rg.stp_n 13 ?_
      try simp only [Rg.lp]
      refine Rg.stp_n 14 ?_
      try simp only [Rg.lp]
      refine Rg.stp_n 15 ?_
      try simp only [Rg.lp]
      refine Rg.stp_n 16 ?_
      try simp only [Rg.lp]
      refine Rg.stp_n 17 ?_
      try simp only [Rg.lp]
      refine Rg.stp_n 18 ?_
      try simp only [Rg.lp]
      refine Rg.tp 19 ⟨some 34,.pick (.tmp 25) (.const (.bool true)) (.tmp 33),_,_,_,none⟩ (v:=?_) rfl ?_ ?_
      rotate_left 1
      · (intro w;go_simp;(try with_reducible rfl))
      try simp only [Rg.lp]
      refine Rg.doneR (by kernel_rfl) ?_ _
      refine NoPanic.normal ?_
      clear HS
      go_wp2_with fail
      exact⟨⟨k+1,by omega,by omega,by go_num,HPN.out,HBW.out⟩,by simp [intOf];omega⟩
     |some A=>
      have hla:=HOL.out i A hoi
      rw [hoi]at hsi
      obtain⟨aI,cI,hsv,hri,hci⟩:=hsi
      rw [hla]at hsv hri hci
      rw [hsv]at xi
      have hqi:∀w,(binOp .eql 70 (.slice (some aI) 24 cI) (.slice none 0 0)).run Tryz.prog w=.ok (.bool false) w:=fun w=>Lib.run_eql_slice_nil w 70 3 (some aI) 24 cI 0 0 Tryz.underlying70
      cases hok:o k with
      |none=>
       rw [hok]at hsk
       rw [show s k=.slice none 0 0 from hsk]at xk
       have HPN:=Lib.hid (HNP.out.step (pair_none2 (i:=i) hok))
       have hqk:=hq0
       clear hoi hok hsk hsv hri hci
       have HS:=And.intro xi xk
       have HBW:=Lib.hid HBW.out.drew
       go_upto_region 7 with fail
       refine wp_region_noPanic ?_
       refine Rg.beginR [2,7] (fun w'=> w'.cell? ⟨gh,i,none⟩=some (.slice (some aI) 24 cI)∧ w'.cell? ⟨gh,k,none⟩=some (.slice none 0 0)) (by kernel_rfl) ?_
       have HS:=(show wr.drew.cell? ⟨gh,i,none⟩=some (.slice (some aI) 24 cI)∧ wr.drew.cell? ⟨gh,k,none⟩=some (.slice none 0 0)from HS)
       have hV0:w1.heap.size≤wr.drew.heap.size:=HBW.out.size
       generalize wr.drew=V0 at*
       refine Rg.tp 0 ⟨some 15,.move (.tmp 4),_,_,_,none⟩ (v:=?_) rfl ?_ ?_
       rotate_left 1
       · (intro w;go_simp;(try with_reducible rfl))
       try simp only [Rg.lp]
       refine Rg.tp 1 ⟨some 16,.indexAddr 98 (.tmp 3) (.tmp 15),_,_,_,none⟩ (v:=?_) rfl ?_ ?_
       rotate_left 1
       · (intro w;go_simp;(try with_reducible rfl))
       try simp only [Rg.lp]
       refine Rg.stp_s 2 ?_ HS (hy:=?_) (h:=?_)
       rotate_left 1
       · (intro w hSw;(try dsimp only at hSw);(try go_split_ands);go_simp;(try with_reducible rfl))
       try simp only [Rg.lp]
       refine Rg.tp 3 ⟨some 18,.binOp .eql 70 (.tmp 17) (.const (.slice none 0 0)) 70,_,_,_,none⟩ (v:=?_) rfl ?_ ?_
       rotate_left 1
       · (intro w;have hq:=hqi w;go_simp;(try with_reducible rfl))
       try simp only [Rg.lp]
       refine Rg.tp 4 ⟨some 19,.move (.tmp 18),_,_,_,none⟩ (v:=?_) rfl ?_ ?_
       rotate_left 1
       · (intro w;go_simp;(try with_reducible rfl))
       try simp only [Rg.lp]
       refine Rg.tp 5 ⟨some 20,.move (.tmp 5),_,_,_,some (4,false)⟩ (v:=?_) rfl ?_ ?_
       rotate_left 1
       · (intro w;go_simp;(try with_reducible rfl))
       try simp only [Rg.lp]
       refine Rg.tp 6 ⟨some 21,.indexAddr 98 (.tmp 3) (.tmp 20),_,_,_,some (4,false)⟩ (v:=?_) rfl ?_ ?_
       rotate_left 1
       · (intro w;go_simp;(try with_reducible rfl))
       try simp only [Rg.lp]
       refine Rg.stp_s 7 ?_ HS (hy:=?_) (h:=?_)
       rotate_left 1
       · (intro w hSw;(try dsimp only at hSw);(try go_split_ands);go_simp;(try with_reducible rfl))
       try simp only [Rg.lp]
       refine Rg.tp 8 ⟨some 23,.binOp .eql 70 (.tmp 22) (.const (.slice none 0 0)) 70,_,_,_,some (4,false)⟩ (v:=?_) rfl ?_ ?_
       rotate_left 1
       · (intro w;have hq:=hqk w;go_simp;(try with_reducible rfl))
       try simp only [Rg.lp]
       refine Rg.tp 9 ⟨some 24,.pick (.tmp 19) (.const (.bool true)) (.tmp 23),_,_,_,none⟩ (v:=?_) rfl ?_ ?_
       rotate_left 1
       · (intro w;go_simp;(try with_reducible rfl))
       try simp only [Rg.lp]
       refine Rg.tp 10 ⟨some 25,.move (.tmp 24),_,_,_,none⟩ (v:=?_) rfl ?_ ?_
       rotate_left 1
       · (intro w;go_simp;(try with_reducible rfl))
       try simp only [Rg.lp]
       refine Rg.stp_n 11 ?_
       try simp only [Rg.lp]
       refine Rg.stp_n 12 ?_
       try simp only [Rg.lp]
       refine Rg.stp_n 13 ?_
       try simp only [Rg.lp]
       refine Rg.stp_n 14 ?_
       try simp only [Rg.lp]
       refine Rg.stp_n 15 ?_
       try simp only [Rg.lp]
       refine Rg.stp_n 16 ?_
       try simp only [Rg.lp]
       refine Rg.stp_n 17 ?_
       try simp only [Rg.lp]
       refine Rg.stp_n 18 ?_
       try simp only [Rg.lp]
       refine Rg.tp 19 ⟨some 34,.pick (.tmp 25) (.const (.bool true)) (.tmp 33),_,_,_,none⟩ (v:=?_) rfl ?_ ?_
       rotate_left 1
       · (intro w;go_simp;(try with_reducible rfl))
       try simp only [Rg.lp]
       refine Rg.doneR (by kernel_rfl) ?_ _
       refine NoPanic.normal ?_
       clear HS
       go_wp2_with fail
       exact⟨⟨k+1,by omega,by omega,by go_num,HPN.out,HBW.out⟩,by simp [intOf];omega⟩
      |some Bm=>
       have hlb:=HOL.out k Bm hok
       rw [hok]at hsk
       obtain⟨aK,cK,hsv2,hrk,hck⟩:=hsk
       rw [hlb]at hsv2 hrk hck
       rw [hsv2]at xk
       have hqk:∀w,(binOp .eql 70 (.slice (some aK) 24 cK) (.slice none 0 0)).run Tryz.prog w=.ok (.bool false) w:=fun w=>Lib.run_eql_slice_nil w 70 3 (some aK) 24 cK 0 0 Tryz.underlying70
       have HRI:=Lib.hid hri
       have HRK:=Lib.hid hrk
       have HXI:=Lib.hid hsv
       have HCI:=Lib.hid hci
       have HLA:=Lib.hid hla
       have CS:=Lib.hid (fun v (h1:Rd v gl 1 (some aI) 24 (Ms.intsV A.zs)) (h2:Rd v gl 1 (some aK) 24 (Ms.intsV Bm.zs))=>show Calls Tryz.prog 61 #[.slice (some aI) 24 cI,.slice (some aK) 24 cK] v fun e w'=>e=.returned (.bool (decide (A.zs=Bm.zs)))∧Below v.heap.size v w' from by
        have c:=Ms.same_eq (some aI) (some aK) cI cK A.zs Bm.zs (hlb.trans hla.symm) gl v (by omega) (by rw [hla];exact h1) (by rw [hla];exact h2)
        rw [hla]at c
        exact c)
       have HPY:=Lib.hid (fun h:A.zs=Bm.zs=>HNP.out.found hik hlk (pair_some hoi hok h))
       have HPX:=Lib.hid (fun h:¬A.zs=Bm.zs=>HNP.out.step (pair_other hoi hok h))
       clear hoi hok hsv hsv2 hri hrk hla hlb
       have HS:=And.intro xi xk
       have HBW:=Lib.hid HBW.out.drew
       go_upto_region 7 with fail
       refine wp_region_noPanic ?_
       refine Rg.beginR [2,7,13,16] (fun w'=> w'.cell? ⟨gh,i,none⟩=some (.slice (some aI) 24 cI)∧ w'.cell? ⟨gh,k,none⟩=some (.slice (some aK) 24 cK)) (by kernel_rfl) ?_
       have HS:=(show wr.drew.cell? ⟨gh,i,none⟩=some (.slice (some aI) 24 cI)∧ wr.drew.cell? ⟨gh,k,none⟩=some (.slice (some aK) 24 cK)from HS)
       have HRI:=Lib.hid (show Rd wr.drew gl 1 (some aI) 24 (Ms.intsV A.zs)from HRI.out)
       have HRK:=Lib.hid (show Rd wr.drew gl 1 (some aK) 24 (Ms.intsV Bm.zs)from HRK.out)
       have hV0:w1.heap.size≤wr.drew.heap.size:=HBW.out.size
       generalize wr.drew=V0 at*
       refine Rg.tp 0 ⟨some 15,.move (.tmp 4),_,_,_,none⟩ (v:=?_) rfl ?_ ?_
       rotate_left 1
       · (intro w;go_simp;(try with_reducible rfl))
       try simp only [Rg.lp]
       refine Rg.tp 1 ⟨some 16,.indexAddr 98 (.tmp 3) (.tmp 15),_,_,_,none⟩ (v:=?_) rfl ?_ ?_
       rotate_left 1
       · (intro w;go_simp;(try with_reducible rfl))
       try simp only [Rg.lp]
       refine Rg.stp_s 2 ?_ HS (hy:=?_) (h:=?_)
       rotate_left 1
       · (intro w hSw;(try dsimp only at hSw);(try go_split_ands);go_simp;(try with_reducible rfl))
       try simp only [Rg.lp]
       refine Rg.tp 3 ⟨some 18,.binOp .eql 70 (.tmp 17) (.const (.slice none 0 0)) 70,_,_,_,none⟩ (v:=?_) rfl ?_ ?_
       rotate_left 1
       · (intro w;have hq:=hqi w;go_simp;(try with_reducible rfl))
       try simp only [Rg.lp]
       refine Rg.tp 4 ⟨some 19,.move (.tmp 18),_,_,_,none⟩ (v:=?_) rfl ?_ ?_
       rotate_left 1
       · (intro w;go_simp;(try with_reducible rfl))
       try simp only [Rg.lp]
       refine Rg.tp 5 ⟨some 20,.move (.tmp 5),_,_,_,some (4,false)⟩ (v:=?_) rfl ?_ ?_
       rotate_left 1
       · (intro w;go_simp;(try with_reducible rfl))
       try simp only [Rg.lp]
       refine Rg.tp 6 ⟨some 21,.indexAddr 98 (.tmp 3) (.tmp 20),_,_,_,some (4,false)⟩ (v:=?_) rfl ?_ ?_
       rotate_left 1
       · (intro w;go_simp;(try with_reducible rfl))
       try simp only [Rg.lp]
       refine Rg.stp_s 7 ?_ HS (hy:=?_) (h:=?_)
       rotate_left 1
       · (intro w hSw;(try dsimp only at hSw);(try go_split_ands);go_simp;(try with_reducible rfl))
       try simp only [Rg.lp]
       refine Rg.tp 8 ⟨some 23,.binOp .eql 70 (.tmp 22) (.const (.slice none 0 0)) 70,_,_,_,some (4,false)⟩ (v:=?_) rfl ?_ ?_
       rotate_left 1
       · (intro w;have hq:=hqk w;go_simp;(try with_reducible rfl))
       try simp only [Rg.lp]
       refine Rg.tp 9 ⟨some 24,.pick (.tmp 19) (.const (.bool true)) (.tmp 23),_,_,_,none⟩ (v:=?_) rfl ?_ ?_
       rotate_left 1
       · (intro w;go_simp;(try with_reducible rfl))
       try simp only [Rg.lp]
       refine Rg.tp 10 ⟨some 25,.move (.tmp 24),_,_,_,none⟩ (v:=?_) rfl ?_ ?_
       rotate_left 1
       · (intro w;go_simp;(try with_reducible rfl))
       try simp only [Rg.lp]
       refine Rg.tp 11 ⟨some 26,.move (.tmp 4),_,_,_,some (10,false)⟩ (v:=?_) rfl ?_ ?_
       rotate_left 1
       · (intro w;go_simp;(try with_reducible rfl))
       try simp only [Rg.lp]
       refine Rg.tp 12 ⟨some 27,.indexAddr 98 (.tmp 3) (.tmp 26),_,_,_,some (10,false)⟩ (v:=?_) rfl ?_ ?_
       rotate_left 1
       · (intro w;go_simp;(try with_reducible rfl))
       try simp only [Rg.lp]
       refine Rg.stp_s 13 ?_ HS (hy:=?_) (h:=?_)
       rotate_left 1
       · (intro w hSw;(try dsimp only at hSw);(try go_split_ands);go_simp;(try with_reducible rfl))
       try simp only [Rg.lp]
       refine Rg.tp 14 ⟨some 29,.move (.tmp 5),_,_,_,some (10,false)⟩ (v:=?_) rfl ?_ ?_
       rotate_left 1
       · (intro w;go_simp;(try with_reducible rfl))
       try simp only [Rg.lp]
       refine Rg.tp 15 ⟨some 30,.indexAddr 98 (.tmp 3) (.tmp 29),_,_,_,some (10,false)⟩ (v:=?_) rfl ?_ ?_
       rotate_left 1
       · (intro w;go_simp;(try with_reducible rfl))
       try simp only [Rg.lp]
       refine Rg.stp_s 16 ?_ HS (hy:=?_) (h:=?_)
       rotate_left 1
       · (intro w hSw;(try dsimp only at hSw);(try go_split_ands);go_simp;(try with_reducible rfl))
       try simp only [Rg.lp]
       refine Rg.stp_o 17 ?_
       refine Rg.stepF ?_ ?_
       · kernel_rfl
       intro K hK
       rw [if_pos (by rfl)]
       go_simp
       go_at_call 61
       refine(CS.out V0 HRI.out HRK.out).mono ?_
       rintro e V1 ⟨rfl,hb⟩
       have HBW:=Lib.hid (onward HBW.out HGN.out.2.2 hb)
       have HRI1:=Lib.hid (HRI.out.below (hb.mono (Nat.le_trans HGN.out.2.2 hV0)))
       clear hb HS
       have HS:=trivial
       go_wp2_with fail
       refine hK.out _ _ ?_
       clear hK K
       try simp only [Rg.lp]
       refine Rg.tp 18 ⟨some 33,.unOp UnOp.not 4 (.tmp 32),_,_,_,some (10,false)⟩ (v:=?_) rfl ?_ ?_
       rotate_left 1
       · (intro w;go_simp;(try with_reducible rfl))
       try simp only [Rg.lp]
       refine Rg.tp 19 ⟨some 34,.pick (.tmp 25) (.const (.bool true)) (.tmp 33),_,_,_,none⟩ (v:=?_) rfl ?_ ?_
       rotate_left 1
       · (intro w;go_simp;(try with_reducible rfl))
       try simp only [Rg.lp]
       refine Rg.doneR (by kernel_rfl) ?_ _
       refine NoPanic.normal ?_
       clear HS
       by_cases hze:A.zs=Bm.zs
       ·
        have HPO:=Lib.hid (HPY.out hze)
        have hdz:decide (A.zs=Bm.zs)=true:=decide_eq_true hze
        clear HPY HPX hze
        rw [hdz]
        have xi:=((HH.out.below HBW.out HGN.out.2.1).cell i).trans (HRS.out i hlt)
        rw [HXI.out]at xi
        have HBT:=Lib.hid (HB.out.trans (HBW.out.mono (show w.heap.size≤gl by have:=HGH.out;have:=HGN.out;omega)))
        have HN1:=Lib.hid (HN.out.below HBT.out (show gn<w.heap.size by rw [HGH.out];exact hgn))
        have hglv:gl≤V1.heap.size:=Nat.le_trans HGN.out.2.2 HBW.out.size
        go_wp2_with fail
        refine(unpack_any f A.zs HLA.out (some aI) cI HCI.out S gn _ HF.out HN1.out (by rw [HLA.out];exact HRI1.out.more hglv)).mono ?_
        rintro e V2 ⟨rfl,hn2,hg2⟩
        have HN2:=Lib.hid hn2
        have HG2:=Lib.hid (gr_trans (gr_below (row:=some gn) HBT.out) hg2)
        have HAF:=Lib.hid (show adoptF o f=if unpackOk A.zs=true then unpackF A.zs f else f by unfold adoptF;rw [HPO.out];rfl)
        clear hn2 hg2
        go_wp2_with fail
        refine bodyPost_ret (results_none rfl _ _ _) rfl ?_
        exact⟨rfl,by rw [HAF.out];exact HN2.out,HG2.out⟩
       ·
        have HPO:=Lib.hid (HPX.out hze)
        have hdz:decide (A.zs=Bm.zs)=false:=decide_eq_false hze
        clear HPY HPX hze
        rw [hdz]
        go_wp2_with fail
        exact⟨⟨k+1,by omega,by omega,by go_num,HPO.out,HBW.out⟩,by simp [intOf];omega⟩
    ·
     obtain rfl:k=4:=by omega
     clear hlk
     go_wp2_with fail
     exact⟨⟨i+1,by omega,by go_num,HNP.out.next,HBW.out⟩,by simp [intOf];omega⟩
  ·
   obtain rfl:i=4:=by omega
   clear hlt
   have HAF:=Lib.hid (show adoptF o f=f by unfold adoptF;rw [HNP.out.all (Nat.le_refl _)])
   have HBT:=Lib.hid (HB.out.trans (HBW.out.mono (show w.heap.size≤gl by have:=HGH.out;have:=HGN.out;omega)))
   have HNF:=Lib.hid (HN.out.below HBT.out (show gn<w.heap.size by rw [HGH.out];exact hgn))
   go_wp2_with fail
   refine bodyPost_end (results_none rfl _ _ _) rfl ?_
   exact⟨rfl,by rw [HAF.out];exact HNF.out,gr_below HBT.out⟩
end Nd
end Go.Proofs.YtljpoibnkkcjdaaGreatDoor
