import Derived.Test.YtljpoibnkkcjdaaGreatDoorPc6
set_option linter.unusedVariables false
set_option linter.unusedSimpArgs false
namespace Go.Proofs.YtljpoibnkkcjdaaGreatDoor
namespace Cl
open Go.ChangeShapes Go.WideShapes Go.ChangeAt Go.RowKit Mem Rws Nd
structure Lie where
 p:Int
 t:Int
 bs:List Nat
instance:Inhabited Lie:=⟨⟨0,0,[]⟩⟩
def lieL (l:Lie) (A:Option Addr) (c:Nat):List Value:=[.int .i64 l.p,.int .i64 l.t,.slice A l.bs.length c]
def LiesAt (w:World) (B:Nat) (A:Option Addr) (ls:List Lie):Prop:=
 ∃xs,Rd w B 3 A ls.length xs∧∀i l,ls[i]?=some l→∃a c,(xs.drop (i*3)).take 3=lieL l a c∧(a=none→c=0)∧l.bs.length≤c∧(l.bs.length≤140737488351232∧c≤9223372036854775807)∧(∀x∈l.bs,x<256)∧Rd w B 1 a l.bs.length (Sm.bytesV l.bs)
theorem LiesAt.keep {w w':World} {B:Nat} {A:Option Addr} {ls:List Lie} (h:LiesAt w B A ls) (hk:∀b o,b<B→ w'.cell? ⟨b,o,none⟩= w.cell? ⟨b,o,none⟩):LiesAt w' B A ls:=by
 obtain⟨xs,hr,hx⟩:=h
 refine⟨xs,hr.keep hk,fun i l hl=>?_⟩
 obtain⟨a,c,h1,h2,h3,h4,h5,h6⟩:=hx i l hl
 exact⟨a,c,h1,h2,h3,h4,h5,h6.keep hk⟩
theorem LiesAt.below {w w':World} {B:Nat} {A:Option Addr} {ls:List Lie} (h:LiesAt w B A ls) (hb:Below B w w'):LiesAt w' B A ls:=h.keep fun b o hp=>hb.cell (p:=⟨b,o,none⟩) hp
theorem LiesAt.nil (w:World) (B:Nat) (A:Option Addr):LiesAt w B A []:=⟨[],Rd.nil _ _ _ _,fun i l h=>by simp at h⟩
theorem LiesAt.at {w:World} {B:Nat} {A:Option Addr} {ls:List Lie} (h:LiesAt w B A ls) {i:Nat} {l:Lie} (hl:ls[i]?=some l):∃b o a c,A=some ⟨b,o,none⟩∧b<B∧ w.cell? ⟨b,o+i*3,none⟩=some (.int .i64 l.p)∧ w.cell? ⟨b,o+i*3+1,none⟩=some (.int .i64 l.t)∧ w.cell? ⟨b,o+i*3+2,none⟩=some (.slice a l.bs.length c)∧(a=none→c=0)∧l.bs.length≤c∧(l.bs.length≤140737488351232∧c≤9223372036854775807)∧(∀x∈l.bs,x<256)∧Rd w B 1 a l.bs.length (Sm.bytesV l.bs):=by
 obtain⟨xs,hr,hx⟩:=h
 obtain⟨a,c,h1,h2,h3,h4,h5,h6⟩:=hx i l hl
 have hi:i<ls.length:=(List.getElem?_eq_some_iff.1 hl).1
 obtain⟨b,o,e,hb,hc⟩:=hr.2 (by omega)
 have hg:∀j v,j<3→(lieL l a c)[j]?=some v→ w.cell? ⟨b,o+i*3+j,none⟩=some v:=fun j v hj hv=>by
  rw [←h1,List.getElem?_take,if_pos hj,List.getElem?_drop]at hv
  have:=hc _ _ hv
  rwa [←Nat.add_assoc]at this
 exact⟨b,o,a,c,e,hb,hg 0 _ (by omega) rfl,hg 1 _ (by omega) rfl,hg 2 _ (by omega) rfl,h2,h3,h4,h5,h6⟩
def goes (bad ph:Int) (l:Lie):Prop:=0≤bad∧l.p=ph∧0≤l.t∧l.t<4∧l.t≠bad
open Classical in
noncomputable def lieStep (bad ph:Int) (g:Nat→List Ms.Msg) (l:Lie):Nat→List Ms.Msg:=if goes bad ph l then setAt g l.t.toNat (g l.t.toNat++(came bad l.bs).toList)else g
noncomputable def lieX (g:Nat→List Ms.Msg) (bad ph:Int) (ls:List Lie):Nat→List Ms.Msg:=ls.foldl (lieStep bad ph) g
theorem lieX_succ (g:Nat→List Ms.Msg) (bad ph:Int) {ls:List Lie} {j:Nat} {l:Lie} (hl:ls[j]?=some l):lieX g bad ph (ls.take (j+1))=lieStep bad ph (lieX g bad ph (ls.take j)) l:=by
 unfold lieX
 rw [List.take_add_one,hl,Option.toList_some,List.foldl_append]
 rfl
theorem step_off {bad ph:Int} {g:Nat→List Ms.Msg} {l:Lie} (h:¬goes bad ph l):lieStep bad ph g l=g:=if_neg h
theorem step_on {bad ph:Int} {g:Nat→List Ms.Msg} {l:Lie} {ot:Nat} (h:goes bad ph l) (e:l.t=(ot:Int)):lieStep bad ph g l=setAt g ot (g ot++(came bad l.bs).toList):=by
 unfold lieStep
 rw [if_pos h,e]
 rfl
theorem came_len (f:Int) (bs:List Nat):(came f bs).toList.length≤1:=by
 cases came f bs<;>simp
theorem step_len (bad ph:Int) (g:Nat→List Ms.Msg) (l:Lie) (i:Nat):(lieStep bad ph g l i).length≤(g i).length+1:=by
 unfold lieStep
 split
 ·
  unfold setAt
  split
  ·
   rename_i h;subst h
   have:=came_len bad l.bs
   rw [List.length_append];omega
  · omega
 · omega
theorem lieX_len (bad ph:Int):∀(ls:List Lie) (g:Nat→List Ms.Msg) (i:Nat),(lieX g bad ph ls i).length≤(g i).length+ls.length
 |[],g,i=>Nat.le_refl _
 |l::ls,g,i=>by
  have h1:=lieX_len bad ph ls (lieStep bad ph g l) i
  have h2:=step_len bad ph g l i
  show(lieX (lieStep bad ph g l) bad ph ls i).length≤_
  rw [List.length_cons]
  omega
theorem RunC.cell_bad (s:RunC):s.cell 309=.int .i64 s.bad:=by
 unfold RunC.cell
 rw [if_neg (by omega),if_neg (by omega),if_neg (by omega),if_pos rfl]
theorem RunC.cell_lies (s:RunC):s.cell 310=.slice s.LA s.LL s.LC:=by
 unfold RunC.cell
 rw [if_neg (by omega),if_neg (by omega),if_neg (by omega),if_neg (by omega),if_pos rfl]
theorem RunAt.bad_at {w:World} {R b0:Nat} {s:RunC} (h:RunAt w R b0 s): w.cell? ⟨R,309,none⟩=some (.int .i64 s.bad):=by
 have:=h.blk.cell 309
 rwa [row_at (by omega),s.cell_bad]at this
theorem RunAt.lies_at {w:World} {R b0:Nat} {s:RunC} (h:RunAt w R b0 s): w.cell? ⟨R,310,none⟩=some (.slice s.LA s.LL s.LC):=by
 have:=h.blk.cell 310
 rwa [row_at (by omega),s.cell_lies]at this
set_option maxRecDepth 100000 in
set_option maxHeartbeats 4000000 in
theorem lie_any (R b0:Nat) (s:RunC) (ph:Int) (ls:List Lie) (hll:s.LL=ls.length) (w:World) (h:RunAt w R b0 s) (hls:LiesAt w b0 s.LA ls) (hn:ls.length≤400) (hlen:∀i,i<4→(s.bX i).length≤100000):
  Calls Tryz.prog 28 #[.pointer (some ⟨R,0,none⟩),.int .i64 ph] w fun e w'=>e=.returned (.tuple #[])∧∃bA bC,RunAt w' R b0 (s.boxes bA (lieX s.bX s.bad ph ls) bC)∧Keep w w' R s (s.boxes bA (lieX s.bX s.bad ph ls) bC):=by
 have HRA:=Lib.hid h
 have HLS:=Lib.hid hls
 have HL:=Lib.hid hlen
 have y0:=h.lies_at
 rw [hll]at y0
 clear h hls hlen
 go_enter Tryz.func28,Tryz.ntmps28
 go_wp2_with fail
 clear y0
 go_loopw [12] (fun i wr=>∃j:Nat,j≤ls.length∧i=.int .i64 j∧∃bA bC,RunAt wr R b0 (s.boxes bA (lieX s.bX s.bad ph (ls.take j)) bC)∧Keep w wr R s (s.boxes bA (lieX s.bX s.bad ph (ls.take j)) bC)) (fun i _=>ls.length-(intOf i).toNat)
 case atStart=>exact⟨0,by omega,rfl,s.bA,s.bC,HRA.out,Keep.refl _ _ _⟩
 case round=>
  obtain⟨j,hj,rfl,bA,bC,hra,hkp⟩:=hrel
  have HRJ:=Lib.hid hra
  have HKJ:=Lib.hid hkp
  have HLS2:=Lib.hid (HLS.out.below (hkp.below HRA.out))
  clear hra hkp
  by_cases hlt:j<ls.length
  ·
   have hm:ls[j]?=some ls[j]:=List.getElem?_eq_getElem hlt
   generalize ls[j]=l at hm
   have HX:=Lib.hid (lieX_succ s.bX s.bad ph hm)
   obtain⟨b,o,a,ca,e,hbB,x0,x1,x2,h2,h3,h4,h5,h6⟩:=HLS2.out.at hm
   have HSM:=Lib.hid h5
   have hk0:(0:Int)≤(j:Int):=by omega
   have hk1:(j:Int)<(ls.length:Int):=by omega
   have HBB:=Lib.hid h6
   have HRB:=Lib.hid (Nat.le_trans HRJ.out.low (Nat.le_of_lt HRJ.out.blk.lt))
   rw [e]
   clear h5 h6 hm
   go_upto_region 3 with fail
   have hb:Below wr.heap.size wr (wr.alloc (.cells #[.int .i64 l.p,.int .i64 l.t,.slice a l.bs.length ca] 117)):=(Below.refl _ _).alloc (Nat.le_refl _) _
   have PB:=Lib.hid (show Blk (wr.alloc (.cells #[.int .i64 l.p,.int .i64 l.t,.slice a l.bs.length ca] 117)) wr.heap.size 117 #[.int .i64 l.p,.int .i64 l.t,.slice a l.bs.length ca]from Blk.fresh _ _ _)
   have HRJ:=Lib.hid (HRJ.out.below hb)
   have HKJ:=Lib.hid (HKJ.out.trans (Keep.of_below (R:=R) (s:=(s.boxes bA (lieX s.bX s.bad ph (ls.take j)) bC)) hb))
   have HBY:=Lib.hid (HBB.out.below (hb.mono HRB.out))
   clear hb x0 x1 x2 HBB HLS2
   generalize(wr.alloc (.cells #[.int .i64 l.p,.int .i64 l.t,.slice a l.bs.length ca] 117))=wv at*
   obtain⟨gp,hgp⟩:∃g,wr.heap.size=g:=⟨_,rfl⟩
   rw [hgp]at PB ⊢
   clear hgp
   have z0:=PB.out.cell 0
   have z1:=PB.out.cell 1
   have z2:=PB.out.cell 2
   simp only [List.getElem?_toArray,List.getElem?_cons_zero,List.getElem?_cons_succ]at z0 z1 z2
   have y9: wv.cell? ⟨R,309,none⟩=some (.int .i64 s.bad):=HRJ.out.bad_at
   by_cases c1:0≤s.bad
   rotate_left 1
   ·
    have HST:=Lib.hid (step_off (g:=lieX s.bX s.bad ph (ls.take j)) (show ¬goes s.bad ph l from fun h=>c1 h.1))
    go_quiet (fail)
    have hb:Below wv.heap.size wv (wv.drewN nq):=⟨rfl,rfl,rfl,Nat.le_refl _,fun _ _=>rfl⟩
    have HRJ:=Lib.hid (HRJ.out.below hb)
    have HKJ:=Lib.hid (HKJ.out.trans (Keep.of_below (R:=R) (s:=(s.boxes bA (lieX s.bX s.bad ph (ls.take j)) bC)) hb))
    clear hb y9 z0 z1 z2
    generalize(wv.drewN nq)=wz at*
    go_wp2_with fail
    exact⟨⟨j+1,by omega,by go_num,bA,bC,by rw [HX.out,HST.out];exact HRJ.out,by rw [HX.out,HST.out];exact HKJ.out⟩,by simp [intOf];omega⟩
   ·
    by_cases c2:l.p=ph
    rotate_left 1
    ·
     have hq:(l.p==ph)=false:=by simp [c2]
     have HST:=Lib.hid (step_off (g:=lieX s.bX s.bad ph (ls.take j)) (show ¬goes s.bad ph l from fun h=>c2 h.2.1))
     go_quiet (fail)
     have hb:Below wv.heap.size wv (wv.drewN nq):=⟨rfl,rfl,rfl,Nat.le_refl _,fun _ _=>rfl⟩
     have HRJ:=Lib.hid (HRJ.out.below hb)
     have HKJ:=Lib.hid (HKJ.out.trans (Keep.of_below (R:=R) (s:=(s.boxes bA (lieX s.bX s.bad ph (ls.take j)) bC)) hb))
     clear hb y9 z0 z1 z2
     generalize(wv.drewN nq)=wz at*
     go_wp2_with fail
     exact⟨⟨j+1,by omega,by go_num,bA,bC,by rw [HX.out,HST.out];exact HRJ.out,by rw [HX.out,HST.out];exact HKJ.out⟩,by simp [intOf];omega⟩
    ·
     subst c2
     by_cases c3:0≤l.t
     rotate_left 1
     ·
      have HST:=Lib.hid (step_off (g:=lieX s.bX s.bad l.p (ls.take j)) (show ¬goes s.bad l.p l from fun h=>c3 h.2.2.1))
      go_quiet (fail)
      have hb:Below wv.heap.size wv (wv.drewN nq):=⟨rfl,rfl,rfl,Nat.le_refl _,fun _ _=>rfl⟩
      have HRJ:=Lib.hid (HRJ.out.below hb)
      have HKJ:=Lib.hid (HKJ.out.trans (Keep.of_below (R:=R) (s:=(s.boxes bA (lieX s.bX s.bad l.p (ls.take j)) bC)) hb))
      clear hb y9 z0 z1 z2
      generalize(wv.drewN nq)=wz at*
      go_wp2_with fail
      exact⟨⟨j+1,by omega,by go_num,bA,bC,by rw [HX.out,HST.out];exact HRJ.out,by rw [HX.out,HST.out];exact HKJ.out⟩,by simp [intOf];omega⟩
     ·
      by_cases c4:l.t<4
      rotate_left 1
      ·
       have HST:=Lib.hid (step_off (g:=lieX s.bX s.bad l.p (ls.take j)) (show ¬goes s.bad l.p l from fun h=>c4 h.2.2.2.1))
       go_quiet (fail)
       have hb:Below wv.heap.size wv (wv.drewN nq):=⟨rfl,rfl,rfl,Nat.le_refl _,fun _ _=>rfl⟩
       have HRJ:=Lib.hid (HRJ.out.below hb)
       have HKJ:=Lib.hid (HKJ.out.trans (Keep.of_below (R:=R) (s:=(s.boxes bA (lieX s.bX s.bad l.p (ls.take j)) bC)) hb))
       clear hb y9 z0 z1 z2
       generalize(wv.drewN nq)=wz at*
       go_wp2_with fail
       exact⟨⟨j+1,by omega,by go_num,bA,bC,by rw [HX.out,HST.out];exact HRJ.out,by rw [HX.out,HST.out];exact HKJ.out⟩,by simp [intOf];omega⟩
      ·
       by_cases c5:l.t=s.bad
       ·
        have hq:(l.t !=s.bad)=false:=by simp [c5]
        have HST:=Lib.hid (step_off (g:=lieX s.bX s.bad l.p (ls.take j)) (show ¬goes s.bad l.p l from fun h=>h.2.2.2.2 c5))
        clear c5
        go_quiet (fail)
        have hb:Below wv.heap.size wv (wv.drewN nq):=⟨rfl,rfl,rfl,Nat.le_refl _,fun _ _=>rfl⟩
        have HRJ:=Lib.hid (HRJ.out.below hb)
        have HKJ:=Lib.hid (HKJ.out.trans (Keep.of_below (R:=R) (s:=(s.boxes bA (lieX s.bX s.bad l.p (ls.take j)) bC)) hb))
        clear hb y9 z0 z1 z2
        generalize(wv.drewN nq)=wz at*
        go_wp2_with fail
        exact⟨⟨j+1,by omega,by go_num,bA,bC,by rw [HX.out,HST.out];exact HRJ.out,by rw [HX.out,HST.out];exact HKJ.out⟩,by simp [intOf];omega⟩
       ·
        have HGO:=Lib.hid (show goes s.bad l.p l from⟨c1,rfl,c3,c4,c5⟩)
        obtain⟨ot,eot⟩:=Int.eq_ofNat_of_zero_le c3
        have hot:ot<4:=by omega
        have HST:=Lib.hid (show lieX s.bX s.bad l.p (ls.take (j+1))=setAt (lieX s.bX s.bad l.p (ls.take j)) ot (lieX s.bX s.bad l.p (ls.take j) ot++(came s.bad l.bs).toList)from by rw [HX.out];exact step_on HGO.out eot)
        have HLB:=Lib.hid (show((lieX s.bX s.bad l.p (ls.take j) ot).length+1)*48≤140737488351232 from by
         have h1:=lieX_len s.bad l.p (ls.take j) s.bX ot
         have h2:=HL.out ot hot
         have h3:(ls.take j).length≤400:=by rw [List.length_take];omega
         omega)
        have hq:((ot:Int)!=s.bad)=true:=by rw [←eot];simp [c5]
        have ho0:(0:Int)≤(ot:Int):=by omega
        have ho4:(ot:Int)<4:=by omega
        rw [eot]at z1
        clear c3 c4 c5 eot
        go_quiet (fail)
        have hb:Below wv.heap.size wv (wv.drewN nq):=⟨rfl,rfl,rfl,Nat.le_refl _,fun _ _=>rfl⟩
        have HRJ:=Lib.hid (HRJ.out.below hb)
        have HKJ:=Lib.hid (HKJ.out.trans (Keep.of_below (R:=R) (s:=(s.boxes bA (lieX s.bX s.bad l.p (ls.take j)) bC)) hb))
        have HBY:=Lib.hid (show Rd (wv.drewN nq) b0 1 a l.bs.length (Sm.bytesV l.bs)from HBY.out)
        have y9:=(show(wv.drewN nq).cell? ⟨R,309,none⟩=some (.int .i64 s.bad)from y9)
        have z1:=(show(wv.drewN nq).cell? ⟨gp,1,none⟩=some (.int .i64 (ot:Int))from z1)
        have z2:=(show(wv.drewN nq).cell? ⟨gp,2,none⟩=some (.slice a l.bs.length ca)from z2)
        clear hb z0
        generalize(wv.drewN nq)=wv at*
        go_upto_region 4 with fail
        clear hq
        have hb:Below wv.heap.size wv wv.drew:=(Below.refl _ _).drew
        have HRJ:=Lib.hid (HRJ.out.below hb)
        have HKJ:=Lib.hid (HKJ.out.trans (Keep.of_below (R:=R) (s:=(s.boxes bA (lieX s.bX s.bad l.p (ls.take j)) bC)) hb))
        have HBY:=Lib.hid (HBY.out.drew)
        have HS: wv.drew.cell? ⟨R,309,none⟩=some (.int .i64 s.bad)∧ wv.drew.cell? ⟨gp,1,none⟩=some (.int .i64 (ot:Int))∧ wv.drew.cell? ⟨gp,2,none⟩=some (.slice a l.bs.length ca):=⟨y9,z1,z2⟩
        have HRB:=Lib.hid (Nat.le_trans HRJ.out.low (Nat.le_of_lt HRJ.out.blk.lt))
        have HBY:=Lib.hid (HBY.out.more HRB.out)
        clear hb y9 z1 z2
        refine wp_region_noPanic ?_
        refine Rg.beginR [5,7,9] (fun w'=> w'.cell? ⟨R,309,none⟩=some (.int .i64 s.bad)∧ w'.cell? ⟨gp,1,none⟩=some (.int .i64 (ot:Int))∧ w'.cell? ⟨gp,2,none⟩=some (.slice a l.bs.length ca)) (by kernel_rfl) ?_
        generalize wv.drew=wd at*
        refine Rg.tp 0 ⟨some 48,.move (.tmp 0),_,_,_,none⟩ (v:=?_) rfl ?_ ?_
        rotate_left 1
        · (intro w;go_simp;(try with_reducible rfl))
        try simp only [Rg.lp]
        refine Rg.tp 1 ⟨some 49,.move (.tmp 0),_,_,_,none⟩ (v:=?_) rfl ?_ ?_
        rotate_left 1
        · (intro w;go_simp;(try with_reducible rfl))
        try simp only [Rg.lp]
        refine Rg.tp 2 ⟨some 50,.nilCheck (.tmp 49),_,_,_,none⟩ (v:=?_) rfl ?_ ?_
        rotate_left 1
        · (intro w;go_simp;(try with_reducible rfl))
        try simp only [Rg.lp]
        refine Rg.tp 3 ⟨some 51,.fieldAddr 68 (.tmp 50) 1,_,_,_,none⟩ (v:=?_) rfl ?_ ?_
        rotate_left 1
        · (intro w;go_simp;(try with_reducible rfl))
        try simp only [Rg.lp]
        refine Rg.tp 4 ⟨some 52,.fieldAddr 48 (.tmp 51) 1,_,_,_,none⟩ (v:=?_) rfl ?_ ?_
        rotate_left 1
        · (intro w;go_simp;(try with_reducible rfl))
        try simp only [Rg.lp]
        refine Rg.stp_s 5 ?_ HS (hy:=?_) (h:=?_)
        rotate_left 1
        · (intro w hSw;(try dsimp only at hSw);(try go_split_ands);go_simp;(try with_reducible rfl))
        try simp only [Rg.lp]
        refine Rg.tp 6 ⟨some 54,.fieldAddr 117 (.tmp 5) 1,_,_,_,none⟩ (v:=?_) rfl ?_ ?_
        rotate_left 1
        · (intro w;go_simp;(try with_reducible rfl))
        try simp only [Rg.lp]
        refine Rg.stp_s 7 ?_ HS (hy:=?_) (h:=?_)
        rotate_left 1
        · (intro w hSw;(try dsimp only at hSw);(try go_split_ands);go_simp;(try with_reducible rfl))
        try simp only [Rg.lp]
        refine Rg.tp 8 ⟨some 56,.fieldAddr 117 (.tmp 5) 2,_,_,_,none⟩ (v:=?_) rfl ?_ ?_
        rotate_left 1
        · (intro w;go_simp;(try with_reducible rfl))
        try simp only [Rg.lp]
        refine Rg.stp_s 9 ?_ HS (hy:=?_) (h:=?_)
        rotate_left 1
        · (intro w hSw;(try dsimp only at hSw);(try go_split_ands);go_simp;(try with_reducible rfl))
        try simp only [Rg.lp]
        refine Rg.stp_o 10 ?_
        refine Rg.stepF ?_ ?_
        · kernel_rfl
        intro K hK
        rw [if_pos (by rfl)]
        go_simp
        go_at_call 51
        refine(deliver_any R b0 (s.boxes bA (lieX s.bX s.bad l.p (ls.take j)) bC) s.bad ot hot a ca l.bs wd.heap.size wd HRJ.out HLB.out (Nat.le_refl _) h2 h3 (by unfold maxLen;omega) (by omega) HSM.out HBY.out).mono ?_
        rintro e w4 ⟨rfl,s',hcame,hra,hkp⟩
        obtain⟨bA',bC',rfl⟩:=hcame.boxes
        have HRJ2:=Lib.hid (show RunAt w4 R b0 (s.boxes bA' (lieX s.bX s.bad l.p (ls.take (j+1))) bC')from by rw [HST.out];exact hra)
        have HKJ2:=Lib.hid (show Keep w w4 R s (s.boxes bA' (lieX s.bX s.bad l.p (ls.take (j+1))) bC')from by rw [HST.out];exact HKJ.out.trans hkp)
        clear hra hkp hcame HS
        refine hK.out _ _ ?_
        clear hK K
        try simp only [Rg.lp]
        refine Rg.doneR (by kernel_rfl) ?_ _
        refine NoPanic.normal ?_
        go_wp2_with fail
        exact⟨⟨j+1,by omega,by go_num,bA',bC',HRJ2.out,HKJ2.out⟩,by simp [intOf];omega⟩
  ·
   obtain rfl:j=ls.length:=by omega
   clear hlt
   rw [List.take_length]at HRJ HKJ
   go_wp2_with fail
   refine bodyPost_end (results_none rfl _ _ _) rfl ?_
   exact⟨rfl,bA,bC,HRJ.out,HKJ.out⟩
end Cl
namespace Ms
open Go.ChangeShapes Go.WideShapes Go.ChangeAt Go.RowKit Mem Go.Proofs.YtljpoibnkkcjdaaGreatDoor.Op Rws Nd
def fit (id fr kind:Int) (many:Nat) (fm:Int) (m:Msg):Bool:=m.f==fm&&m.f !=id&&m.k==kind&&m.n==fr&&(m.zs.length:Int)==(many:Int)
def firstOf (id fr kind:Int) (many:Nat) (fm:Int) (ms:List Msg):Option Msg:= ms.find? (fit id fr kind many fm)
end Ms
namespace Cl
open Go.RowKit Mem Rws Nd
open Classical in
noncomputable def phX (bad ph:Int) (ls:List Lie) (mk mf mn:Nat→Int) (mz:Nat→List Int):Nat→Nat→List Ms.Msg
 |0=>fun _=>[]
 |i+1=>if(i:Int)=bad then lieX (phX bad ph ls mk mf mn mz i) bad ph ls else postX (phX bad ph ls mk mf mn mz i) (mk i) (mf i) (mn i) (mz i)
theorem toK_len (g:Nat→List Ms.Msg) (f:Int) (l:List Ms.Msg) (k i:Nat):(toK g f l k i).length≤(g i).length+l.length:=by
 unfold toK
 split
 · rw [List.length_append];omega
 · omega
theorem postX_len (g:Nat→List Ms.Msg) (k f n:Int) (zs:List Int) (i:Nat):(postX g k f n zs i).length≤(g i).length+1:=by
 unfold postX
 split
 · omega
 ·
  have h1:=toK_len g f (came f (Wr.enc k f n zs)).toList 4 i
  have h2:=came_len f (Wr.enc k f n zs)
  omega
theorem phX_len (bad ph:Int) (ls:List Lie) (mk mf mn:Nat→Int) (mz:Nat→List Int) (hn:ls.length≤400) (j:Nat):∀i,(phX bad ph ls mk mf mn mz i j).length≤i*401
 |0=>by simp [phX]
 |i+1=>by
  have ih:=phX_len bad ph ls mk mf mn mz hn j i
  unfold phX
  split
  ·
   have:=lieX_len bad ph ls (phX bad ph ls mk mf mn mz i) j
   omega
  ·
   have:=postX_len (phX bad ph ls mk mf mn mz i) (mk i) (mf i) (mn i) (mz i) j
   omega
def newK {α:Type} (bad:Int) (G F:Nat→α) (i j:Nat):α:=if j<i∧(j:Int)≠bad then G j else F j
theorem newK_zero {α:Type} (bad:Int) (G F:Nat→α):newK bad G F 0=F:=funext fun j=>if_neg (by omega)
theorem newK_bad {α:Type} (bad:Int) (G F:Nat→α) (i:Nat) (h:(i:Int)=bad):newK bad G F (i+1)=newK bad G F i:=funext fun j=>by
 unfold newK
 by_cases e:j=i
 · subst e;rw [if_neg (by omega),if_neg (by omega)]
 ·
  by_cases hj:j<i∧(j:Int)≠bad
  · rw [if_pos hj,if_pos ⟨by omega,hj.2⟩]
  · rw [if_neg hj,if_neg (by omega)]
theorem newK_good {α:Type} (bad:Int) (G F:Nat→α) (i:Nat) (h:¬(i:Int)=bad):setAt (newK bad G F i) i (G i)=newK bad G F (i+1):=funext fun j=>by
 by_cases e:j=i
 · subst e;rw [setAt_self];exact(if_pos ⟨by omega,h⟩).symm
 ·
  rw [setAt_ne _ _ e]
  unfold newK
  by_cases hj:j<i∧(j:Int)≠bad
  · rw [if_pos hj,if_pos ⟨by omega,hj.2⟩]
  · rw [if_neg hj,if_neg (by omega)]
theorem newK_at {α:Type} (bad:Int) (G F:Nat→α) (i:Nat):newK bad G F i i=F i:=if_neg (by omega)
noncomputable def lieP (bad ph:Int) (ls:List Lie) (i:Nat):List Ms.Msg:=ls.flatMap fun l=>open Classical in if goes bad ph l∧l.t.toNat=i then(came bad l.bs).toList else []
noncomputable def postP (k f n:Int) (zs:List Int) (i:Nat):List Ms.Msg:=if Ms.wrong k f n zs.length≠0 then []else if i<4∧(i:Int)≠f then(came f (Wr.enc k f n zs)).toList else []
noncomputable def part (bad ph:Int) (ls:List Lie) (mk mf mn:Nat→Int) (mz:Nat→List Int) (i s:Nat):List Ms.Msg:=if(s:Int)=bad then lieP bad ph ls i else postP (mk s) (mf s) (mn s) (mz s) i
theorem lieStep_part (bad ph:Int) (g:Nat→List Ms.Msg) (l:Lie) (i:Nat):lieStep bad ph g l i=g i++(open Classical in if goes bad ph l∧l.t.toNat=i then(came bad l.bs).toList else []):=by
 unfold lieStep
 by_cases h:goes bad ph l
 ·
  rw [if_pos h]
  by_cases e:l.t.toNat=i
  · subst e;rw [setAt_self,if_pos ⟨h,rfl⟩]
  · rw [setAt_ne _ _ (fun e2=>e e2.symm),if_neg (fun c=>e c.2),List.append_nil]
 · rw [if_neg h,if_neg (fun c=>h c.1),List.append_nil]
theorem lieX_part (bad ph:Int) (ls:List Lie) (i:Nat):∀g:Nat→List Ms.Msg,lieX g bad ph ls i=g i++lieP bad ph ls i:=by
 induction ls with
 |nil=>intro g;exact(List.append_nil _).symm
 |cons l ls ih=>
  intro g
  have h1:lieX g bad ph (l::ls)=lieX (lieStep bad ph g l) bad ph ls:=rfl
  rw [h1,ih,lieStep_part,List.append_assoc]
  rfl
theorem postX_part (g:Nat→List Ms.Msg) (k f n:Int) (zs:List Int) (i:Nat):postX g k f n zs i=g i++postP k f n zs i:=by
 unfold postX postP
 by_cases h:Ms.wrong k f n zs.length≠0
 · rw [if_pos h,if_pos h,List.append_nil]
 ·
  rw [if_neg h,if_neg h]
  unfold toK
  by_cases h2:i<4∧(i:Int)≠f
  · rw [if_pos h2,if_pos h2]
  · rw [if_neg h2,if_neg h2,List.append_nil]
theorem phX_part (bad ph:Int) (ls:List Lie) (mk mf mn:Nat→Int) (mz:Nat→List Int) (i:Nat):∀n,phX bad ph ls mk mf mn mz n i=(List.range n).flatMap (part bad ph ls mk mf mn mz i)
 |0=>rfl
 |n+1=>by
  have ih:=phX_part bad ph ls mk mf mn mz i n
  rw [List.range_succ,List.flatMap_append,←ih]
  simp only [List.flatMap_cons,List.flatMap_nil,List.append_nil]
  have h0:phX bad ph ls mk mf mn mz (n+1) i=(if(n:Int)=bad then lieX (phX bad ph ls mk mf mn mz n) bad ph ls else postX (phX bad ph ls mk mf mn mz n) (mk n) (mf n) (mn n) (mz n)) i:=by
   show(if(n:Int)=bad then lieX (phX bad ph ls mk mf mn mz n) bad ph ls else postX (phX bad ph ls mk mf mn mz n) (mk n) (mf n) (mn n) (mz n)) i=_
   by_cases h:(n:Int)=bad
   · rw [if_pos h]
   · rw [if_neg h]
  rw [h0]
  unfold part
  by_cases h:(n:Int)=bad
  · rw [if_pos h,if_pos h,lieX_part]
  · rw [if_neg h,if_neg h,postX_part]
theorem came_from {fm:Int} {bs:List Nat} {m:Ms.Msg} (h:came fm bs=some m):m.f=fm:=by
 unfold came at h
 split at h
 · injection h with h;subst h;rfl
 · cases h
theorem mem_toList {α:Type} {o:Option α} {m:α} (h:m∈o.toList):o=some m:=by
 cases o with
 |none=>simp at h
 |some x=>simp at h;rw [h]
theorem lieP_from {bad ph:Int} {ls:List Lie} {i:Nat} {m:Ms.Msg} (h:m∈lieP bad ph ls i):∃l∈ls,goes bad ph l∧l.t.toNat=i∧came bad l.bs=some m:=by
 obtain⟨l,hl,hm⟩:=List.mem_flatMap.1 h
 by_cases c:goes bad ph l∧l.t.toNat=i
 ·
  rw [if_pos c]at hm
  exact⟨l,hl,c.1,c.2,mem_toList hm⟩
 · rw [if_neg c]at hm;cases hm
theorem postP_from {k f n:Int} {zs:List Int} {i:Nat} {m:Ms.Msg} (h:m∈postP k f n zs i):came f (Wr.enc k f n zs)=some m:=by
 unfold postP at h
 split at h
 · cases h
 ·
  split at h
  · exact mem_toList h
  · cases h
theorem part_from {bad ph:Int} {ls:List Lie} {mk mf mn:Nat→Int} {mz:Nat→List Int} {i s:Nat} (hm:mf s=s) {m:Ms.Msg} (h:m∈part bad ph ls mk mf mn mz i s):m.f=s:=by
 unfold part at h
 split at h
 ·
  rename_i e
  obtain⟨l,_,_,_,h2⟩:=lieP_from h
  rw [came_from h2,e]
 · rw [came_from (postP_from h),hm]
theorem find_flat {α β:Type} {p:α→Bool} {g:β→List α}:∀ {l:List β} {b:β},(∀c∈l,c≠b→∀x∈g c,p x=false)→b∈l→l.Nodup→(l.flatMap g).find? p=(g b).find? p
 |[],b,_,hb,_=>by cases hb
 |c::l,b,h,hb,hn=>by
  rw [List.flatMap_cons,List.find?_append]
  obtain⟨hn1,hn2⟩:=List.nodup_cons.1 hn
  by_cases e:c=b
  ·
   subst e
   have h2:(l.flatMap g).find? p=none:=by
    rw [List.find?_eq_none]
    intro x hx
    obtain⟨d,hd,hx⟩:=List.mem_flatMap.1 hx
    rw [h d (List.mem_cons_of_mem _ hd) (fun e=>hn1 (e▸hd)) x hx]
    simp
   rw [h2,Option.or_none]
  ·
   have h1:(g c).find? p=none:=by
    rw [List.find?_eq_none]
    intro x hx
    rw [h c (List.mem_cons_self ..) e x hx]
    simp
   rw [h1,Option.none_or]
   exact find_flat (fun d hd=>h d (List.mem_cons_of_mem _ hd)) (by rcases List.mem_cons.1 hb with h|h;exact absurd h.symm e;exact h) hn2
theorem fit_from {id fr kind:Int} {many:Nat} {fm:Int} {m:Ms.Msg} (h:Ms.fit id fr kind many fm m=true):m.f=fm:=by
 unfold Ms.fit at h
 simp only [Bool.and_eq_true,beq_iff_eq]at h
 exact h.1.1.1.1
theorem fit_not {id fr kind:Int} {many:Nat} {fm:Int} {m:Ms.Msg} (h:m.f≠fm):Ms.fit id fr kind many fm m=false:=by
 cases e:Ms.fit id fr kind many fm m with
 |false=>rfl
 |true=>exact absurd (fit_from e) h
theorem first_part (bad ph:Int) (ls:List Lie) (mk mn:Nat→Int) (mz:Nat→List Int) (i j:Nat) (hj:j<4) (id fr kind:Int) (many:Nat):
  Ms.firstOf id fr kind many (j:Int) (phX bad ph ls mk (fun s=>(s:Int)) mn mz 4 i)=(part bad ph ls mk (fun s=>(s:Int)) mn mz i j).find? (Ms.fit id fr kind many (j:Int)):=by
 unfold Ms.firstOf
 rw [phX_part]
 refine find_flat (fun c _ hc x hx=>?_) (List.mem_range.2 hj) List.nodup_range
 refine fit_not ?_
 have:=part_from (mf:=fun s=>(s:Int)) rfl hx
 omega
theorem first_self (fr kind:Int) (many:Nat) (i:Int) (ms:List Ms.Msg):Ms.firstOf i fr kind many i ms=none:=by
 unfold Ms.firstOf
 rw [List.find?_eq_none]
 intro m _
 unfold Ms.fit
 by_cases h:m.f=i
 · simp [h]
 · simp [h]
end Cl
namespace Ms
open Go.ChangeShapes Go.WideShapes Go.ChangeAt Go.RowKit Mem Go.Proofs.YtljpoibnkkcjdaaGreatDoor.Op Rws Nd
def HeardAs (w:World) (base:Nat) (o:Option Msg) (v:Value):Prop:=
 match o with
 |some m=>∃a c,v=.slice (some a) m.zs.length c∧w.ownsRow base 3 1 v m.zs.length (intsV m.zs)
 |none=>v=.slice none 0 0
theorem HeardAs.keep {w w':World} {base base':Nat} {o:Option Msg} {v:Value} (h:HeardAs w base o v) (hk:∀n xs,w.ownsRow base 3 1 v n xs→w'.ownsRow base' 3 1 v n xs):HeardAs w' base' o v:=by
 cases o with
 |none=>exact h
 |some m=>obtain⟨a,c,h1,h2⟩:=h;exact⟨a,c,h1,hk _ _ h2⟩
theorem HeardAs.below {w w':World} {base:Nat} {o:Option Msg} {v:Value} (h:HeardAs w base o v) (hb:Below w.heap.size w w'):HeardAs w' base o v:=h.keep fun n xs h=>ownsRow_below h hb
theorem HeardAs.one {w:World} {base:Nat} {o:Option Msg} {v:Value} (h:HeardAs w base o v):v.oneCell'=true:=by
 cases o with
 |none=>rw [show v=.slice none 0 0 from h];rfl
 |some m=>obtain⟨a,c,rfl,h2⟩:=h;rfl
theorem first_snoc (id fr kind:Int) (many:Nat) (fm:Int) {ms:List Msg} {k:Nat} {m:Msg} (hm:ms[k]?=some m):firstOf id fr kind many fm (ms.take (k+1))=(firstOf id fr kind many fm (ms.take k)).or (if fit id fr kind many fm m=true then some m else none):=by
 unfold firstOf
 rw [List.take_add_one,hm,List.find?_append]
 by_cases h:fit id fr kind many fm m=true
 · simp [h]
 · simp [h]
def HearAt (w wr:World) (R:Array Value) (id fr kind:Int) (many:Nat) (ms:List Msg) (k:Nat):Prop:=
 ∃s:Nat→Value,(∀i:Nat,i<4→HeardAs wr (w.heap.size+1+1+1) (firstOf id fr kind many (i:Int) (ms.take k)) (s i))∧Blk wr w.heap.size 39 R∧Blk wr (w.heap.size+1) 98 (row 4 fun _=>.slice none 0 0)∧Blk wr (w.heap.size+1+1) 98 (row 4 s)∧Below w.heap.size w wr
theorem hear_skip {w wr w2:World} {R:Array Value} {id fr kind:Int} {many:Nat} {ms:List Msg} {k:Nat} {m:Msg} (h:HearAt w wr R id fr kind many ms k) (hm:ms[k]?=some m) (hb:Below wr.heap.size wr w2)
  (hf:∀i:Nat,i<4→fit id fr kind many (i:Int) m=false∨∃x,firstOf id fr kind many (i:Int) (ms.take k)=some x):HearAt w w2 R id fr kind many ms (k+1):=by
 obtain⟨s,hs,h1,h2,h3,h4⟩:=h
 refine⟨s,fun i hi=>?_,h1.below hb h1.lt,h2.below hb h2.lt,h3.below hb h3.lt,onward h4 (Nat.le_refl _) hb⟩
 rw [first_snoc _ _ _ _ _ hm]
 have hh:=(hs i hi).below hb
 rcases hf i hi with e|⟨x,e⟩
 ·
  rw [e]
  cases ho:firstOf id fr kind many (i:Int) (ms.take k)with
  |none=>rw [ho]at hh;exact hh
  |some x=>rw [ho]at hh;exact hh
 · rw [e]at hh ⊢;exact hh
theorem hear_take {w wr V:World} {R:Array Value} {id fr kind:Int} {many:Nat} {ms:List Msg} {k:Nat} {m:Msg} (h:HearAt w wr R id fr kind many ms k) (hm:ms[k]?=some m) (hb:Below wr.heap.size wr V) {j:Nat} (hj:j<4)
  (hf:∀i:Nat,i<4→fit id fr kind many (i:Int) m=decide (i=j)) (hn:firstOf id fr kind many (j:Int) (ms.take k)=none) {a:Addr} {c:Nat} (ho:V.ownsRow (w.heap.size+1+1+1) 3 1 (.slice (some a) m.zs.length c) m.zs.length (intsV m.zs)):
  HearAt w (V.setCell ⟨w.heap.size+1+1,j,none⟩ (.slice (some a) m.zs.length c)) R id fr kind many ms (k+1):=by
 obtain⟨s,hs,h1,h2,h3,h4⟩:=h
 have e3:=(h3.below hb h3.lt).set j (.slice (some a) m.zs.length c)
 rw [row_set]at e3
 refine⟨fun i=>if i=j then .slice (some a) m.zs.length c else s i,fun i hi=>?_,(h1.below hb h1.lt).other (by show w.heap.size≠w.heap.size+1+1;omega) _,(h2.below hb h2.lt).other (by show w.heap.size+1≠w.heap.size+1+1;omega) _,e3,(onward h4 (Nat.le_refl _) hb).setCell (by show w.heap.size≤w.heap.size+1+1;omega) _⟩
 rw [first_snoc _ _ _ _ _ hm,hf i hi]
 have hk:∀ {v n xs},V.ownsRow (w.heap.size+1+1+1) 3 1 v n xs→(V.setCell ⟨w.heap.size+1+1,j,none⟩ (.slice (some a) m.zs.length c)).ownsRow (w.heap.size+1+1+1) 3 1 v n xs:=fun h=>Vt.own_setCell h (by omega) _
 by_cases e:i=j
 ·
  subst e
  rw [hn]
  simp only [decide_true,if_true,Option.none_or]
  exact⟨a,c,rfl,hk ho⟩
 ·
  rw [decide_eq_false e]
  show HeardAs _ _ _ (if i=j then _ else s i)
  rw [if_neg e]
  have:=((hs i hi).below hb).keep (base':=w.heap.size+1+1+1) fun n xs h=>hk h
  simpa using this
set_option maxRecDepth 100000 in
set_option maxHeartbeats 2000000 in
theorem hear_any (R:Array Value) (id fr:Int) (h0:R[0]?=some (.int .i64 id)) (h1:R[1]?=some (.int .i64 fr)) (A:Option Addr) (c:Nat) (ms:List Msg) (kind:Int) (many:Nat) (hmany:0<many) (B:Nat) (w:World) (hB:B≤w.heap.size) (hl:ms.length≤140737488355328) (hr:MsgsAt w B A ms):
  Calls Tryz.prog 33 #[.agg R,.slice A ms.length c,.int .i64 kind,.int .i64 (many:Int)] w fun e w'=>∃s:Nat→Value,e=.returned (.agg (row 4 s))∧(∀i:Nat,i<4→HeardAs w' w.heap.size (firstOf id fr kind many (i:Int) ms) (s i))∧Below w.heap.size w w':=by
 have HR:=Lib.hid hr
 have H0:=Lib.hid h0
 have H1:=Lib.hid h1
 clear hr h0 h1
 go_enter Tryz.func33,Tryz.ntmps33
 go_wp2_with fail
 go_loopw [14] (fun i wr=>∃(k:Nat),k≤ms.length∧i=.int .i64 k∧HearAt w wr R id fr kind many ms k) (fun i _=>ms.length-(intOf i).toNat)
 case atStart=>
  refine⟨0,by omega,rfl,fun _=>.slice none 0 0,fun i hi=>rfl,((Blk.new rfl).alloc _).alloc _,(Blk.new (by simp)).alloc _,Blk.new (by simp),?_⟩
  exact(((Below.refl _ _).alloc (Nat.le_refl _) _).alloc (by simp) _).alloc (by simp;omega) _
 case round=>
  obtain⟨k,hk,rfl,hH⟩:=hrel
  by_cases hlt:k<ms.length
  ·
   have hm:ms[k]?=some ms[k]:=List.getElem?_eq_getElem hlt
   generalize ms[k]=m at*
   have HH:=Lib.hid hH
   obtain⟨s,hs,hn,hres,hout,hb⟩:=hH
   have HM:=Lib.hid hm
   obtain⟨b,o,a,ca,rfl,hbB,x0,x1,x2,x3,h2,h3,h4,h5⟩:=(HR.out.below (hb.mono hB)).at hm
   have hk0:(0:Int)≤(k:Int):=by omega
   have hk1:(k:Int)<(ms.length:Int):=by omega
   have hb0:=hb.size
   have HS:=Lib.hid hs
   have HN:=Lib.hid hn
   have HE:=Lib.hid hres
   have HO:=Lib.hid hout
   have HO0:=Lib.hid hout
   have HB:=Lib.hid hb
   have H5:=Lib.hid h5
   clear hs hn hres hout hb hm h5
   go_upto_region 5 with fail
   have M:=Lib.hid (show Blk (wr.alloc (.cells #[.int .i64 m.k,.int .i64 m.f,.int .i64 m.n,.slice a m.zs.length ca] 72)) wr.heap.size 72 #[.int .i64 m.k,.int .i64 m.f,.int .i64 m.n,.slice a m.zs.length ca]from Blk.fresh _ _ _)
   have HBW:=Lib.hid ((Below.refl wr.heap.size wr).alloc (Nat.le_refl _) (.cells #[.int .i64 m.k,.int .i64 m.f,.int .i64 m.n,.slice a m.zs.length ca] 72))
   have hg3:=HO.out.lt
   have HN:=Lib.hid (HN.out.below HBW.out HN.out.lt)
   have HO:=Lib.hid (HO.out.below HBW.out HO.out.lt)
   have y0:=M.out.cell 0
   have y1:=M.out.cell 1
   have y2:=M.out.cell 2
   have y3:=M.out.cell 3
   have z0:=(HN.out.cell 0).trans H0.out
   have z1:=(HN.out.cell 1).trans H1.out
   simp only [List.getElem?_toArray,List.getElem?_cons_zero,List.getElem?_cons_succ]at y0 y1 y2 y3
   have FD:=Lib.hid (fun(i:Nat)=>show fit id fr kind many (i:Int) m=(m.f==(i:Int)&&m.f !=id&&m.k==kind&&m.n==fr&&(m.zs.length:Int)==(many:Int))from rfl)
   clear x0 x1 x2 x3
   generalize(wr.alloc (.cells #[.int .i64 m.k,.int .i64 m.f,.int .i64 m.n,.slice a m.zs.length ca] 72))=w2 at*
   obtain⟨g,hg⟩:∃g,wr.heap.size=g:=⟨_,rfl⟩
   rw [hg]at M y0 y1 y2 y3 hg3 ⊢
   have HGG:=Lib.hid hg
   clear hg
   cases e1:(m.k !=kind)with
   |true=>
    have HF:=Lib.hid (hear_skip HH.out HM.out HBW.out (fun i hi=>.inl (by rw [FD.out,show(m.k==kind)=false by simpa [bne] using e1];simp)))
    clear FD
    go_wp2_with fail
    exact⟨⟨k+1,by omega,by go_num,HF.out⟩,by simp [intOf];omega⟩
   |false=>
    cases e2:(m.n !=fr)with
    |true=>
     have HF:=Lib.hid (hear_skip HH.out HM.out HBW.out (fun i hi=>.inl (by rw [FD.out,show(m.n==fr)=false by simpa [bne] using e2];simp)))
     clear FD
     go_wp2_with fail
     exact⟨⟨k+1,by omega,by go_num,HF.out⟩,by simp [intOf];omega⟩
    |false=>
     cases e3:((m.zs.length:Int)!=(many:Int))with
     |true=>
      have HF:=Lib.hid (hear_skip HH.out HM.out HBW.out (fun i hi=>.inl (by rw [FD.out,show((m.zs.length:Int)==(many:Int))=false by simpa [bne] using e3];simp)))
      clear FD
      go_wp2_with fail
      exact⟨⟨k+1,by omega,by go_num,HF.out⟩,by simp [intOf];omega⟩
     |false=>
      by_cases e4:m.f<0
      ·
       have HF:=Lib.hid (hear_skip HH.out HM.out HBW.out (fun i hi=>.inl (by rw [FD.out,show(m.f==(i:Int))=false from beq_eq_false_iff_ne.2 (by omega)];simp)))
       clear FD
       go_wp2_with fail
       exact⟨⟨k+1,by omega,by go_num,HF.out⟩,by simp [intOf];omega⟩
      ·
       by_cases e5:4≤m.f
       ·
        have HF:=Lib.hid (hear_skip HH.out HM.out HBW.out (fun i hi=>.inl (by rw [FD.out,show(m.f==(i:Int))=false from beq_eq_false_iff_ne.2 (by omega)];simp)))
        clear FD
        go_wp2_with fail
        exact⟨⟨k+1,by omega,by go_num,HF.out⟩,by simp [intOf];omega⟩
       ·
        have e4':0≤m.f:=by omega
        have e5':m.f<4:=by omega
        cases e6:(m.f==id)with
        |true=>
         have HF:=Lib.hid (hear_skip HH.out HM.out HBW.out (fun i hi=>.inl (by rw [FD.out,show(m.f !=id)=false by simp only [bne,e6];rfl];simp)))
         clear FD
         go_wp2_with fail
         exact⟨⟨k+1,by omega,by go_num,HF.out⟩,by simp [intOf];omega⟩
        |false=>
         obtain⟨j,hj⟩:∃j:Nat,m.f=(j:Int):=⟨m.f.toNat,by omega⟩
         have hj4:j<4:=by omega
         have hj0:(0:Int)≤(j:Int):=by omega
         have hji:(j:Int)<4:=by omega
         have x7: w2.cell? ⟨w.heap.size+1+1,j,none⟩=some (s j):=by rw [HO.out.cell,row_at hj4]
         have f7:=HO.out.thaw j
         have hsj:=HS.out j hj4
         rw [hj]at y1 e6
         clear e4 e5 e4' e5'
         cases e7:firstOf id fr kind many (j:Int) (ms.take k)with
         |some x=>
          rw [e7]at hsj
          obtain⟨ax,cx,hsx,-⟩:=hsj
          rw [hsx]at x7
          have HF:=Lib.hid (hear_skip HH.out HM.out HBW.out (fun i hi=>by
           by_cases hij:i=j
           · subst hij;exact .inr ⟨_,e7⟩
           · exact .inl (by rw [FD.out,hj,show((j:Int)==(i:Int))=false from beq_eq_false_iff_ne.2 (by omega)];simp)))
          clear FD
          go_wp2_with fail
          exact⟨⟨k+1,by omega,by go_num,HF.out⟩,by simp [intOf];omega⟩
         |none=>
          rw [e7]at hsj
          rw [show s j=.slice none 0 0 from hsj]at x7
          go_upto_region 6 with fail
          have HSJ:=Lib.hid (show s j=.slice none 0 0 from hsj)
          have HFT:Hid (∀i:Nat,i<4→fit id fr kind many (i:Int) m=decide (i=j)):=Lib.hid fun i hi=>by
           have b1:(m.k==kind)=true:=by simpa [bne] using e1
           have b2:(m.n==fr)=true:=by simpa [bne] using e2
           have b3:((m.zs.length:Int)==(many:Int))=true:=by simpa [bne] using e3
           have b6:((j:Int)!=id)=true:=by simp only [bne,e6];rfl
           rw [FD.out,hj,b1,b2,b3,b6,Bool.and_true,Bool.and_true,Bool.and_true,Bool.and_true]
           by_cases hij:i=j
           · subst hij;simp
           · rw [decide_eq_false hij];exact beq_eq_false_iff_ne.2 (by omega)
          have hzl:0<m.zs.length:=by
           have b3:((m.zs.length:Int)==(many:Int))=true:=by simpa [bne] using e3
           have:=eq_of_beq b3
           omega
          have H5:=Lib.hid ((H5.out.below (HBW.out.mono (Nat.le_trans hB hb0))).drew)
          have M:=Lib.hid M.out.drew
          have HBW:=Lib.hid HBW.out.drew
          have HG0:=HGG.out
          rw [hj]at M
          clear y0 y1 y2 y3 z0 z1 x7 f7 FD hsj e1 e2 e3 e6
          have HS:=M.out
          refine wp_region_noPanic ?_
          refine Rg.beginR [1,4] (fun w'=>Blk w' g 72 #[.int .i64 m.k,.int .i64 (j:Int),.int .i64 m.n,.slice a m.zs.length ca]) (by kernel_rfl) ?_
          generalize w2.drew=V0 at*
          refine Rg.tp 0 ⟨some 60,.fieldAddr 72 (.tmp 11) 1,_,_,_,none⟩ (v:=?_) rfl ?_ ?_
          rotate_left 1
          · (intro w;go_simp;(try with_reducible rfl))
          try simp only [Rg.lp]
          refine Rg.stp_s 1 ?_ HS (hy:=?_) (h:=?_)
          rotate_left 1
          · (intro w' hSw;have y:=hSw.cell 1;simp only [List.getElem?_toArray,List.getElem?_cons_zero,List.getElem?_cons_succ]at y;go_simp;(try with_reducible rfl))
          try simp only [Rg.lp]
          refine Rg.tp 3 ⟨some 63,.fieldAddr 72 (.tmp 11) 3,_,_,_,none⟩ (v:=?_) rfl ?_ ?_
          rotate_left 1
          · (intro w;go_simp;(try with_reducible rfl))
          try simp only [Rg.lp]
          refine Rg.stp_s 4 ?_ HS (hy:=?_) (h:=?_)
          rotate_left 1
          · (intro w' hSw;have y:=hSw.cell 3;simp only [List.getElem?_toArray,List.getElem?_cons_zero,List.getElem?_cons_succ]at y;go_simp;(try with_reducible rfl))
          try simp only [Rg.lp]
          refine Rg.stp_o 2 ?_
          refine Rg.stepS ?_
          intro K hK
          go_simp
          have HZ:Hid ((V0.alloc (.cells #[] 3)).ownsRow (w.heap.size+1+1+1) 3 1 (.slice (some ⟨V0.heap.size,0,none⟩) 0 0) 0 []):=Lib.hid ⟨rfl,.inr ⟨V0.heap.size,0,#[],rfl,by have:=HBW.out.size;omega,Blk.fresh _ _ _,Nat.le_refl _,by unfold maxLen;omega,rfl,rfl⟩⟩
          have hnb:=HBW.out.size
          have hgn:=M.out.lt
          have M:=Lib.hid (M.out.alloc (.cells #[] 3))
          have HBW:=Lib.hid (HBW.out.alloc HBW.out.size (.cells #[] 3))
          have H5:=Lib.hid (H5.out.alloc (by omega) (.cells #[] 3))
          have hbs:=HBW.out.size
          clear HS
          generalize(V0.alloc (.cells #[] 3))=V1 at*
          generalize V0.heap.size=nb at*
          have HS:=M.out
          refine hK.out _ _ HS ?_
          clear hK K
          try simp only [Rg.lp]
          refine Rg.stp_o 5 ?_
          refine Rg.stepS ?_
          intro K hK
          rw [if_pos (by rfl)]
          refine wp_append_rd _ (.tmp 62) (.tmp 64) 70 rfl (base:=w.heap.size+1+1+1) elemInts rfl HZ.out rfl (fun h=>⟨by have:=h2 h;omega,h2 h⟩) H5.out (intsV_one m.zs) (by unfold maxLen;omega) (by omega) (by omega) ?_
          intro A' c' V2 hA' hown hgr
          (try simp only [List.nil_append,Nat.zero_add]at hown hA')
          obtain⟨a',rfl⟩:∃a',A'=some a':=by { cases A' with|none=>exact absurd (hA' rfl).1 (by omega)|some a'=>exact⟨a',rfl⟩ }
          have HBW:=Lib.hid (HBW.out.grown hgr HBW.out.size (fun q e=>by have e:some nb=some q:=e;injection e with e;omega))
          have M:=Lib.hid (M.out.grown hgr (fun e=>by have e:some g=some nb:=e;injection e with e;omega))
          clear HS
          have HS:=M.out
          have HOW:=Lib.hid hown
          (try simp only [Nat.zero_add])
          clear hown hgr hA'
          have HO:=Lib.hid (HO0.out.below HBW.out HO0.out.lt)
          have x7: V2.cell? ⟨w.heap.size+1+1,j,none⟩=some (.slice none 0 0):=by rw [HO.out.cell,row_at hj4];exact congrArg some HSJ.out
          have f7:=HO.out.thaw j
          refine hK.out _ _ HS ?_
          clear hK K
          try simp only [Rg.lp]
          refine Rg.tp 6 ⟨some 66,.indexAddr 98 (.tmp 9) (.tmp 61),_,_,_,none⟩ (v:=?_) rfl ?_ ?_
          rotate_left 1
          · (intro w;go_simp;(try with_reducible rfl))
          try simp only [Rg.lp]
          refine Rg.stp_o 7 ?_
          refine Rg.stepF ?_ ?_
          · kernel_rfl
          intro K hK
          go_simp
          refine hK.out _ _ ?_
          clear hK K
          try simp only [Rg.lp]
          refine Rg.doneR (by kernel_rfl) ?_ _
          refine NoPanic.normal ?_
          clear HS
          go_wp2_with fail
          exact⟨⟨k+1,by omega,by go_num,hear_take HH.out HM.out HBW.out hj4 HFT.out e7 HOW.out⟩,by simp [intOf];omega⟩
  ·
   obtain rfl:k=ms.length:=by omega
   clear hlt
   obtain⟨s,hs,hn,hres,hout,hb⟩:=hH
   rw [List.take_length]at hs
   have HS:=Lib.hid hs
   have HE:=Lib.hid hres
   have HO:=Lib.hid hout
   have HB:=Lib.hid hb
   have is4:(Tryz.prog.info? 98).map (·.size)=some (row 4 s).size:=by rw [row_size];kernel_rfl
   have zs4:(row 4 fun _:Nat=>Value.slice none 0 0).size=(row 4 s).size:=by rw [row_size,row_size]
   have os4:(row 4 s).all (·.oneCell')=true:=row_one fun i hi=>(hs i hi).one
   clear hs hn hres hout hb
   obtain⟨R4,hR4⟩:∃R4,row 4 s=R4:=⟨_,rfl⟩
   obtain⟨Z4,hZ4⟩:∃Z4,(row 4 fun _:Nat=>Value.slice none 0 0)=Z4:=⟨_,rfl⟩
   rw [hR4]at HO is4 zs4 os4
   rw [hZ4]at HE zs4
   have HR4:=Lib.hid hR4
   clear hR4 hZ4
   go_wp2_with(first
    |(refine wpList_whole rfl 98 _ rfl (w.heap.size+1+1) rfl HO.out _ Tryz.underlying98 rfl is4 ?_)
    |(refine wpList_store_row rfl 98 _ _ rfl (w.heap.size+1) R4 rfl rfl 98 _ HE.out is4 zs4 os4 ?_))
   exact ret_row rfl rfl (HE.out.setRow R4) Tryz.underlying98 rfl is4 rfl ⟨s,by rw [HR4.out],fun i hi=>(HS.out i hi).keep fun n xs h=>own_weaken (own_setRow h (show w.heap.size+1<w.heap.size+1+1+1 by omega) R4) (by omega),below_setRow HB.out (by omega) R4⟩
end Ms
namespace Nd
open Go.RowKit Mem Rws Flat
def passK (f:Nat→Value) (pv:Nat→Option Int) (k i:Nat):Value:=if 51≤i∧i<51+k then(match pv (i-51)with|some z=>.int .i64 z|none=>f i)else f i
theorem passK_zero (f:Nat→Value) (pv:Nat→Option Int) (S:Value):row 74 (nodeW (passK f pv 0) S)=row 74 (nodeW f S):=row_congr fun i hi=>by
 unfold nodeW passK
 rw [if_neg (show ¬(51≤i∧i<51+0)by omega)]
theorem passK_none (f:Nat→Value) (pv:Nat→Option Int) (k:Nat) (S:Value) (h:pv k=none):row 74 (nodeW (passK f pv (k+1)) S)=row 74 (nodeW (passK f pv k) S):=row_congr fun i hi=>by
 unfold nodeW passK
 by_cases e:i=51+k
 ·
  subst e
  rw [if_pos (show 51≤51+k∧51+k<51+(k+1)by omega),if_neg (show ¬(51≤51+k∧51+k<51+k)by omega),Nat.add_sub_cancel_left,h]
 ·
  by_cases h1:51≤i∧i<51+k
  · rw [if_pos h1,if_pos (show 51≤i∧i<51+(k+1)by omega)]
  · rw [if_neg h1,if_neg (show ¬(51≤i∧i<51+(k+1))by omega)]
theorem passK_some (f:Nat→Value) (pv:Nat→Option Int) (k:Nat) (hk:k<4) (S:Value) {z:Int} (h:pv k=some z):(row 74 (nodeW (passK f pv k) S)).setIfInBounds (51+k) (.int .i64 z)=row 74 (nodeW (passK f pv (k+1)) S):=by
 rw [row_set]
 refine row_congr fun i hi=>?_
 by_cases e:i=51+k
 ·
  subst e
  rw [if_pos rfl]
  unfold nodeW passK
  rw [if_neg (show ¬(51+k=73)by omega),if_pos (show 51≤51+k∧51+k<51+(k+1)by omega),Nat.add_sub_cancel_left,h]
 ·
  rw [if_neg e]
  unfold nodeW passK
  by_cases h1:51≤i∧i<51+k
  · rw [if_pos h1,if_pos (show 51≤i∧i<51+(k+1)by omega)]
  · rw [if_neg h1,if_neg (show ¬(51≤i∧i<51+(k+1))by omega)]
theorem passK_low (f:Nat→Value) (pv:Nat→Option Int) (k i:Nat) (h:i<51):passK f pv k i=f i:=if_neg (by omega)
theorem ok_pass {f:Nat→Value} (hf:∀i,i<73→okT (nodeT i) (f i)) (pv:Nat→Option Int) (k:Nat) (hk:k≤4):∀i,i<73→okT (nodeT i) (passK f pv k i):=fun i hi=>by
 unfold passK
 by_cases h1:51≤i∧i<51+k
 ·
  rw [if_pos h1]
  have e:nodeT i=true:=by
   obtain⟨a,b⟩:=h1
   unfold nodeT
   simp
   omega
  cases pv (i-51)with
  |some z=>rw [e];exact⟨z,rfl⟩
  |none=>exact hf i hi
 · rw [if_neg h1];exact hf i hi
def iv:Value→Int
 | .int _ n=>n
 |_=>0
def hvs (f:Nat→Value):List Int:=[iv (f 51),iv (f 52),iv (f 53),iv (f 54)]
theorem iv_of {v:Value} (h:okT true v):v=.int .i64 (iv v):=by obtain⟨n,rfl⟩:=h;rfl
theorem hvs_at {f:Nat→Value} (hf:∀i,i<73→okT (nodeT i) (f i)) {j:Nat} {u:Value} (h:(Ms.intsV (hvs f))[j]?=some u):j<4∧f (51+j)=u:=by
 have hj:j<4:=by have:=(List.getElem?_eq_some_iff.1 h).1;simpa [Ms.intsV,hvs] using this
 have h51:=iv_of (hf 51 (by omega))
 have h52:=iv_of (hf 52 (by omega))
 have h53:=iv_of (hf 53 (by omega))
 have h54:=iv_of (hf 54 (by omega))
 refine⟨hj,?_⟩
 obtain rfl|rfl|rfl|rfl:j=0∨j=1∨j=2∨j=3:=by omega
 · rw [h51];simpa [Ms.intsV,hvs] using h
 · rw [h52];simpa [Ms.intsV,hvs] using h
 · rw [h53];simpa [Ms.intsV,hvs] using h
 · rw [h54];simpa [Ms.intsV,hvs] using h
theorem rd_heard {w:World} {g:Nat} {t:TypeId} {f:Nat→Value} (hf:∀i,i<73→okT (nodeT i) (f i)) {S:Value} (h:Blk w g t (row 74 (nodeW f S))):Rd w (g+1) 1 (some ⟨g,51,none⟩) 4 (Ms.intsV (hvs f)):=
 ⟨rfl,fun _=>⟨g,51,rfl,by omega,fun j u hu=>by
  obtain⟨hj,e⟩:=hvs_at hf hu
  rw [h.cell,row_at (by omega)]
  show some (nodeW f S (51+j))=some u
  unfold nodeW
  rw [if_neg (show ¬(51+j=73)by omega),e]⟩⟩
def passV (id fr:Int) (ms:List Ms.Msg) (i:Nat):Option Int:=(Ms.firstOf id fr 3 1 (i:Int) ms).map fun m=>m.zs.getD 0 0
theorem fit_len {id fr kind:Int} {many:Nat} {fm:Int} {ms:List Ms.Msg} {m:Ms.Msg} (h:Ms.firstOf id fr kind many fm ms=some m):m.zs.length=many:=by
 have:=List.find?_some h
 unfold Ms.fit at this
 simp only [Bool.and_eq_true,beq_iff_eq]at this
 have:=this.2
 omega
end Nd
end Go.Proofs.YtljpoibnkkcjdaaGreatDoor
