import Derived.Test.YtljpoibnkkcjdaaGreatDoorPc12
set_option linter.unusedVariables false
set_option linter.unusedSimpArgs false
namespace Go.Proofs.YtljpoibnkkcjdaaGreatDoor
namespace BigW
open Go.RowKit Mem BigLaw Rws
set_option maxRecDepth 100000 in
set_option maxHeartbeats 8000000 in
theorem update_any (s:St) (z r gate:Int) (w:World) (hs:StIn s) (r_z:In64 z) (r_r:In64 r) (r_gate:In64 gate):
  Calls Tryz.prog 55 #[stV s,.int .i64 z,.int .i64 r,.int .i64 gate] w fun e w'=>GaveSt2 w w' (update s z r gate) e:=by
 obtain⟨X,V,P00,P01,P11,bent,missed⟩:=s
 obtain⟨r_X,r_V,r_P00,r_P01,r_P11⟩:=hs
 simp only at r_X r_V r_P00 r_P01 r_P11
 unfold stV stC
 obtain⟨w1,hw1⟩:∃w1,((((w.alloc (.cells #[.int .i64 X,.int .i64 V,.int .i64 P00,.int .i64 P01,.int .i64 P11,.bool bent,.int .i64 missed] 27)).alloc (.cells #[.int .i64 0,.int .i64 0,.int .i64 0,.int .i64 0,.int .i64 0,.bool false,.int .i64 0] 27)).alloc (.cells #[.int .i64 X,.int .i64 V,.int .i64 P00,.int .i64 P01,.int .i64 P11,.bool bent,.int .i64 missed] 27)).alloc (.cells #[.pointer (some ⟨w.heap.size,0,none⟩)] 157))=w1:=⟨_,rfl⟩
 have HB:=Lib.hid (show Below w.heap.size w w1 from by rw [←hw1];exact((((Below.refl _ _).alloc (Nat.le_refl _) _).alloc (by simp) _).alloc (by simp;omega) _).alloc (by simp;omega) _)
 have HST:=Lib.hid (show StAt w1 w.heap.size ⟨X,V,P00,P01,P11,bent,missed⟩from by rw [←hw1];exact(((Blk.new rfl).alloc _).alloc _).alloc _)
 have HR:=Lib.hid (show Blk w1 (w.heap.size+1) 27 #[.int .i64 0,.int .i64 0,.int .i64 0,.int .i64 0,.int .i64 0,.bool false,.int .i64 0]from by rw [←hw1];exact((Blk.new (by simp)).alloc _).alloc _)
 have HW:=Lib.hid (show StAt w1 (w.heap.size+1+1) ⟨X,V,P00,P01,P11,bent,missed⟩from by rw [←hw1];exact(Blk.new (by simp)).alloc _)
 have HH:=Lib.hid (show Blk w1 (w.heap.size+1+1+1) 157 #[.pointer (some ⟨w.heap.size,0,none⟩)]from by rw [←hw1];exact Blk.new (by simp))
 have hsz:w.heap.size+4≤w1.heap.size:=by rw [←hw1];simp
 have HW1:=Lib.hid hw1
 clear hw1
 obtain⟨y,yb,Y_,r_y⟩:=ltr fsub_range z X
 obtain⟨wd,wdb,WD_,r_wd⟩:=ltr fadd_range P00 r
 obtain⟨yy,yyb,YY_,r_yy⟩:=ltr fmul_range y y
 obtain⟨gq,gqb,GQ_,r_gq⟩:=ltr fmul_range gate wd
 obtain⟨kq,kqb,KQ_,r_kq⟩:=ltr fdiv_range P00 wd
 obtain⟨lq,lqb,LQ_,r_lq⟩:=ltr fdiv_range P01 wd
 obtain⟨m1,m1b,M1_,r_m1⟩:=ltr fmul_range kq y
 obtain⟨x,xb,X_,r_x⟩:=ltr fadd_range X m1
 obtain⟨m2,m2b,M2_,r_m2⟩:=ltr fmul_range lq y
 obtain⟨v,vb,V_,r_v⟩:=ltr fadd_range V m2
 obtain⟨m3,m3b,M3_,r_m3⟩:=ltr fmul_range kq P00
 obtain⟨p0,p0b,P0_,r_p0⟩:=ltr fsub_range P00 m3
 obtain⟨m4,m4b,M4_,r_m4⟩:=ltr fmul_range kq P01
 obtain⟨p1,p1b,P1_,r_p1⟩:=ltr fsub_range P01 m4
 obtain⟨m5,m5b,M5_,r_m5⟩:=ltr fmul_range lq P01
 obtain⟨p2,p2b,P2_,r_p2⟩:=ltr fsub_range P11 m5
 obtain⟨mw,hmw⟩:∃m,IntKind.i64.wrap (missed+1)=m:=⟨_,rfl⟩
 go_enter Tryz.func55,Tryz.ntmps55
 go_upto_region 3 with fail
 rw [HW1.out]
 clear HW1
 obtain⟨gh,hgh⟩:∃g,w.heap.size+1+1+1=g:=⟨_,rfl⟩
 rw [hgh]at HH ⊢
 obtain⟨gw,hgw⟩:∃g,w.heap.size+1+1=g:=⟨_,rfl⟩
 rw [hgw]at HW ⊢
 obtain⟨gr,hgr⟩:∃g,w.heap.size+1=g:=⟨_,rfl⟩
 rw [hgr]at HR ⊢
 (try clear k0 k1 k2 k3 k4 k5 k6)
 (try clear kh)
 obtain⟨k0,k1,k2,k3,k4,k5,k6⟩:=st_cells HST.out
 have kh:=one_cell HH.out
 go_wp2_with fail
 refine(hsub_any w.heap.size _ z X _ HST.out r_z r_X).mono ?_
 intro e w1 hc
 rw [Y_.out]at hc
 obtain⟨rfl,hst,hg⟩:=hc
 dsimp only at hst
 have HST:=Lib.hid hst
 have HR:=Hg HR hg (by omega)
 have HH:=Hg HH hg (by omega)
 have HW:=Hg HW hg (by omega)
 have HB:=Hb HB hg (Nat.le_refl _) (by omega)
 replace hsz:=Nat.le_trans hsz hg.size
 clear hst hg
 (try clear k0 k1 k2 k3 k4 k5 k6)
 (try clear kh)
 obtain⟨k0,k1,k2,k3,k4,k5,k6⟩:=st_cells HST.out
 have kh:=one_cell HH.out
 go_wp2_with fail
 refine(hadd_any w.heap.size _ P00 r _ HST.out r_P00 r_r).mono ?_
 intro e w1 hc
 rw [WD_.out]at hc
 obtain⟨rfl,hst,hg⟩:=hc
 dsimp only at hst
 have HST:=Lib.hid hst
 have HR:=Hg HR hg (by omega)
 have HH:=Hg HH hg (by omega)
 have HW:=Hg HW hg (by omega)
 have HB:=Hb HB hg (Nat.le_refl _) (by omega)
 replace hsz:=Nat.le_trans hsz hg.size
 clear hst hg
 (try clear k0 k1 k2 k3 k4 k5 k6)
 (try clear kh)
 obtain⟨k0,k1,k2,k3,k4,k5,k6⟩:=st_cells HST.out
 have kh:=one_cell HH.out
 go_upto_region 5 with fail
 by_cases hA:wd≤0
 ·
  have HST:=Lib.hid (Blk.drew HST.out)
  have HR:=Lib.hid (HR.out.drew)
  have HH:=Lib.hid (HH.out.drew)
  have HW:=Lib.hid (HW.out.drew)
  have HB:=Lib.hid HB.out.drew
  have hsz:w.heap.size+4≤w1.drew.heap.size:=hsz
  (try clear k0 k1 k2 k3 k4 k5 k6)
  (try clear kh)
  obtain⟨k0,k1,k2,k3,k4,k5,k6⟩:=st_cells HST.out
  have kh:=one_cell HH.out
  have HS:=And.intro k0 (And.intro k1 (And.intro k2 (And.intro k3 (And.intro k4 kh))))
  refine wp_region_noPanic ?_
  refine Rg.beginR [] (fun w'=> w'.cell? ⟨w.heap.size,0,none⟩=some (.int .i64 X)∧ w'.cell? ⟨w.heap.size,1,none⟩=some (.int .i64 V)∧ w'.cell? ⟨w.heap.size,2,none⟩=some (.int .i64 P00)∧ w'.cell? ⟨w.heap.size,3,none⟩=some (.int .i64 P01)∧ w'.cell? ⟨w.heap.size,4,none⟩=some (.int .i64 P11)∧ w'.cell? ⟨gh,0,none⟩=some (.pointer (some ⟨w.heap.size,0,none⟩))) (by kernel_rfl) ?_
  generalize w1.drew=w1 at*
  refine Rg.tp 0 ⟨some 30,.move (.tmp 13),_,_,_,none⟩ (v:=?_) rfl ?_ ?_
  rotate_left 1
  · (intro w;go_simp;(try with_reducible rfl))
  try simp only [Rg.lp]
  refine Rg.tp 1 ⟨some 31,.binOp .leq 3 (.tmp 30) (.const (.int .i64 0)) 3,_,_,_,none⟩ (v:=?_) rfl ?_ ?_
  rotate_left 1
  · (intro w;go_simp;(try with_reducible rfl))
  try simp only [Rg.lp]
  refine Rg.tp 2 ⟨some 32,.move (.tmp 31),_,_,_,none⟩ (v:=?_) rfl ?_ ?_
  rotate_left 1
  · (intro w;go_simp;(try with_reducible rfl))
  try simp only [Rg.lp]
  refine Rg.stp_n 3 ?_
  try simp only [Rg.lp]
  refine Rg.stp_n 4 ?_
  try simp only [Rg.lp]
  refine Rg.stp_n 5 ?_
  try simp only [Rg.lp]
  refine Rg.stp_n 6 ?_
  try simp only [Rg.lp]
  refine Rg.stp_n 7 ?_
  try simp only [Rg.lp]
  refine Rg.stp_n 8 ?_
  try simp only [Rg.lp]
  refine Rg.stp_n 9 ?_
  try simp only [Rg.lp]
  refine Rg.stp_n 10 ?_
  try simp only [Rg.lp]
  refine Rg.stp_n 11 ?_
  try simp only [Rg.lp]
  refine Rg.tp 12 ⟨some 42,.pick (.tmp 32) (.const (.bool true)) (.tmp 41),_,_,_,none⟩ (v:=?_) rfl ?_ ?_
  rotate_left 1
  · (intro w;go_simp;(try with_reducible rfl))
  try simp only [Rg.lp]
  refine Rg.doneR (by kernel_rfl) ?_ _
  refine NoPanic.normal ?_
  clear HS
  go_upto_region 6 with fail
  obtain⟨f0,f1,f2,f3,f4,f5,f6⟩:=st_thaws HW.out
  obtain⟨j0,j1,j2,j3,j4,j5,j6⟩:=st_cells HW.out
  go_upto_region 7 with fail
  have HG:=Lib.hid (show Blk (w1.setCell ⟨gw,6,none⟩ (.int .i64 mw)) gw 27 #[.int .i64 X,.int .i64 V,.int .i64 P00,.int .i64 P01,.int .i64 P11,.bool bent,.int .i64 mw]from Blk.set HW.out 6 (.int .i64 mw))
  have HR:=Lib.hid (HR.out.other (p:=⟨gw,6,none⟩) (by show _≠gw;omega) (.int .i64 mw))
  have HB:=Lib.hid (HB.out.setCell (p:=⟨gw,6,none⟩) (by show _≤gw;omega) (.int .i64 mw))
  clear f0 f1 f2 f3 f4 f5 f6 j0 j1 j2 j3 j4 j5 j6 k0 k1 k2 k3 k4 k5 k6
  (try clear kh)
  generalize(w1.setCell ⟨gw,6,none⟩ (.int .i64 mw))=w1 at*
  have HF:=Lib.hid (show update ⟨X,V,P00,P01,P11,bent,missed⟩ z r gate=(⟨X,V,P00,P01,P11,bent,mw⟩,false)by simp only [update,Y_.out,WD_.out,YY_.out,GQ_.out];rw [if_pos (Or.inl hA),hmw])
  go_wp2_with(first|(refine wpList_whole rfl 27 _ rfl gw rfl HG.out _ Tryz.underlying27 rfl (by kernel_rfl) ?_)|(refine wpList_store_row rfl 27 _ _ rfl gr #[.int .i64 X,.int .i64 V,.int .i64 P00,.int .i64 P01,.int .i64 P11,.bool bent,.int .i64 mw] rfl rfl 27 _ HR.out (by kernel_rfl) rfl (by simp [Value.oneCell']) ?_))
  refine ret_row2 (x:=.bool false) rfl rfl rfl (HR.out.setRow #[.int .i64 X,.int .i64 V,.int .i64 P00,.int .i64 P01,.int .i64 P11,.bool bent,.int .i64 mw]) ⟨by rw [Tryz.underlying27],by kernel_rfl⟩ rfl ?_
  rw [HF.out]
  exact⟨rfl,below_setRow HB.out (by omega) _⟩
 ·
  have hA':0<wd:=by omega
  by_cases hC:gq<yy
  ·
   have HST:=Lib.hid (Blk.drew HST.out)
   have HR:=Lib.hid (HR.out.drew)
   have HH:=Lib.hid (HH.out.drew)
   have HW:=Lib.hid (HW.out.drew)
   have HB:=Lib.hid HB.out.drew
   have hsz:w.heap.size+4≤w1.drew.heap.size:=hsz
   (try clear k0 k1 k2 k3 k4 k5 k6)
   (try clear kh)
   obtain⟨k0,k1,k2,k3,k4,k5,k6⟩:=st_cells HST.out
   have kh:=one_cell HH.out
   have HS:=And.intro k0 (And.intro k1 (And.intro k2 (And.intro k3 (And.intro k4 kh))))
   refine wp_region_noPanic ?_
   refine Rg.beginR [3,7] (fun w'=> w'.cell? ⟨w.heap.size,0,none⟩=some (.int .i64 X)∧ w'.cell? ⟨w.heap.size,1,none⟩=some (.int .i64 V)∧ w'.cell? ⟨w.heap.size,2,none⟩=some (.int .i64 P00)∧ w'.cell? ⟨w.heap.size,3,none⟩=some (.int .i64 P01)∧ w'.cell? ⟨w.heap.size,4,none⟩=some (.int .i64 P11)∧ w'.cell? ⟨gh,0,none⟩=some (.pointer (some ⟨w.heap.size,0,none⟩))) (by kernel_rfl) ?_
   generalize w1.drew=w1 at*
   refine Rg.tp 0 ⟨some 30,.move (.tmp 13),_,_,_,none⟩ (v:=?_) rfl ?_ ?_
   rotate_left 1
   · (intro w;go_simp;(try with_reducible rfl))
   try simp only [Rg.lp]
   refine Rg.tp 1 ⟨some 31,.binOp .leq 3 (.tmp 30) (.const (.int .i64 0)) 3,_,_,_,none⟩ (v:=?_) rfl ?_ ?_
   rotate_left 1
   · (intro w;go_simp;(try with_reducible rfl))
   try simp only [Rg.lp]
   refine Rg.tp 2 ⟨some 32,.move (.tmp 31),_,_,_,none⟩ (v:=?_) rfl ?_ ?_
   rotate_left 1
   · (intro w;go_simp;(try with_reducible rfl))
   try simp only [Rg.lp]
   refine Rg.stp_s 3 ?_ HS (hy:=?_) (h:=?_)
   rotate_left 1
   · (intro w hSw;(try dsimp only at hSw);(try go_split_ands);go_simp;(try with_reducible rfl))
   try simp only [Rg.lp]
   refine Rg.tp 4 ⟨some 34,.move (.tmp 12),_,_,_,some (2,false)⟩ (v:=?_) rfl ?_ ?_
   rotate_left 1
   · (intro w;go_simp;(try with_reducible rfl))
   try simp only [Rg.lp]
   refine Rg.tp 5 ⟨some 35,.move (.tmp 12),_,_,_,some (2,false)⟩ (v:=?_) rfl ?_ ?_
   rotate_left 1
   · (intro w;go_simp;(try with_reducible rfl))
   try simp only [Rg.lp]
   refine Rg.stp_s 7 ?_ HS (hy:=?_) (h:=?_)
   rotate_left 1
   · (intro w hSw;(try dsimp only at hSw);(try go_split_ands);go_simp;(try with_reducible rfl))
   try simp only [Rg.lp]
   refine Rg.tp 8 ⟨some 38,.move (.tmp 3),_,_,_,some (2,false)⟩ (v:=?_) rfl ?_ ?_
   rotate_left 1
   · (intro w;go_simp;(try with_reducible rfl))
   try simp only [Rg.lp]
   refine Rg.tp 9 ⟨some 39,.move (.tmp 13),_,_,_,some (2,false)⟩ (v:=?_) rfl ?_ ?_
   rotate_left 1
   · (intro w;go_simp;(try with_reducible rfl))
   try simp only [Rg.lp]
   refine Rg.stp_o 6 ?_
   refine Rg.stepS ?_
   intro K hK
   rw [if_pos (by rfl)]
   go_simp
   go_at_call 80
   refine(hmul_any w.heap.size _ y y _ HST.out r_y r_y).mono ?_
   intro e w1 hc
   rw [YY_.out]at hc
   obtain⟨rfl,hst,hg⟩:=hc
   dsimp only at hst
   have HST:=Lib.hid hst
   have HR:=Hg HR hg (by omega)
   have HH:=Hg HH hg (by omega)
   have HW:=Hg HW hg (by omega)
   have HB:=Hb HB hg (Nat.le_refl _) (by omega)
   replace hsz:=Nat.le_trans hsz hg.size
   clear hst hg
   (try clear k0 k1 k2 k3 k4 k5 k6)
   (try clear kh)
   obtain⟨k0,k1,k2,k3,k4,k5,k6⟩:=st_cells HST.out
   have kh:=one_cell HH.out
   clear HS
   have HS:=And.intro k0 (And.intro k1 (And.intro k2 (And.intro k3 (And.intro k4 kh))))
   go_wp2_with fail
   refine hK.out _ _ HS ?_
   clear hK K
   try simp only [Rg.lp]
   refine Rg.stp_o 10 ?_
   refine Rg.stepF ?_ ?_
   · kernel_rfl
   intro K hK
   rw [if_pos (by rfl)]
   go_simp
   go_at_call 80
   refine(hmul_any w.heap.size _ gate wd _ HST.out r_gate r_wd).mono ?_
   intro e w1 hc
   rw [GQ_.out]at hc
   obtain⟨rfl,hst,hg⟩:=hc
   dsimp only at hst
   have HST:=Lib.hid hst
   have HR:=Hg HR hg (by omega)
   have HH:=Hg HH hg (by omega)
   have HW:=Hg HW hg (by omega)
   have HB:=Hb HB hg (Nat.le_refl _) (by omega)
   replace hsz:=Nat.le_trans hsz hg.size
   clear hst hg
   (try clear k0 k1 k2 k3 k4 k5 k6)
   (try clear kh)
   obtain⟨k0,k1,k2,k3,k4,k5,k6⟩:=st_cells HST.out
   have kh:=one_cell HH.out
   clear HS
   have HS:=And.intro k0 (And.intro k1 (And.intro k2 (And.intro k3 (And.intro k4 kh))))
   go_wp2_with fail
   refine hK.out _ _ ?_
   clear hK K
   try simp only [Rg.lp]
   refine Rg.tp 11 ⟨some 41,.binOp .gtr 3 (.tmp 36) (.tmp 40) 3,_,_,_,some (2,false)⟩ (v:=?_) rfl ?_ ?_
   rotate_left 1
   · (intro w;go_simp;(try with_reducible rfl))
   try simp only [Rg.lp]
   refine Rg.tp 12 ⟨some 42,.pick (.tmp 32) (.const (.bool true)) (.tmp 41),_,_,_,none⟩ (v:=?_) rfl ?_ ?_
   rotate_left 1
   · (intro w;go_simp;(try with_reducible rfl))
   try simp only [Rg.lp]
   refine Rg.doneR (by kernel_rfl) ?_ _
   refine NoPanic.normal ?_
   clear HS
   go_upto_region 6 with fail
   obtain⟨f0,f1,f2,f3,f4,f5,f6⟩:=st_thaws HW.out
   obtain⟨j0,j1,j2,j3,j4,j5,j6⟩:=st_cells HW.out
   go_upto_region 7 with fail
   have HG:=Lib.hid (show Blk (w1.setCell ⟨gw,6,none⟩ (.int .i64 mw)) gw 27 #[.int .i64 X,.int .i64 V,.int .i64 P00,.int .i64 P01,.int .i64 P11,.bool bent,.int .i64 mw]from Blk.set HW.out 6 (.int .i64 mw))
   have HR:=Lib.hid (HR.out.other (p:=⟨gw,6,none⟩) (by show _≠gw;omega) (.int .i64 mw))
   have HB:=Lib.hid (HB.out.setCell (p:=⟨gw,6,none⟩) (by show _≤gw;omega) (.int .i64 mw))
   clear f0 f1 f2 f3 f4 f5 f6 j0 j1 j2 j3 j4 j5 j6 k0 k1 k2 k3 k4 k5 k6
   (try clear kh)
   generalize(w1.setCell ⟨gw,6,none⟩ (.int .i64 mw))=w1 at*
   have HF:=Lib.hid (show update ⟨X,V,P00,P01,P11,bent,missed⟩ z r gate=(⟨X,V,P00,P01,P11,bent,mw⟩,false)by simp only [update,Y_.out,WD_.out,YY_.out,GQ_.out];rw [if_pos (Or.inr hC),hmw])
   go_wp2_with(first|(refine wpList_whole rfl 27 _ rfl gw rfl HG.out _ Tryz.underlying27 rfl (by kernel_rfl) ?_)|(refine wpList_store_row rfl 27 _ _ rfl gr #[.int .i64 X,.int .i64 V,.int .i64 P00,.int .i64 P01,.int .i64 P11,.bool bent,.int .i64 mw] rfl rfl 27 _ HR.out (by kernel_rfl) rfl (by simp [Value.oneCell']) ?_))
   refine ret_row2 (x:=.bool false) rfl rfl rfl (HR.out.setRow #[.int .i64 X,.int .i64 V,.int .i64 P00,.int .i64 P01,.int .i64 P11,.bool bent,.int .i64 mw]) ⟨by rw [Tryz.underlying27],by kernel_rfl⟩ rfl ?_
   rw [HF.out]
   exact⟨rfl,below_setRow HB.out (by omega) _⟩
  ·
   have hC':yy≤gq:=by omega
   have HST:=Lib.hid (Blk.drew HST.out)
   have HR:=Lib.hid (HR.out.drew)
   have HH:=Lib.hid (HH.out.drew)
   have HW:=Lib.hid (HW.out.drew)
   have HB:=Lib.hid HB.out.drew
   have hsz:w.heap.size+4≤w1.drew.heap.size:=hsz
   (try clear k0 k1 k2 k3 k4 k5 k6)
   (try clear kh)
   obtain⟨k0,k1,k2,k3,k4,k5,k6⟩:=st_cells HST.out
   have kh:=one_cell HH.out
   have HS:=And.intro k0 (And.intro k1 (And.intro k2 (And.intro k3 (And.intro k4 kh))))
   refine wp_region_noPanic ?_
   refine Rg.beginR [3,7] (fun w'=> w'.cell? ⟨w.heap.size,0,none⟩=some (.int .i64 X)∧ w'.cell? ⟨w.heap.size,1,none⟩=some (.int .i64 V)∧ w'.cell? ⟨w.heap.size,2,none⟩=some (.int .i64 P00)∧ w'.cell? ⟨w.heap.size,3,none⟩=some (.int .i64 P01)∧ w'.cell? ⟨w.heap.size,4,none⟩=some (.int .i64 P11)∧ w'.cell? ⟨gh,0,none⟩=some (.pointer (some ⟨w.heap.size,0,none⟩))) (by kernel_rfl) ?_
   generalize w1.drew=w1 at*
   refine Rg.tp 0 ⟨some 30,.move (.tmp 13),_,_,_,none⟩ (v:=?_) rfl ?_ ?_
   rotate_left 1
   · (intro w;go_simp;(try with_reducible rfl))
   try simp only [Rg.lp]
   refine Rg.tp 1 ⟨some 31,.binOp .leq 3 (.tmp 30) (.const (.int .i64 0)) 3,_,_,_,none⟩ (v:=?_) rfl ?_ ?_
   rotate_left 1
   · (intro w;go_simp;(try with_reducible rfl))
   try simp only [Rg.lp]
   refine Rg.tp 2 ⟨some 32,.move (.tmp 31),_,_,_,none⟩ (v:=?_) rfl ?_ ?_
   rotate_left 1
   · (intro w;go_simp;(try with_reducible rfl))
   try simp only [Rg.lp]
   refine Rg.stp_s 3 ?_ HS (hy:=?_) (h:=?_)
   rotate_left 1
   · (intro w hSw;(try dsimp only at hSw);(try go_split_ands);go_simp;(try with_reducible rfl))
   try simp only [Rg.lp]
   refine Rg.tp 4 ⟨some 34,.move (.tmp 12),_,_,_,some (2,false)⟩ (v:=?_) rfl ?_ ?_
   rotate_left 1
   · (intro w;go_simp;(try with_reducible rfl))
   try simp only [Rg.lp]
   refine Rg.tp 5 ⟨some 35,.move (.tmp 12),_,_,_,some (2,false)⟩ (v:=?_) rfl ?_ ?_
   rotate_left 1
   · (intro w;go_simp;(try with_reducible rfl))
   try simp only [Rg.lp]
   refine Rg.stp_s 7 ?_ HS (hy:=?_) (h:=?_)
   rotate_left 1
   · (intro w hSw;(try dsimp only at hSw);(try go_split_ands);go_simp;(try with_reducible rfl))
   try simp only [Rg.lp]
   refine Rg.tp 8 ⟨some 38,.move (.tmp 3),_,_,_,some (2,false)⟩ (v:=?_) rfl ?_ ?_
   rotate_left 1
   · (intro w;go_simp;(try with_reducible rfl))
   try simp only [Rg.lp]
   refine Rg.tp 9 ⟨some 39,.move (.tmp 13),_,_,_,some (2,false)⟩ (v:=?_) rfl ?_ ?_
   rotate_left 1
   · (intro w;go_simp;(try with_reducible rfl))
   try simp only [Rg.lp]
   refine Rg.stp_o 6 ?_
   refine Rg.stepS ?_
   intro K hK
   rw [if_pos (by rfl)]
   go_simp
   go_at_call 80
   refine(hmul_any w.heap.size _ y y _ HST.out r_y r_y).mono ?_
   intro e w1 hc
   rw [YY_.out]at hc
   obtain⟨rfl,hst,hg⟩:=hc
   dsimp only at hst
   have HST:=Lib.hid hst
   have HR:=Hg HR hg (by omega)
   have HH:=Hg HH hg (by omega)
   have HW:=Hg HW hg (by omega)
   have HB:=Hb HB hg (Nat.le_refl _) (by omega)
   replace hsz:=Nat.le_trans hsz hg.size
   clear hst hg
   (try clear k0 k1 k2 k3 k4 k5 k6)
   (try clear kh)
   obtain⟨k0,k1,k2,k3,k4,k5,k6⟩:=st_cells HST.out
   have kh:=one_cell HH.out
   clear HS
   have HS:=And.intro k0 (And.intro k1 (And.intro k2 (And.intro k3 (And.intro k4 kh))))
   go_wp2_with fail
   refine hK.out _ _ HS ?_
   clear hK K
   try simp only [Rg.lp]
   refine Rg.stp_o 10 ?_
   refine Rg.stepF ?_ ?_
   · kernel_rfl
   intro K hK
   rw [if_pos (by rfl)]
   go_simp
   go_at_call 80
   refine(hmul_any w.heap.size _ gate wd _ HST.out r_gate r_wd).mono ?_
   intro e w1 hc
   rw [GQ_.out]at hc
   obtain⟨rfl,hst,hg⟩:=hc
   dsimp only at hst
   have HST:=Lib.hid hst
   have HR:=Hg HR hg (by omega)
   have HH:=Hg HH hg (by omega)
   have HW:=Hg HW hg (by omega)
   have HB:=Hb HB hg (Nat.le_refl _) (by omega)
   replace hsz:=Nat.le_trans hsz hg.size
   clear hst hg
   (try clear k0 k1 k2 k3 k4 k5 k6)
   (try clear kh)
   obtain⟨k0,k1,k2,k3,k4,k5,k6⟩:=st_cells HST.out
   have kh:=one_cell HH.out
   clear HS
   have HS:=And.intro k0 (And.intro k1 (And.intro k2 (And.intro k3 (And.intro k4 kh))))
   go_wp2_with fail
   refine hK.out _ _ ?_
   clear hK K
   try simp only [Rg.lp]
   refine Rg.tp 11 ⟨some 41,.binOp .gtr 3 (.tmp 36) (.tmp 40) 3,_,_,_,some (2,false)⟩ (v:=?_) rfl ?_ ?_
   rotate_left 1
   · (intro w;go_simp;(try with_reducible rfl))
   try simp only [Rg.lp]
   refine Rg.tp 12 ⟨some 42,.pick (.tmp 32) (.const (.bool true)) (.tmp 41),_,_,_,none⟩ (v:=?_) rfl ?_ ?_
   rotate_left 1
   · (intro w;go_simp;(try with_reducible rfl))
   try simp only [Rg.lp]
   refine Rg.doneR (by kernel_rfl) ?_ _
   refine NoPanic.normal ?_
   clear HS
   go_upto_region 8 with fail
   have HST:=Lib.hid (Blk.drew HST.out)
   have HR:=Lib.hid (HR.out.drew)
   have HH:=Lib.hid (HH.out.drew)
   have HW:=Lib.hid (HW.out.drew)
   have HB:=Lib.hid HB.out.drew
   have hsz:w.heap.size+4≤w1.drew.heap.size:=hsz
   (try clear k0 k1 k2 k3 k4 k5 k6)
   (try clear kh)
   obtain⟨k0,k1,k2,k3,k4,k5,k6⟩:=st_cells HST.out
   have kh:=one_cell HH.out
   have HS:=And.intro k0 (And.intro k1 (And.intro k2 (And.intro k3 (And.intro k4 kh))))
   refine wp_region_noPanic ?_
   refine Rg.beginR [0,2,5,7] (fun w'=> w'.cell? ⟨w.heap.size,0,none⟩=some (.int .i64 X)∧ w'.cell? ⟨w.heap.size,1,none⟩=some (.int .i64 V)∧ w'.cell? ⟨w.heap.size,2,none⟩=some (.int .i64 P00)∧ w'.cell? ⟨w.heap.size,3,none⟩=some (.int .i64 P01)∧ w'.cell? ⟨w.heap.size,4,none⟩=some (.int .i64 P11)∧ w'.cell? ⟨gh,0,none⟩=some (.pointer (some ⟨w.heap.size,0,none⟩))) (by kernel_rfl) ?_
   generalize w1.drew=w1 at*
   refine Rg.stp_s 0 ?_ HS (hy:=?_) (h:=?_)
   rotate_left 1
   · (intro w hSw;(try dsimp only at hSw);(try go_split_ands);go_simp;(try with_reducible rfl))
   try simp only [Rg.lp]
   refine Rg.tp 1 ⟨some 49,.fieldAddr 27 (.tmp 4) 2,_,_,_,none⟩ (v:=?_) rfl ?_ ?_
   rotate_left 1
   · (intro w;go_simp;(try with_reducible rfl))
   try simp only [Rg.lp]
   refine Rg.stp_s 2 ?_ HS (hy:=?_) (h:=?_)
   rotate_left 1
   · (intro w hSw;(try dsimp only at hSw);(try go_split_ands);go_simp;(try with_reducible rfl))
   try simp only [Rg.lp]
   refine Rg.tp 3 ⟨some 51,.move (.tmp 13),_,_,_,none⟩ (v:=?_) rfl ?_ ?_
   rotate_left 1
   · (intro w;go_simp;(try with_reducible rfl))
   try simp only [Rg.lp]
   refine Rg.stp_s 5 ?_ HS (hy:=?_) (h:=?_)
   rotate_left 1
   · (intro w hSw;(try dsimp only at hSw);(try go_split_ands);go_simp;(try with_reducible rfl))
   try simp only [Rg.lp]
   refine Rg.tp 6 ⟨some 54,.fieldAddr 27 (.tmp 4) 3,_,_,_,none⟩ (v:=?_) rfl ?_ ?_
   rotate_left 1
   · (intro w;go_simp;(try with_reducible rfl))
   try simp only [Rg.lp]
   refine Rg.stp_s 7 ?_ HS (hy:=?_) (h:=?_)
   rotate_left 1
   · (intro w hSw;(try dsimp only at hSw);(try go_split_ands);go_simp;(try with_reducible rfl))
   try simp only [Rg.lp]
   refine Rg.tp 8 ⟨some 56,.move (.tmp 13),_,_,_,none⟩ (v:=?_) rfl ?_ ?_
   rotate_left 1
   · (intro w;go_simp;(try with_reducible rfl))
   try simp only [Rg.lp]
   refine Rg.stp_o 4 ?_
   refine Rg.stepS ?_
   intro K hK
   rw [if_pos (by rfl)]
   go_simp
   go_at_call 81
   refine(hdiv_any w.heap.size _ P00 wd _ HST.out r_P00 r_wd).mono ?_
   intro e w1 hc
   rw [KQ_.out]at hc
   obtain⟨rfl,hst,hg⟩:=hc
   dsimp only at hst
   have HST:=Lib.hid hst
   have HR:=Hg HR hg (by omega)
   have HH:=Hg HH hg (by omega)
   have HW:=Hg HW hg (by omega)
   have HB:=Hb HB hg (Nat.le_refl _) (by omega)
   replace hsz:=Nat.le_trans hsz hg.size
   clear hst hg
   (try clear k0 k1 k2 k3 k4 k5 k6)
   (try clear kh)
   obtain⟨k0,k1,k2,k3,k4,k5,k6⟩:=st_cells HST.out
   have kh:=one_cell HH.out
   clear HS
   have HS:=And.intro k0 (And.intro k1 (And.intro k2 (And.intro k3 (And.intro k4 kh))))
   go_wp2_with fail
   refine hK.out _ _ HS ?_
   clear hK K
   try simp only [Rg.lp]
   refine Rg.stp_o 9 ?_
   refine Rg.stepF ?_ ?_
   · kernel_rfl
   intro K hK
   rw [if_pos (by rfl)]
   go_simp
   go_at_call 81
   refine(hdiv_any w.heap.size _ P01 wd _ HST.out r_P01 r_wd).mono ?_
   intro e w1 hc
   rw [LQ_.out]at hc
   obtain⟨rfl,hst,hg⟩:=hc
   dsimp only at hst
   have HST:=Lib.hid hst
   have HR:=Hg HR hg (by omega)
   have HH:=Hg HH hg (by omega)
   have HW:=Hg HW hg (by omega)
   have HB:=Hb HB hg (Nat.le_refl _) (by omega)
   replace hsz:=Nat.le_trans hsz hg.size
   clear hst hg
   (try clear k0 k1 k2 k3 k4 k5 k6)
   (try clear kh)
   obtain⟨k0,k1,k2,k3,k4,k5,k6⟩:=st_cells HST.out
   have kh:=one_cell HH.out
   clear HS
   have HS:=And.intro k0 (And.intro k1 (And.intro k2 (And.intro k3 (And.intro k4 kh))))
   go_wp2_with fail
   refine hK.out _ _ ?_
   clear hK K
   try simp only [Rg.lp]
   refine Rg.tp 10 ⟨some 14,.assign (.tmp 52),_,_,_,none⟩ (v:=?_) rfl ?_ ?_
   rotate_left 1
   · (intro w;go_simp;(try with_reducible rfl))
   try simp only [Rg.lp]
   refine Rg.tp 11 ⟨some 15,.assign (.tmp 57),_,_,_,none⟩ (v:=?_) rfl ?_ ?_
   rotate_left 1
   · (intro w;go_simp;(try with_reducible rfl))
   try simp only [Rg.lp]
   refine Rg.doneR (by kernel_rfl) ?_ _
   refine NoPanic.normal ?_
   clear HS
   go_upto_region 9 with fail
   have HST:=Lib.hid (Blk.drew HST.out)
   have HR:=Lib.hid (HR.out.drew)
   have HH:=Lib.hid (HH.out.drew)
   have HW:=Lib.hid (HW.out.drew)
   have HB:=Lib.hid HB.out.drew
   have hsz:w.heap.size+4≤w1.drew.heap.size:=hsz
   (try clear k0 k1 k2 k3 k4 k5 k6)
   (try clear kh)
   obtain⟨k0,k1,k2,k3,k4,k5,k6⟩:=st_cells HST.out
   have kh:=one_cell HH.out
   have HS:=And.intro k0 (And.intro k1 (And.intro k2 (And.intro k3 (And.intro k4 kh))))
   refine wp_region_noPanic ?_
   refine Rg.beginR [0,2,3] (fun w'=> w'.cell? ⟨w.heap.size,0,none⟩=some (.int .i64 X)∧ w'.cell? ⟨w.heap.size,1,none⟩=some (.int .i64 V)∧ w'.cell? ⟨w.heap.size,2,none⟩=some (.int .i64 P00)∧ w'.cell? ⟨w.heap.size,3,none⟩=some (.int .i64 P01)∧ w'.cell? ⟨w.heap.size,4,none⟩=some (.int .i64 P11)∧ w'.cell? ⟨gh,0,none⟩=some (.pointer (some ⟨w.heap.size,0,none⟩))) (by kernel_rfl) ?_
   generalize w1.drew=w1 at*
   refine Rg.stp_s 0 ?_ HS (hy:=?_) (h:=?_)
   rotate_left 1
   · (intro w hSw;(try dsimp only at hSw);(try go_split_ands);go_simp;(try with_reducible rfl))
   try simp only [Rg.lp]
   refine Rg.tp 1 ⟨some 59,.fieldAddr 27 (.tmp 4) 0,_,_,_,none⟩ (v:=?_) rfl ?_ ?_
   rotate_left 1
   · (intro w;go_simp;(try with_reducible rfl))
   try simp only [Rg.lp]
   refine Rg.stp_s 2 ?_ HS (hy:=?_) (h:=?_)
   rotate_left 1
   · (intro w hSw;(try dsimp only at hSw);(try go_split_ands);go_simp;(try with_reducible rfl))
   try simp only [Rg.lp]
   refine Rg.stp_s 3 ?_ HS (hy:=?_) (h:=?_)
   rotate_left 1
   · (intro w hSw;(try dsimp only at hSw);(try go_split_ands);go_simp;(try with_reducible rfl))
   try simp only [Rg.lp]
   refine Rg.tp 4 ⟨some 62,.move (.tmp 14),_,_,_,none⟩ (v:=?_) rfl ?_ ?_
   rotate_left 1
   · (intro w;go_simp;(try with_reducible rfl))
   try simp only [Rg.lp]
   refine Rg.tp 5 ⟨some 63,.move (.tmp 12),_,_,_,none⟩ (v:=?_) rfl ?_ ?_
   rotate_left 1
   · (intro w;go_simp;(try with_reducible rfl))
   try simp only [Rg.lp]
   refine Rg.stp_o 6 ?_
   refine Rg.stepS ?_
   intro K hK
   rw [if_pos (by rfl)]
   go_simp
   go_at_call 80
   refine(hmul_any w.heap.size _ kq y _ HST.out r_kq r_y).mono ?_
   intro e w1 hc
   rw [M1_.out]at hc
   obtain⟨rfl,hst,hg⟩:=hc
   dsimp only at hst
   have HST:=Lib.hid hst
   have HR:=Hg HR hg (by omega)
   have HH:=Hg HH hg (by omega)
   have HW:=Hg HW hg (by omega)
   have HB:=Hb HB hg (Nat.le_refl _) (by omega)
   replace hsz:=Nat.le_trans hsz hg.size
   clear hst hg
   (try clear k0 k1 k2 k3 k4 k5 k6)
   (try clear kh)
   obtain⟨k0,k1,k2,k3,k4,k5,k6⟩:=st_cells HST.out
   have kh:=one_cell HH.out
   clear HS
   have HS:=And.intro k0 (And.intro k1 (And.intro k2 (And.intro k3 (And.intro k4 kh))))
   go_wp2_with fail
   refine hK.out _ _ HS ?_
   clear hK K
   try simp only [Rg.lp]
   refine Rg.stp_o 7 ?_
   refine Rg.stepF ?_ ?_
   · kernel_rfl
   intro K hK
   rw [if_pos (by rfl)]
   go_simp
   go_at_call 79
   refine(hadd_any w.heap.size _ X m1 _ HST.out r_X r_m1).mono ?_
   intro e w1 hc
   rw [X_.out]at hc
   obtain⟨rfl,hst,hg⟩:=hc
   dsimp only at hst
   have HST:=Lib.hid hst
   have HR:=Hg HR hg (by omega)
   have HH:=Hg HH hg (by omega)
   have HW:=Hg HW hg (by omega)
   have HB:=Hb HB hg (Nat.le_refl _) (by omega)
   replace hsz:=Nat.le_trans hsz hg.size
   clear hst hg
   (try clear k0 k1 k2 k3 k4 k5 k6)
   (try clear kh)
   obtain⟨k0,k1,k2,k3,k4,k5,k6⟩:=st_cells HST.out
   have kh:=one_cell HH.out
   clear HS
   have HS:=And.intro k0 (And.intro k1 (And.intro k2 (And.intro k3 (And.intro k4 kh))))
   obtain⟨f0,f1,f2,f3,f4,f5,f6⟩:=st_thaws HST.out
   go_wp2_with fail
   refine hK.out _ _ ?_
   clear hK K
   try simp only [Rg.lp]
   refine Rg.tp 8 ⟨some 66,.fieldAddr 27 (.tmp 4) 0,_,_,_,none⟩ (v:=?_) rfl ?_ ?_
   rotate_left 1
   · (intro w;go_simp;(try with_reducible rfl))
   try simp only [Rg.lp]
   refine Rg.stp_o 9 ?_
   refine Rg.stepF ?_ ?_
   · kernel_rfl
   intro K hK
   go_simp
   refine hK.out _ _ ?_
   clear hK K
   try simp only [Rg.lp]
   refine Rg.doneR (by kernel_rfl) ?_ _
   refine NoPanic.normal ?_
   clear HS
   clear f0 f1 f2 f3 f4 f5 f6
   have HP:=Lib.hid (show StAt (w1.setCell ⟨w.heap.size,0,none⟩ (.int .i64 x)) w.heap.size ⟨x,V,P00,P01,P11,((((((((bent||yb)||wdb)||yyb)||gqb)||kqb)||lqb)||m1b)||xb),missed⟩from Blk.set HST.out 0 (.int .i64 x))
   have HR:=Lib.hid (HR.out.other (p:=⟨w.heap.size,0,none⟩) (by show _≠w.heap.size;omega) (.int .i64 x))
   have HH:=Lib.hid (HH.out.other (p:=⟨w.heap.size,0,none⟩) (by show _≠w.heap.size;omega) (.int .i64 x))
   have HW:=Lib.hid (HW.out.other (p:=⟨w.heap.size,0,none⟩) (by show _≠w.heap.size;omega) (.int .i64 x))
   have HB:=Lib.hid (HB.out.setCell (p:=⟨w.heap.size,0,none⟩) (by show _≤w.heap.size;omega) (.int .i64 x))
   replace hsz:w.heap.size+4≤(w1.setCell ⟨w.heap.size,0,none⟩ (.int .i64 x)).heap.size:=by simpa using hsz
   have HST:=HP
   clear HP
   generalize(w1.setCell ⟨w.heap.size,0,none⟩ (.int .i64 x))=w1 at*
   (try clear k0 k1 k2 k3 k4 k5 k6)
   (try clear kh)
   obtain⟨k0,k1,k2,k3,k4,k5,k6⟩:=st_cells HST.out
   have kh:=one_cell HH.out
   go_upto_region 10 with fail
   have HST:=Lib.hid (Blk.drew HST.out)
   have HR:=Lib.hid (HR.out.drew)
   have HH:=Lib.hid (HH.out.drew)
   have HW:=Lib.hid (HW.out.drew)
   have HB:=Lib.hid HB.out.drew
   have hsz:w.heap.size+4≤w1.drew.heap.size:=hsz
   (try clear k0 k1 k2 k3 k4 k5 k6)
   (try clear kh)
   obtain⟨k0,k1,k2,k3,k4,k5,k6⟩:=st_cells HST.out
   have kh:=one_cell HH.out
   have HS:=And.intro k0 (And.intro k1 (And.intro k2 (And.intro k3 (And.intro k4 kh))))
   refine wp_region_noPanic ?_
   refine Rg.beginR [0,2,3] (fun w'=> w'.cell? ⟨w.heap.size,0,none⟩=some (.int .i64 x)∧ w'.cell? ⟨w.heap.size,1,none⟩=some (.int .i64 V)∧ w'.cell? ⟨w.heap.size,2,none⟩=some (.int .i64 P00)∧ w'.cell? ⟨w.heap.size,3,none⟩=some (.int .i64 P01)∧ w'.cell? ⟨w.heap.size,4,none⟩=some (.int .i64 P11)∧ w'.cell? ⟨gh,0,none⟩=some (.pointer (some ⟨w.heap.size,0,none⟩))) (by kernel_rfl) ?_
   generalize w1.drew=w1 at*
   refine Rg.stp_s 0 ?_ HS (hy:=?_) (h:=?_)
   rotate_left 1
   · (intro w hSw;(try dsimp only at hSw);(try go_split_ands);go_simp;(try with_reducible rfl))
   try simp only [Rg.lp]
   refine Rg.tp 1 ⟨some 68,.fieldAddr 27 (.tmp 4) 1,_,_,_,none⟩ (v:=?_) rfl ?_ ?_
   rotate_left 1
   · (intro w;go_simp;(try with_reducible rfl))
   try simp only [Rg.lp]
   refine Rg.stp_s 2 ?_ HS (hy:=?_) (h:=?_)
   rotate_left 1
   · (intro w hSw;(try dsimp only at hSw);(try go_split_ands);go_simp;(try with_reducible rfl))
   try simp only [Rg.lp]
   refine Rg.stp_s 3 ?_ HS (hy:=?_) (h:=?_)
   rotate_left 1
   · (intro w hSw;(try dsimp only at hSw);(try go_split_ands);go_simp;(try with_reducible rfl))
   try simp only [Rg.lp]
   refine Rg.tp 4 ⟨some 71,.move (.tmp 15),_,_,_,none⟩ (v:=?_) rfl ?_ ?_
   rotate_left 1
   · (intro w;go_simp;(try with_reducible rfl))
   try simp only [Rg.lp]
   refine Rg.tp 5 ⟨some 72,.move (.tmp 12),_,_,_,none⟩ (v:=?_) rfl ?_ ?_
   rotate_left 1
   · (intro w;go_simp;(try with_reducible rfl))
   try simp only [Rg.lp]
   refine Rg.stp_o 6 ?_
   refine Rg.stepS ?_
   intro K hK
   rw [if_pos (by rfl)]
   go_simp
   go_at_call 80
   refine(hmul_any w.heap.size _ lq y _ HST.out r_lq r_y).mono ?_
   intro e w1 hc
   rw [M2_.out]at hc
   obtain⟨rfl,hst,hg⟩:=hc
   dsimp only at hst
   have HST:=Lib.hid hst
   have HR:=Hg HR hg (by omega)
   have HH:=Hg HH hg (by omega)
   have HW:=Hg HW hg (by omega)
   have HB:=Hb HB hg (Nat.le_refl _) (by omega)
   replace hsz:=Nat.le_trans hsz hg.size
   clear hst hg
   (try clear k0 k1 k2 k3 k4 k5 k6)
   (try clear kh)
   obtain⟨k0,k1,k2,k3,k4,k5,k6⟩:=st_cells HST.out
   have kh:=one_cell HH.out
   clear HS
   have HS:=And.intro k0 (And.intro k1 (And.intro k2 (And.intro k3 (And.intro k4 kh))))
   go_wp2_with fail
   refine hK.out _ _ HS ?_
   clear hK K
   try simp only [Rg.lp]
   refine Rg.stp_o 7 ?_
   refine Rg.stepF ?_ ?_
   · kernel_rfl
   intro K hK
   rw [if_pos (by rfl)]
   go_simp
   go_at_call 79
   refine(hadd_any w.heap.size _ V m2 _ HST.out r_V r_m2).mono ?_
   intro e w1 hc
   rw [V_.out]at hc
   obtain⟨rfl,hst,hg⟩:=hc
   dsimp only at hst
   have HST:=Lib.hid hst
   have HR:=Hg HR hg (by omega)
   have HH:=Hg HH hg (by omega)
   have HW:=Hg HW hg (by omega)
   have HB:=Hb HB hg (Nat.le_refl _) (by omega)
   replace hsz:=Nat.le_trans hsz hg.size
   clear hst hg
   (try clear k0 k1 k2 k3 k4 k5 k6)
   (try clear kh)
   obtain⟨k0,k1,k2,k3,k4,k5,k6⟩:=st_cells HST.out
   have kh:=one_cell HH.out
   clear HS
   have HS:=And.intro k0 (And.intro k1 (And.intro k2 (And.intro k3 (And.intro k4 kh))))
   obtain⟨f0,f1,f2,f3,f4,f5,f6⟩:=st_thaws HST.out
   go_wp2_with fail
   refine hK.out _ _ ?_
   clear hK K
   try simp only [Rg.lp]
   refine Rg.tp 8 ⟨some 75,.fieldAddr 27 (.tmp 4) 1,_,_,_,none⟩ (v:=?_) rfl ?_ ?_
   rotate_left 1
   · (intro w;go_simp;(try with_reducible rfl))
   try simp only [Rg.lp]
   refine Rg.stp_o 9 ?_
   refine Rg.stepF ?_ ?_
   · kernel_rfl
   intro K hK
   go_simp
   refine hK.out _ _ ?_
   clear hK K
   try simp only [Rg.lp]
   refine Rg.doneR (by kernel_rfl) ?_ _
   refine NoPanic.normal ?_
   clear HS
   clear f0 f1 f2 f3 f4 f5 f6
   have HP:=Lib.hid (show StAt (w1.setCell ⟨w.heap.size,1,none⟩ (.int .i64 v)) w.heap.size ⟨x,v,P00,P01,P11,((((((((((bent||yb)||wdb)||yyb)||gqb)||kqb)||lqb)||m1b)||xb)||m2b)||vb),missed⟩from Blk.set HST.out 1 (.int .i64 v))
   have HR:=Lib.hid (HR.out.other (p:=⟨w.heap.size,1,none⟩) (by show _≠w.heap.size;omega) (.int .i64 v))
   have HH:=Lib.hid (HH.out.other (p:=⟨w.heap.size,1,none⟩) (by show _≠w.heap.size;omega) (.int .i64 v))
   have HW:=Lib.hid (HW.out.other (p:=⟨w.heap.size,1,none⟩) (by show _≠w.heap.size;omega) (.int .i64 v))
   have HB:=Lib.hid (HB.out.setCell (p:=⟨w.heap.size,1,none⟩) (by show _≤w.heap.size;omega) (.int .i64 v))
   replace hsz:w.heap.size+4≤(w1.setCell ⟨w.heap.size,1,none⟩ (.int .i64 v)).heap.size:=by simpa using hsz
   have HST:=HP
   clear HP
   generalize(w1.setCell ⟨w.heap.size,1,none⟩ (.int .i64 v))=w1 at*
   (try clear k0 k1 k2 k3 k4 k5 k6)
   (try clear kh)
   obtain⟨k0,k1,k2,k3,k4,k5,k6⟩:=st_cells HST.out
   have kh:=one_cell HH.out
   go_upto_region 11 with fail
   have HST:=Lib.hid (Blk.drew HST.out)
   have HR:=Lib.hid (HR.out.drew)
   have HH:=Lib.hid (HH.out.drew)
   have HW:=Lib.hid (HW.out.drew)
   have HB:=Lib.hid HB.out.drew
   have hsz:w.heap.size+4≤w1.drew.heap.size:=hsz
   (try clear k0 k1 k2 k3 k4 k5 k6)
   (try clear kh)
   obtain⟨k0,k1,k2,k3,k4,k5,k6⟩:=st_cells HST.out
   have kh:=one_cell HH.out
   have HS:=And.intro k0 (And.intro k1 (And.intro k2 (And.intro k3 (And.intro k4 kh))))
   refine wp_region_noPanic ?_
   refine Rg.beginR [1,3] (fun w'=> w'.cell? ⟨w.heap.size,0,none⟩=some (.int .i64 x)∧ w'.cell? ⟨w.heap.size,1,none⟩=some (.int .i64 v)∧ w'.cell? ⟨w.heap.size,2,none⟩=some (.int .i64 P00)∧ w'.cell? ⟨w.heap.size,3,none⟩=some (.int .i64 P01)∧ w'.cell? ⟨w.heap.size,4,none⟩=some (.int .i64 P11)∧ w'.cell? ⟨gh,0,none⟩=some (.pointer (some ⟨w.heap.size,0,none⟩))) (by kernel_rfl) ?_
   generalize w1.drew=w1 at*
   refine Rg.tp 0 ⟨some 76,.fieldAddr 27 (.tmp 4) 2,_,_,_,none⟩ (v:=?_) rfl ?_ ?_
   rotate_left 1
   · (intro w;go_simp;(try with_reducible rfl))
   try simp only [Rg.lp]
   refine Rg.stp_s 1 ?_ HS (hy:=?_) (h:=?_)
   rotate_left 1
   · (intro w hSw;(try dsimp only at hSw);(try go_split_ands);go_simp;(try with_reducible rfl))
   try simp only [Rg.lp]
   refine Rg.tp 2 ⟨some 78,.fieldAddr 27 (.tmp 4) 3,_,_,_,none⟩ (v:=?_) rfl ?_ ?_
   rotate_left 1
   · (intro w;go_simp;(try with_reducible rfl))
   try simp only [Rg.lp]
   refine Rg.stp_s 3 ?_ HS (hy:=?_) (h:=?_)
   rotate_left 1
   · (intro w hSw;(try dsimp only at hSw);(try go_split_ands);go_simp;(try with_reducible rfl))
   try simp only [Rg.lp]
   refine Rg.tp 4 ⟨some 16,.assign (.tmp 77),_,_,_,none⟩ (v:=?_) rfl ?_ ?_
   rotate_left 1
   · (intro w;go_simp;(try with_reducible rfl))
   try simp only [Rg.lp]
   refine Rg.tp 5 ⟨some 17,.assign (.tmp 79),_,_,_,none⟩ (v:=?_) rfl ?_ ?_
   rotate_left 1
   · (intro w;go_simp;(try with_reducible rfl))
   try simp only [Rg.lp]
   refine Rg.doneR (by kernel_rfl) ?_ _
   refine NoPanic.normal ?_
   clear HS
   go_upto_region 12 with fail
   have HST:=Lib.hid (Blk.drew HST.out)
   have HR:=Lib.hid (HR.out.drew)
   have HH:=Lib.hid (HH.out.drew)
   have HW:=Lib.hid (HW.out.drew)
   have HB:=Lib.hid HB.out.drew
   have hsz:w.heap.size+4≤w1.drew.heap.size:=hsz
   (try clear k0 k1 k2 k3 k4 k5 k6)
   (try clear kh)
   obtain⟨k0,k1,k2,k3,k4,k5,k6⟩:=st_cells HST.out
   have kh:=one_cell HH.out
   have HS:=And.intro k0 (And.intro k1 (And.intro k2 (And.intro k3 (And.intro k4 kh))))
   refine wp_region_noPanic ?_
   refine Rg.beginR [0,2,3] (fun w'=> w'.cell? ⟨w.heap.size,0,none⟩=some (.int .i64 x)∧ w'.cell? ⟨w.heap.size,1,none⟩=some (.int .i64 v)∧ w'.cell? ⟨w.heap.size,2,none⟩=some (.int .i64 P00)∧ w'.cell? ⟨w.heap.size,3,none⟩=some (.int .i64 P01)∧ w'.cell? ⟨w.heap.size,4,none⟩=some (.int .i64 P11)∧ w'.cell? ⟨gh,0,none⟩=some (.pointer (some ⟨w.heap.size,0,none⟩))) (by kernel_rfl) ?_
   generalize w1.drew=w1 at*
   refine Rg.stp_s 0 ?_ HS (hy:=?_) (h:=?_)
   rotate_left 1
   · (intro w hSw;(try dsimp only at hSw);(try go_split_ands);go_simp;(try with_reducible rfl))
   try simp only [Rg.lp]
   refine Rg.tp 1 ⟨some 81,.fieldAddr 27 (.tmp 4) 2,_,_,_,none⟩ (v:=?_) rfl ?_ ?_
   rotate_left 1
   · (intro w;go_simp;(try with_reducible rfl))
   try simp only [Rg.lp]
   refine Rg.stp_s 2 ?_ HS (hy:=?_) (h:=?_)
   rotate_left 1
   · (intro w hSw;(try dsimp only at hSw);(try go_split_ands);go_simp;(try with_reducible rfl))
   try simp only [Rg.lp]
   refine Rg.stp_s 3 ?_ HS (hy:=?_) (h:=?_)
   rotate_left 1
   · (intro w hSw;(try dsimp only at hSw);(try go_split_ands);go_simp;(try with_reducible rfl))
   try simp only [Rg.lp]
   refine Rg.tp 4 ⟨some 84,.move (.tmp 14),_,_,_,none⟩ (v:=?_) rfl ?_ ?_
   rotate_left 1
   · (intro w;go_simp;(try with_reducible rfl))
   try simp only [Rg.lp]
   refine Rg.tp 5 ⟨some 85,.move (.tmp 16),_,_,_,none⟩ (v:=?_) rfl ?_ ?_
   rotate_left 1
   · (intro w;go_simp;(try with_reducible rfl))
   try simp only [Rg.lp]
   refine Rg.stp_o 6 ?_
   refine Rg.stepS ?_
   intro K hK
   rw [if_pos (by rfl)]
   go_simp
   go_at_call 80
   refine(hmul_any w.heap.size _ kq P00 _ HST.out r_kq r_P00).mono ?_
   intro e w1 hc
   rw [M3_.out]at hc
   obtain⟨rfl,hst,hg⟩:=hc
   dsimp only at hst
   have HST:=Lib.hid hst
   have HR:=Hg HR hg (by omega)
   have HH:=Hg HH hg (by omega)
   have HW:=Hg HW hg (by omega)
   have HB:=Hb HB hg (Nat.le_refl _) (by omega)
   replace hsz:=Nat.le_trans hsz hg.size
   clear hst hg
   (try clear k0 k1 k2 k3 k4 k5 k6)
   (try clear kh)
   obtain⟨k0,k1,k2,k3,k4,k5,k6⟩:=st_cells HST.out
   have kh:=one_cell HH.out
   clear HS
   have HS:=And.intro k0 (And.intro k1 (And.intro k2 (And.intro k3 (And.intro k4 kh))))
   go_wp2_with fail
   refine hK.out _ _ HS ?_
   clear hK K
   try simp only [Rg.lp]
   refine Rg.stp_o 7 ?_
   refine Rg.stepF ?_ ?_
   · kernel_rfl
   intro K hK
   rw [if_pos (by rfl)]
   go_simp
   go_at_call 78
   refine(hsub_any w.heap.size _ P00 m3 _ HST.out r_P00 r_m3).mono ?_
   intro e w1 hc
   rw [P0_.out]at hc
   obtain⟨rfl,hst,hg⟩:=hc
   dsimp only at hst
   have HST:=Lib.hid hst
   have HR:=Hg HR hg (by omega)
   have HH:=Hg HH hg (by omega)
   have HW:=Hg HW hg (by omega)
   have HB:=Hb HB hg (Nat.le_refl _) (by omega)
   replace hsz:=Nat.le_trans hsz hg.size
   clear hst hg
   (try clear k0 k1 k2 k3 k4 k5 k6)
   (try clear kh)
   obtain⟨k0,k1,k2,k3,k4,k5,k6⟩:=st_cells HST.out
   have kh:=one_cell HH.out
   clear HS
   have HS:=And.intro k0 (And.intro k1 (And.intro k2 (And.intro k3 (And.intro k4 kh))))
   obtain⟨f0,f1,f2,f3,f4,f5,f6⟩:=st_thaws HST.out
   go_wp2_with fail
   refine hK.out _ _ ?_
   clear hK K
   try simp only [Rg.lp]
   refine Rg.tp 8 ⟨some 88,.fieldAddr 27 (.tmp 4) 2,_,_,_,none⟩ (v:=?_) rfl ?_ ?_
   rotate_left 1
   · (intro w;go_simp;(try with_reducible rfl))
   try simp only [Rg.lp]
   refine Rg.stp_o 9 ?_
   refine Rg.stepF ?_ ?_
   · kernel_rfl
   intro K hK
   go_simp
   refine hK.out _ _ ?_
   clear hK K
   try simp only [Rg.lp]
   refine Rg.doneR (by kernel_rfl) ?_ _
   refine NoPanic.normal ?_
   clear HS
   clear f0 f1 f2 f3 f4 f5 f6
   have HP:=Lib.hid (show StAt (w1.setCell ⟨w.heap.size,2,none⟩ (.int .i64 p0)) w.heap.size ⟨x,v,p0,P01,P11,((((((((((((bent||yb)||wdb)||yyb)||gqb)||kqb)||lqb)||m1b)||xb)||m2b)||vb)||m3b)||p0b),missed⟩from Blk.set HST.out 2 (.int .i64 p0))
   have HR:=Lib.hid (HR.out.other (p:=⟨w.heap.size,2,none⟩) (by show _≠w.heap.size;omega) (.int .i64 p0))
   have HH:=Lib.hid (HH.out.other (p:=⟨w.heap.size,2,none⟩) (by show _≠w.heap.size;omega) (.int .i64 p0))
   have HW:=Lib.hid (HW.out.other (p:=⟨w.heap.size,2,none⟩) (by show _≠w.heap.size;omega) (.int .i64 p0))
   have HB:=Lib.hid (HB.out.setCell (p:=⟨w.heap.size,2,none⟩) (by show _≤w.heap.size;omega) (.int .i64 p0))
   replace hsz:w.heap.size+4≤(w1.setCell ⟨w.heap.size,2,none⟩ (.int .i64 p0)).heap.size:=by simpa using hsz
   have HST:=HP
   clear HP
   generalize(w1.setCell ⟨w.heap.size,2,none⟩ (.int .i64 p0))=w1 at*
   (try clear k0 k1 k2 k3 k4 k5 k6)
   (try clear kh)
   obtain⟨k0,k1,k2,k3,k4,k5,k6⟩:=st_cells HST.out
   have kh:=one_cell HH.out
   go_upto_region 13 with fail
   have HST:=Lib.hid (Blk.drew HST.out)
   have HR:=Lib.hid (HR.out.drew)
   have HH:=Lib.hid (HH.out.drew)
   have HW:=Lib.hid (HW.out.drew)
   have HB:=Lib.hid HB.out.drew
   have hsz:w.heap.size+4≤w1.drew.heap.size:=hsz
   (try clear k0 k1 k2 k3 k4 k5 k6)
   (try clear kh)
   obtain⟨k0,k1,k2,k3,k4,k5,k6⟩:=st_cells HST.out
   have kh:=one_cell HH.out
   have HS:=And.intro k0 (And.intro k1 (And.intro k2 (And.intro k3 (And.intro k4 kh))))
   refine wp_region_noPanic ?_
   refine Rg.beginR [0,2,3] (fun w'=> w'.cell? ⟨w.heap.size,0,none⟩=some (.int .i64 x)∧ w'.cell? ⟨w.heap.size,1,none⟩=some (.int .i64 v)∧ w'.cell? ⟨w.heap.size,2,none⟩=some (.int .i64 p0)∧ w'.cell? ⟨w.heap.size,3,none⟩=some (.int .i64 P01)∧ w'.cell? ⟨w.heap.size,4,none⟩=some (.int .i64 P11)∧ w'.cell? ⟨gh,0,none⟩=some (.pointer (some ⟨w.heap.size,0,none⟩))) (by kernel_rfl) ?_
   generalize w1.drew=w1 at*
   refine Rg.stp_s 0 ?_ HS (hy:=?_) (h:=?_)
   rotate_left 1
   · (intro w hSw;(try dsimp only at hSw);(try go_split_ands);go_simp;(try with_reducible rfl))
   try simp only [Rg.lp]
   refine Rg.tp 1 ⟨some 90,.fieldAddr 27 (.tmp 4) 3,_,_,_,none⟩ (v:=?_) rfl ?_ ?_
   rotate_left 1
   · (intro w;go_simp;(try with_reducible rfl))
   try simp only [Rg.lp]
   refine Rg.stp_s 2 ?_ HS (hy:=?_) (h:=?_)
   rotate_left 1
   · (intro w hSw;(try dsimp only at hSw);(try go_split_ands);go_simp;(try with_reducible rfl))
   try simp only [Rg.lp]
   refine Rg.stp_s 3 ?_ HS (hy:=?_) (h:=?_)
   rotate_left 1
   · (intro w hSw;(try dsimp only at hSw);(try go_split_ands);go_simp;(try with_reducible rfl))
   try simp only [Rg.lp]
   refine Rg.tp 4 ⟨some 93,.move (.tmp 14),_,_,_,none⟩ (v:=?_) rfl ?_ ?_
   rotate_left 1
   · (intro w;go_simp;(try with_reducible rfl))
   try simp only [Rg.lp]
   refine Rg.tp 5 ⟨some 94,.move (.tmp 17),_,_,_,none⟩ (v:=?_) rfl ?_ ?_
   rotate_left 1
   · (intro w;go_simp;(try with_reducible rfl))
   try simp only [Rg.lp]
   refine Rg.stp_o 6 ?_
   refine Rg.stepS ?_
   intro K hK
   rw [if_pos (by rfl)]
   go_simp
   go_at_call 80
   refine(hmul_any w.heap.size _ kq P01 _ HST.out r_kq r_P01).mono ?_
   intro e w1 hc
   rw [M4_.out]at hc
   obtain⟨rfl,hst,hg⟩:=hc
   dsimp only at hst
   have HST:=Lib.hid hst
   have HR:=Hg HR hg (by omega)
   have HH:=Hg HH hg (by omega)
   have HW:=Hg HW hg (by omega)
   have HB:=Hb HB hg (Nat.le_refl _) (by omega)
   replace hsz:=Nat.le_trans hsz hg.size
   clear hst hg
   (try clear k0 k1 k2 k3 k4 k5 k6)
   (try clear kh)
   obtain⟨k0,k1,k2,k3,k4,k5,k6⟩:=st_cells HST.out
   have kh:=one_cell HH.out
   clear HS
   have HS:=And.intro k0 (And.intro k1 (And.intro k2 (And.intro k3 (And.intro k4 kh))))
   go_wp2_with fail
   refine hK.out _ _ HS ?_
   clear hK K
   try simp only [Rg.lp]
   refine Rg.stp_o 7 ?_
   refine Rg.stepF ?_ ?_
   · kernel_rfl
   intro K hK
   rw [if_pos (by rfl)]
   go_simp
   go_at_call 78
   refine(hsub_any w.heap.size _ P01 m4 _ HST.out r_P01 r_m4).mono ?_
   intro e w1 hc
   rw [P1_.out]at hc
   obtain⟨rfl,hst,hg⟩:=hc
   dsimp only at hst
   have HST:=Lib.hid hst
   have HR:=Hg HR hg (by omega)
   have HH:=Hg HH hg (by omega)
   have HW:=Hg HW hg (by omega)
   have HB:=Hb HB hg (Nat.le_refl _) (by omega)
   replace hsz:=Nat.le_trans hsz hg.size
   clear hst hg
   (try clear k0 k1 k2 k3 k4 k5 k6)
   (try clear kh)
   obtain⟨k0,k1,k2,k3,k4,k5,k6⟩:=st_cells HST.out
   have kh:=one_cell HH.out
   clear HS
   have HS:=And.intro k0 (And.intro k1 (And.intro k2 (And.intro k3 (And.intro k4 kh))))
   obtain⟨f0,f1,f2,f3,f4,f5,f6⟩:=st_thaws HST.out
   go_wp2_with fail
   refine hK.out _ _ ?_
   clear hK K
   try simp only [Rg.lp]
   refine Rg.tp 8 ⟨some 97,.fieldAddr 27 (.tmp 4) 3,_,_,_,none⟩ (v:=?_) rfl ?_ ?_
   rotate_left 1
   · (intro w;go_simp;(try with_reducible rfl))
   try simp only [Rg.lp]
   refine Rg.stp_o 9 ?_
   refine Rg.stepF ?_ ?_
   · kernel_rfl
   intro K hK
   go_simp
   refine hK.out _ _ ?_
   clear hK K
   try simp only [Rg.lp]
   refine Rg.doneR (by kernel_rfl) ?_ _
   refine NoPanic.normal ?_
   clear HS
   clear f0 f1 f2 f3 f4 f5 f6
   have HP:=Lib.hid (show StAt (w1.setCell ⟨w.heap.size,3,none⟩ (.int .i64 p1)) w.heap.size ⟨x,v,p0,p1,P11,((((((((((((((bent||yb)||wdb)||yyb)||gqb)||kqb)||lqb)||m1b)||xb)||m2b)||vb)||m3b)||p0b)||m4b)||p1b),missed⟩from Blk.set HST.out 3 (.int .i64 p1))
   have HR:=Lib.hid (HR.out.other (p:=⟨w.heap.size,3,none⟩) (by show _≠w.heap.size;omega) (.int .i64 p1))
   have HH:=Lib.hid (HH.out.other (p:=⟨w.heap.size,3,none⟩) (by show _≠w.heap.size;omega) (.int .i64 p1))
   have HW:=Lib.hid (HW.out.other (p:=⟨w.heap.size,3,none⟩) (by show _≠w.heap.size;omega) (.int .i64 p1))
   have HB:=Lib.hid (HB.out.setCell (p:=⟨w.heap.size,3,none⟩) (by show _≤w.heap.size;omega) (.int .i64 p1))
   replace hsz:w.heap.size+4≤(w1.setCell ⟨w.heap.size,3,none⟩ (.int .i64 p1)).heap.size:=by simpa using hsz
   have HST:=HP
   clear HP
   generalize(w1.setCell ⟨w.heap.size,3,none⟩ (.int .i64 p1))=w1 at*
   (try clear k0 k1 k2 k3 k4 k5 k6)
   (try clear kh)
   obtain⟨k0,k1,k2,k3,k4,k5,k6⟩:=st_cells HST.out
   have kh:=one_cell HH.out
   go_upto_region 14 with fail
   have HST:=Lib.hid (Blk.drew HST.out)
   have HR:=Lib.hid (HR.out.drew)
   have HH:=Lib.hid (HH.out.drew)
   have HW:=Lib.hid (HW.out.drew)
   have HB:=Lib.hid HB.out.drew
   have hsz:w.heap.size+4≤w1.drew.heap.size:=hsz
   (try clear k0 k1 k2 k3 k4 k5 k6)
   (try clear kh)
   obtain⟨k0,k1,k2,k3,k4,k5,k6⟩:=st_cells HST.out
   have kh:=one_cell HH.out
   have HS:=And.intro k0 (And.intro k1 (And.intro k2 (And.intro k3 (And.intro k4 kh))))
   refine wp_region_noPanic ?_
   refine Rg.beginR [0,2,3] (fun w'=> w'.cell? ⟨w.heap.size,0,none⟩=some (.int .i64 x)∧ w'.cell? ⟨w.heap.size,1,none⟩=some (.int .i64 v)∧ w'.cell? ⟨w.heap.size,2,none⟩=some (.int .i64 p0)∧ w'.cell? ⟨w.heap.size,3,none⟩=some (.int .i64 p1)∧ w'.cell? ⟨w.heap.size,4,none⟩=some (.int .i64 P11)∧ w'.cell? ⟨gh,0,none⟩=some (.pointer (some ⟨w.heap.size,0,none⟩))) (by kernel_rfl) ?_
   generalize w1.drew=w1 at*
   refine Rg.stp_s 0 ?_ HS (hy:=?_) (h:=?_)
   rotate_left 1
   · (intro w hSw;(try dsimp only at hSw);(try go_split_ands);go_simp;(try with_reducible rfl))
   try simp only [Rg.lp]
   refine Rg.tp 1 ⟨some 99,.fieldAddr 27 (.tmp 4) 4,_,_,_,none⟩ (v:=?_) rfl ?_ ?_
   rotate_left 1
   · (intro w;go_simp;(try with_reducible rfl))
   try simp only [Rg.lp]
   refine Rg.stp_s 2 ?_ HS (hy:=?_) (h:=?_)
   rotate_left 1
   · (intro w hSw;(try dsimp only at hSw);(try go_split_ands);go_simp;(try with_reducible rfl))
   try simp only [Rg.lp]
   refine Rg.stp_s 3 ?_ HS (hy:=?_) (h:=?_)
   rotate_left 1
   · (intro w hSw;(try dsimp only at hSw);(try go_split_ands);go_simp;(try with_reducible rfl))
   try simp only [Rg.lp]
   refine Rg.tp 4 ⟨some 102,.move (.tmp 15),_,_,_,none⟩ (v:=?_) rfl ?_ ?_
   rotate_left 1
   · (intro w;go_simp;(try with_reducible rfl))
   try simp only [Rg.lp]
   refine Rg.tp 5 ⟨some 103,.move (.tmp 17),_,_,_,none⟩ (v:=?_) rfl ?_ ?_
   rotate_left 1
   · (intro w;go_simp;(try with_reducible rfl))
   try simp only [Rg.lp]
   refine Rg.stp_o 6 ?_
   refine Rg.stepS ?_
   intro K hK
   rw [if_pos (by rfl)]
   go_simp
   go_at_call 80
   refine(hmul_any w.heap.size _ lq P01 _ HST.out r_lq r_P01).mono ?_
   intro e w1 hc
   rw [M5_.out]at hc
   obtain⟨rfl,hst,hg⟩:=hc
   dsimp only at hst
   have HST:=Lib.hid hst
   have HR:=Hg HR hg (by omega)
   have HH:=Hg HH hg (by omega)
   have HW:=Hg HW hg (by omega)
   have HB:=Hb HB hg (Nat.le_refl _) (by omega)
   replace hsz:=Nat.le_trans hsz hg.size
   clear hst hg
   (try clear k0 k1 k2 k3 k4 k5 k6)
   (try clear kh)
   obtain⟨k0,k1,k2,k3,k4,k5,k6⟩:=st_cells HST.out
   have kh:=one_cell HH.out
   clear HS
   have HS:=And.intro k0 (And.intro k1 (And.intro k2 (And.intro k3 (And.intro k4 kh))))
   go_wp2_with fail
   refine hK.out _ _ HS ?_
   clear hK K
   try simp only [Rg.lp]
   refine Rg.stp_o 7 ?_
   refine Rg.stepF ?_ ?_
   · kernel_rfl
   intro K hK
   rw [if_pos (by rfl)]
   go_simp
   go_at_call 78
   refine(hsub_any w.heap.size _ P11 m5 _ HST.out r_P11 r_m5).mono ?_
   intro e w1 hc
   rw [P2_.out]at hc
   obtain⟨rfl,hst,hg⟩:=hc
   dsimp only at hst
   have HST:=Lib.hid hst
   have HR:=Hg HR hg (by omega)
   have HH:=Hg HH hg (by omega)
   have HW:=Hg HW hg (by omega)
   have HB:=Hb HB hg (Nat.le_refl _) (by omega)
   replace hsz:=Nat.le_trans hsz hg.size
   clear hst hg
   (try clear k0 k1 k2 k3 k4 k5 k6)
   (try clear kh)
   obtain⟨k0,k1,k2,k3,k4,k5,k6⟩:=st_cells HST.out
   have kh:=one_cell HH.out
   clear HS
   have HS:=And.intro k0 (And.intro k1 (And.intro k2 (And.intro k3 (And.intro k4 kh))))
   obtain⟨f0,f1,f2,f3,f4,f5,f6⟩:=st_thaws HST.out
   go_wp2_with fail
   refine hK.out _ _ ?_
   clear hK K
   try simp only [Rg.lp]
   refine Rg.tp 8 ⟨some 106,.fieldAddr 27 (.tmp 4) 4,_,_,_,none⟩ (v:=?_) rfl ?_ ?_
   rotate_left 1
   · (intro w;go_simp;(try with_reducible rfl))
   try simp only [Rg.lp]
   refine Rg.stp_o 9 ?_
   refine Rg.stepF ?_ ?_
   · kernel_rfl
   intro K hK
   go_simp
   refine hK.out _ _ ?_
   clear hK K
   try simp only [Rg.lp]
   refine Rg.doneR (by kernel_rfl) ?_ _
   refine NoPanic.normal ?_
   clear HS
   clear f0 f1 f2 f3 f4 f5 f6
   have HP:=Lib.hid (show StAt (w1.setCell ⟨w.heap.size,4,none⟩ (.int .i64 p2)) w.heap.size ⟨x,v,p0,p1,p2,((((((((((((((((bent||yb)||wdb)||yyb)||gqb)||kqb)||lqb)||m1b)||xb)||m2b)||vb)||m3b)||p0b)||m4b)||p1b)||m5b)||p2b),missed⟩from Blk.set HST.out 4 (.int .i64 p2))
   have HR:=Lib.hid (HR.out.other (p:=⟨w.heap.size,4,none⟩) (by show _≠w.heap.size;omega) (.int .i64 p2))
   have HH:=Lib.hid (HH.out.other (p:=⟨w.heap.size,4,none⟩) (by show _≠w.heap.size;omega) (.int .i64 p2))
   have HW:=Lib.hid (HW.out.other (p:=⟨w.heap.size,4,none⟩) (by show _≠w.heap.size;omega) (.int .i64 p2))
   have HB:=Lib.hid (HB.out.setCell (p:=⟨w.heap.size,4,none⟩) (by show _≤w.heap.size;omega) (.int .i64 p2))
   replace hsz:w.heap.size+4≤(w1.setCell ⟨w.heap.size,4,none⟩ (.int .i64 p2)).heap.size:=by simpa using hsz
   have HST:=HP
   clear HP
   generalize(w1.setCell ⟨w.heap.size,4,none⟩ (.int .i64 p2))=w1 at*
   (try clear k0 k1 k2 k3 k4 k5 k6)
   (try clear kh)
   obtain⟨k0,k1,k2,k3,k4,k5,k6⟩:=st_cells HST.out
   have kh:=one_cell HH.out
   obtain⟨f0,f1,f2,f3,f4,f5,f6⟩:=st_thaws HST.out
   go_upto_region 16 with fail
   clear f0 f1 f2 f3 f4 f5 f6
   have HP:=Lib.hid (show StAt (w1.setCell ⟨w.heap.size,6,none⟩ (.int .i64 0)) w.heap.size ⟨x,v,p0,p1,p2,((((((((((((((((bent||yb)||wdb)||yyb)||gqb)||kqb)||lqb)||m1b)||xb)||m2b)||vb)||m3b)||p0b)||m4b)||p1b)||m5b)||p2b),0⟩from Blk.set HST.out 6 (.int .i64 0))
   have HR:=Lib.hid (HR.out.other (p:=⟨w.heap.size,6,none⟩) (by show _≠w.heap.size;omega) (.int .i64 0))
   have HH:=Lib.hid (HH.out.other (p:=⟨w.heap.size,6,none⟩) (by show _≠w.heap.size;omega) (.int .i64 0))
   have HW:=Lib.hid (HW.out.other (p:=⟨w.heap.size,6,none⟩) (by show _≠w.heap.size;omega) (.int .i64 0))
   have HB:=Lib.hid (HB.out.setCell (p:=⟨w.heap.size,6,none⟩) (by show _≤w.heap.size;omega) (.int .i64 0))
   replace hsz:w.heap.size+4≤(w1.setCell ⟨w.heap.size,6,none⟩ (.int .i64 0)).heap.size:=by simpa using hsz
   have HST:=HP
   clear HP
   generalize(w1.setCell ⟨w.heap.size,6,none⟩ (.int .i64 0))=w1 at*
   (try clear k0 k1 k2 k3 k4 k5 k6)
   (try clear kh)
   obtain⟨k0,k1,k2,k3,k4,k5,k6⟩:=st_cells HST.out
   have kh:=one_cell HH.out
   have HG:=Lib.hid (show Blk w1 w.heap.size 27 #[.int .i64 x,.int .i64 v,.int .i64 p0,.int .i64 p1,.int .i64 p2,.bool ((((((((((((((((bent||yb)||wdb)||yyb)||gqb)||kqb)||lqb)||m1b)||xb)||m2b)||vb)||m3b)||p0b)||m4b)||p1b)||m5b)||p2b),.int .i64 0]from HST.out)
   clear k0 k1 k2 k3 k4 k5 k6 kh
   have HF:=Lib.hid (show update ⟨X,V,P00,P01,P11,bent,missed⟩ z r gate=(⟨x,v,p0,p1,p2,((((((((((((((((bent||yb)||wdb)||yyb)||gqb)||kqb)||lqb)||m1b)||xb)||m2b)||vb)||m3b)||p0b)||m4b)||p1b)||m5b)||p2b),0⟩,true)by simp only [update,Y_.out,WD_.out,YY_.out,GQ_.out,KQ_.out,LQ_.out,M1_.out,X_.out,M2_.out,V_.out,M3_.out,P0_.out,M4_.out,P1_.out,M5_.out,P2_.out];rw [if_neg (by omega)])
   go_wp2_with(first|(refine wpList_whole rfl 27 _ rfl w.heap.size rfl HG.out _ Tryz.underlying27 rfl (by kernel_rfl) ?_)|(refine wpList_store_row rfl 27 _ _ rfl gr #[.int .i64 x,.int .i64 v,.int .i64 p0,.int .i64 p1,.int .i64 p2,.bool ((((((((((((((((bent||yb)||wdb)||yyb)||gqb)||kqb)||lqb)||m1b)||xb)||m2b)||vb)||m3b)||p0b)||m4b)||p1b)||m5b)||p2b),.int .i64 0] rfl rfl 27 _ HR.out (by kernel_rfl) rfl (by simp [Value.oneCell']) ?_))
   refine ret_row2 (x:=.bool true) rfl rfl rfl (HR.out.setRow #[.int .i64 x,.int .i64 v,.int .i64 p0,.int .i64 p1,.int .i64 p2,.bool ((((((((((((((((bent||yb)||wdb)||yyb)||gqb)||kqb)||lqb)||m1b)||xb)||m2b)||vb)||m3b)||p0b)||m4b)||p1b)||m5b)||p2b),.int .i64 0]) ⟨by rw [Tryz.underlying27],by kernel_rfl⟩ rfl ?_
   rw [HF.out]
   exact⟨rfl,below_setRow HB.out (by omega) _⟩
end BigW
end Go.Proofs.YtljpoibnkkcjdaaGreatDoor
