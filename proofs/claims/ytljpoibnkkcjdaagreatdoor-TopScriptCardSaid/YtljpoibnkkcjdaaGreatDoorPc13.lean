import Derived.Test.YtljpoibnkkcjdaaGreatDoorPc12
set_option linter.unusedVariables false
set_option linter.unusedSimpArgs false
namespace Go.Proofs.YtljpoibnkkcjdaaGreatDoor
namespace BigW
open Go.RowKit Mem BigLaw Rws
set_option maxRecDepth 100000 in
set_option maxHeartbeats 8000000 in
theorem predict_any (s:St) (dt q:Int) (w:World) (hs:StIn s) (r_dt:In64 dt) (r_q:In64 q):
  Calls Tryz.prog 56 #[stV s,.int .i64 dt,.int .i64 q] w fun e w'=>GaveSt w w' (predict s dt q) e:=by
 obtain⟨X,V,P00,P01,P11,bent,missed⟩:=s
 obtain⟨r_X,r_V,r_P00,r_P01,r_P11⟩:=hs
 simp only at r_X r_V r_P00 r_P01 r_P11
 unfold stV stC
 obtain⟨w1,hw1⟩:∃w1,(((w.alloc (.cells #[.int .i64 X,.int .i64 V,.int .i64 P00,.int .i64 P01,.int .i64 P11,.bool bent,.int .i64 missed] 27)).alloc (.cells #[.int .i64 0,.int .i64 0,.int .i64 0,.int .i64 0,.int .i64 0,.bool false,.int .i64 0] 27)).alloc (.cells #[.pointer (some ⟨w.heap.size,0,none⟩)] 157))=w1:=⟨_,rfl⟩
 have HB:=Lib.hid (show Below w.heap.size w w1 from by rw [←hw1];exact(((Below.refl _ _).alloc (Nat.le_refl _) _).alloc (by simp) _).alloc (by simp;omega) _)
 have HST:=Lib.hid (show StAt w1 w.heap.size ⟨X,V,P00,P01,P11,bent,missed⟩from by rw [←hw1];exact((Blk.new rfl).alloc _).alloc _)
 have HH:=Lib.hid (show Blk w1 (w.heap.size+1+1) 157 #[.pointer (some ⟨w.heap.size,0,none⟩)]from by rw [←hw1];exact Blk.new (by simp))
 have HR:=Lib.hid (show Blk w1 (w.heap.size+1) 27 #[.int .i64 0,.int .i64 0,.int .i64 0,.int .i64 0,.int .i64 0,.bool false,.int .i64 0]from by rw [←hw1];exact(Blk.new (by simp)).alloc _)
 have hsz:w.heap.size+3≤w1.heap.size:=by rw [←hw1];simp
 have HW1:=Lib.hid hw1
 clear hw1
 obtain⟨t,tb,T_,r_t⟩:=ltr fmul_range P01 dt
 obtain⟨u,ub,U_,r_u⟩:=ltr fmul_range P11 dt
 obtain⟨m,mb,M_,r_m⟩:=ltr fmul_range V dt
 obtain⟨x,xb,X_,r_x⟩:=ltr fadd_range X m
 obtain⟨a,ab,A_,r_a⟩:=ltr fadd_range P00 t
 obtain⟨b,bb,B_,r_b⟩:=ltr fadd_range a t
 obtain⟨c,cb,C_,r_c⟩:=ltr fmul_range u dt
 obtain⟨d,db,D_,r_d⟩:=ltr fadd_range b c
 obtain⟨e_,e_b,E__,r_e_⟩:=ltr fadd_range P01 u
 obtain⟨f_,f_b,F__,r_f_⟩:=ltr fadd_range P11 q
 go_enter Tryz.func56,Tryz.ntmps56
 go_upto_region 2 with fail
 rw [HW1.out]
 clear HW1
 obtain⟨gh,hgh⟩:∃g,w.heap.size+1+1=g:=⟨_,rfl⟩
 rw [hgh]at HH ⊢
 obtain⟨gr,hgr⟩:∃g,w.heap.size+1=g:=⟨_,rfl⟩
 rw [hgr]at HR ⊢
 (try clear k0 k1 k2 k3 k4 k5 k6)
 (try clear kh)
 obtain⟨k0,k1,k2,k3,k4,k5,k6⟩:=st_cells HST.out
 have kh:=one_cell HH.out
 go_wp2_with fail
 refine(hmul_any w.heap.size _ P01 dt _ HST.out r_P01 r_dt).mono ?_
 intro e w1 hc
 rw [T_.out]at hc
 obtain⟨rfl,hst,hg⟩:=hc
 dsimp only at hst
 have HST:=Lib.hid hst
 have HR:=Hg HR hg (by omega)
 have HH:=Hg HH hg (by omega)
 have HB:=Hb HB hg (Nat.le_refl _) (by omega)
 replace hsz:=Nat.le_trans hsz hg.size
 clear hst hg
 (try clear k0 k1 k2 k3 k4 k5 k6)
 (try clear kh)
 obtain⟨k0,k1,k2,k3,k4,k5,k6⟩:=st_cells HST.out
 have kh:=one_cell HH.out
 go_wp2_with fail
 refine(hmul_any w.heap.size _ P11 dt _ HST.out r_P11 r_dt).mono ?_
 intro e w1 hc
 rw [U_.out]at hc
 obtain⟨rfl,hst,hg⟩:=hc
 dsimp only at hst
 have HST:=Lib.hid hst
 have HR:=Hg HR hg (by omega)
 have HH:=Hg HH hg (by omega)
 have HB:=Hb HB hg (Nat.le_refl _) (by omega)
 replace hsz:=Nat.le_trans hsz hg.size
 clear hst hg
 (try clear k0 k1 k2 k3 k4 k5 k6)
 (try clear kh)
 obtain⟨k0,k1,k2,k3,k4,k5,k6⟩:=st_cells HST.out
 have kh:=one_cell HH.out
 go_upto_region 4 with fail
 have HST:=Lib.hid (Blk.drew HST.out)
 have HR:=Lib.hid (HR.out.drew)
 have HH:=Lib.hid (HH.out.drew)
 have HB:=Lib.hid HB.out.drew
 have hsz:w.heap.size+3≤w1.drew.heap.size:=hsz
 (try clear k0 k1 k2 k3 k4 k5 k6)
 (try clear kh)
 obtain⟨k0,k1,k2,k3,k4,k5,k6⟩:=st_cells HST.out
 have kh:=one_cell HH.out
 have HS:=And.intro k0 (And.intro k1 (And.intro k2 (And.intro k3 (And.intro k4 kh))))
 refine wp_region_noPanic ?_
 refine Rg.beginR [0,2,3,5] (fun w'=> w'.cell? ⟨w.heap.size,0,none⟩=some (.int .i64 X)∧ w'.cell? ⟨w.heap.size,1,none⟩=some (.int .i64 V)∧ w'.cell? ⟨w.heap.size,2,none⟩=some (.int .i64 P00)∧ w'.cell? ⟨w.heap.size,3,none⟩=some (.int .i64 P01)∧ w'.cell? ⟨w.heap.size,4,none⟩=some (.int .i64 P11)∧ w'.cell? ⟨gh,0,none⟩=some (.pointer (some ⟨w.heap.size,0,none⟩))) (by kernel_rfl) ?_
 generalize w1.drew=w1 at*
 refine Rg.stp_s 0 ?_ HS (hy:=?_) (h:=?_)
 rotate_left 1
 · (intro w hSw;(try dsimp only at hSw);(try go_split_ands);go_simp;(try with_reducible rfl))
 try simp only [Rg.lp]
 refine Rg.tp 1 ⟨some 22,.fieldAddr 27 (.tmp 3) 0,_,_,_,none⟩ (v:=?_) rfl ?_ ?_
 rotate_left 1
 · (intro w;go_simp;(try with_reducible rfl))
 try simp only [Rg.lp]
 refine Rg.stp_s 2 ?_ HS (hy:=?_) (h:=?_)
 rotate_left 1
 · (intro w hSw;(try dsimp only at hSw);(try go_split_ands);go_simp;(try with_reducible rfl))
 try simp only [Rg.lp]
 refine Rg.stp_s 3 ?_ HS (hy:=?_) (h:=?_)
 rotate_left 1
 · (intro w hSw;(try dsimp only at hSw);(try go_split_ands);go_simp;(try with_reducible rfl))
 try simp only [Rg.lp]
 refine Rg.tp 4 ⟨some 25,.fieldAddr 27 (.tmp 3) 1,_,_,_,none⟩ (v:=?_) rfl ?_ ?_
 rotate_left 1
 · (intro w;go_simp;(try with_reducible rfl))
 try simp only [Rg.lp]
 refine Rg.stp_s 5 ?_ HS (hy:=?_) (h:=?_)
 rotate_left 1
 · (intro w hSw;(try dsimp only at hSw);(try go_split_ands);go_simp;(try with_reducible rfl))
 try simp only [Rg.lp]
 refine Rg.tp 6 ⟨some 27,.move (.tmp 1),_,_,_,none⟩ (v:=?_) rfl ?_ ?_
 rotate_left 1
 · (intro w;go_simp;(try with_reducible rfl))
 try simp only [Rg.lp]
 refine Rg.stp_o 7 ?_
 refine Rg.stepS ?_
 intro K hK
 rw [if_pos (by rfl)]
 go_simp
 go_at_call 80
 refine(hmul_any w.heap.size _ V dt _ HST.out r_V r_dt).mono ?_
 intro e w1 hc
 rw [M_.out]at hc
 obtain⟨rfl,hst,hg⟩:=hc
 dsimp only at hst
 have HST:=Lib.hid hst
 have HR:=Hg HR hg (by omega)
 have HH:=Hg HH hg (by omega)
 have HB:=Hb HB hg (Nat.le_refl _) (by omega)
 replace hsz:=Nat.le_trans hsz hg.size
 clear hst hg
 (try clear k0 k1 k2 k3 k4 k5 k6)
 (try clear kh)
 obtain⟨k0,k1,k2,k3,k4,k5,k6⟩:=st_cells HST.out
 have kh:=one_cell HH.out
 clear HS
 have HS:=And.intro k0 (And.intro k1 (And.intro k2 (And.intro k3 (And.intro k4 kh))))
 go_wp2_with fail
 refine hK.out _ _ HS ?_
 clear hK K
 try simp only [Rg.lp]
 refine Rg.stp_o 8 ?_
 refine Rg.stepF ?_ ?_
 · kernel_rfl
 intro K hK
 rw [if_pos (by rfl)]
 go_simp
 go_at_call 79
 refine(hadd_any w.heap.size _ X m _ HST.out r_X r_m).mono ?_
 intro e w1 hc
 rw [X_.out]at hc
 obtain⟨rfl,hst,hg⟩:=hc
 dsimp only at hst
 have HST:=Lib.hid hst
 have HR:=Hg HR hg (by omega)
 have HH:=Hg HH hg (by omega)
 have HB:=Hb HB hg (Nat.le_refl _) (by omega)
 replace hsz:=Nat.le_trans hsz hg.size
 clear hst hg
 (try clear k0 k1 k2 k3 k4 k5 k6)
 (try clear kh)
 obtain⟨k0,k1,k2,k3,k4,k5,k6⟩:=st_cells HST.out
 have kh:=one_cell HH.out
 clear HS
 have HS:=And.intro k0 (And.intro k1 (And.intro k2 (And.intro k3 (And.intro k4 kh))))
 obtain⟨f0,f1,f2,f3,f4,f5,f6⟩:=st_thaws HST.out
 go_wp2_with fail
 refine hK.out _ _ ?_
 clear hK K
 try simp only [Rg.lp]
 refine Rg.tp 9 ⟨some 30,.fieldAddr 27 (.tmp 3) 0,_,_,_,none⟩ (v:=?_) rfl ?_ ?_
 rotate_left 1
 · (intro w;go_simp;(try with_reducible rfl))
 try simp only [Rg.lp]
 refine Rg.stp_o 10 ?_
 refine Rg.stepF ?_ ?_
 · kernel_rfl
 intro K hK
 go_simp
 refine hK.out _ _ ?_
 clear hK K
 try simp only [Rg.lp]
 refine Rg.doneR (by kernel_rfl) ?_ _
 refine NoPanic.normal ?_
 clear HS f0 f1 f2 f3 f4 f5 f6
 have HP:=Lib.hid (show StAt (w1.setCell ⟨w.heap.size,0,none⟩ (.int .i64 x)) w.heap.size ⟨x,V,P00,P01,P11,((((bent||tb)||ub)||mb)||xb),missed⟩from Blk.set HST.out 0 (.int .i64 x))
 have HR:=Lib.hid (HR.out.other (p:=⟨w.heap.size,0,none⟩) (by show _≠w.heap.size;omega) (.int .i64 x))
 have HH:=Lib.hid (HH.out.other (p:=⟨w.heap.size,0,none⟩) (by show _≠w.heap.size;omega) (.int .i64 x))
 have HB:=Lib.hid (HB.out.setCell (p:=⟨w.heap.size,0,none⟩) (by show _≤w.heap.size;omega) (.int .i64 x))
 replace hsz:w.heap.size+3≤(w1.setCell ⟨w.heap.size,0,none⟩ (.int .i64 x)).heap.size:=by simpa using hsz
 have HST:=HP
 clear HP
 generalize(w1.setCell ⟨w.heap.size,0,none⟩ (.int .i64 x))=w1 at*
 (try clear k0 k1 k2 k3 k4 k5 k6)
 (try clear kh)
 obtain⟨k0,k1,k2,k3,k4,k5,k6⟩:=st_cells HST.out
 have kh:=one_cell HH.out
 go_upto_region 5 with fail
 have HST:=Lib.hid (Blk.drew HST.out)
 have HR:=Lib.hid (HR.out.drew)
 have HH:=Lib.hid (HH.out.drew)
 have HB:=Lib.hid HB.out.drew
 have hsz:w.heap.size+3≤w1.drew.heap.size:=hsz
 (try clear k0 k1 k2 k3 k4 k5 k6)
 (try clear kh)
 obtain⟨k0,k1,k2,k3,k4,k5,k6⟩:=st_cells HST.out
 have kh:=one_cell HH.out
 have HS:=And.intro k0 (And.intro k1 (And.intro k2 (And.intro k3 (And.intro k4 kh))))
 refine wp_region_noPanic ?_
 refine Rg.beginR [0,1,2,4,9] (fun w'=> w'.cell? ⟨w.heap.size,0,none⟩=some (.int .i64 x)∧ w'.cell? ⟨w.heap.size,1,none⟩=some (.int .i64 V)∧ w'.cell? ⟨w.heap.size,2,none⟩=some (.int .i64 P00)∧ w'.cell? ⟨w.heap.size,3,none⟩=some (.int .i64 P01)∧ w'.cell? ⟨w.heap.size,4,none⟩=some (.int .i64 P11)∧ w'.cell? ⟨gh,0,none⟩=some (.pointer (some ⟨w.heap.size,0,none⟩))) (by kernel_rfl) ?_
 generalize w1.drew=w1 at*
 refine Rg.stp_s 0 ?_ HS (hy:=?_) (h:=?_)
 rotate_left 1
 · (intro w hSw;(try dsimp only at hSw);(try go_split_ands);go_simp;(try with_reducible rfl))
 try simp only [Rg.lp]
 refine Rg.stp_s 1 ?_ HS (hy:=?_) (h:=?_)
 rotate_left 1
 · (intro w hSw;(try dsimp only at hSw);(try go_split_ands);go_simp;(try with_reducible rfl))
 try simp only [Rg.lp]
 refine Rg.stp_s 2 ?_ HS (hy:=?_) (h:=?_)
 rotate_left 1
 · (intro w hSw;(try dsimp only at hSw);(try go_split_ands);go_simp;(try with_reducible rfl))
 try simp only [Rg.lp]
 refine Rg.tp 3 ⟨some 34,.fieldAddr 27 (.tmp 3) 2,_,_,_,none⟩ (v:=?_) rfl ?_ ?_
 rotate_left 1
 · (intro w;go_simp;(try with_reducible rfl))
 try simp only [Rg.lp]
 refine Rg.stp_s 4 ?_ HS (hy:=?_) (h:=?_)
 rotate_left 1
 · (intro w hSw;(try dsimp only at hSw);(try go_split_ands);go_simp;(try with_reducible rfl))
 try simp only [Rg.lp]
 refine Rg.tp 5 ⟨some 36,.move (.tmp 8),_,_,_,none⟩ (v:=?_) rfl ?_ ?_
 rotate_left 1
 · (intro w;go_simp;(try with_reducible rfl))
 try simp only [Rg.lp]
 refine Rg.tp 7 ⟨some 38,.move (.tmp 8),_,_,_,none⟩ (v:=?_) rfl ?_ ?_
 rotate_left 1
 · (intro w;go_simp;(try with_reducible rfl))
 try simp only [Rg.lp]
 refine Rg.stp_s 9 ?_ HS (hy:=?_) (h:=?_)
 rotate_left 1
 · (intro w hSw;(try dsimp only at hSw);(try go_split_ands);go_simp;(try with_reducible rfl))
 try simp only [Rg.lp]
 refine Rg.tp 10 ⟨some 41,.move (.tmp 9),_,_,_,none⟩ (v:=?_) rfl ?_ ?_
 rotate_left 1
 · (intro w;go_simp;(try with_reducible rfl))
 try simp only [Rg.lp]
 refine Rg.tp 11 ⟨some 42,.move (.tmp 1),_,_,_,none⟩ (v:=?_) rfl ?_ ?_
 rotate_left 1
 · (intro w;go_simp;(try with_reducible rfl))
 try simp only [Rg.lp]
 refine Rg.stp_o 6 ?_
 refine Rg.stepS ?_
 intro K hK
 rw [if_pos (by rfl)]
 go_simp
 go_at_call 79
 refine(hadd_any w.heap.size _ P00 t _ HST.out r_P00 r_t).mono ?_
 intro e w1 hc
 rw [A_.out]at hc
 obtain⟨rfl,hst,hg⟩:=hc
 dsimp only at hst
 have HST:=Lib.hid hst
 have HR:=Hg HR hg (by omega)
 have HH:=Hg HH hg (by omega)
 have HB:=Hb HB hg (Nat.le_refl _) (by omega)
 replace hsz:=Nat.le_trans hsz hg.size
 clear hst hg
 (try clear k0 k1 k2 k3 k4 k5 k6)
 (try clear kh)
 obtain⟨k0,k1,k2,k3,k4,k5,k6⟩:=st_cells HST.out
 have kh:=one_cell HH.out
 clear HS
 have HS:=And.intro k0 (And.intro k1 (And.intro k2 (And.intro k3 (And.intro k4 kh))))
 go_wp2_with fail
 refine hK.out _ _ HS ?_
 clear hK K
 try simp only [Rg.lp]
 refine Rg.stp_o 8 ?_
 refine Rg.stepS ?_
 intro K hK
 rw [if_pos (by rfl)]
 go_simp
 go_at_call 79
 refine(hadd_any w.heap.size _ a t _ HST.out r_a r_t).mono ?_
 intro e w1 hc
 rw [B_.out]at hc
 obtain⟨rfl,hst,hg⟩:=hc
 dsimp only at hst
 have HST:=Lib.hid hst
 have HR:=Hg HR hg (by omega)
 have HH:=Hg HH hg (by omega)
 have HB:=Hb HB hg (Nat.le_refl _) (by omega)
 replace hsz:=Nat.le_trans hsz hg.size
 clear hst hg
 (try clear k0 k1 k2 k3 k4 k5 k6)
 (try clear kh)
 obtain⟨k0,k1,k2,k3,k4,k5,k6⟩:=st_cells HST.out
 have kh:=one_cell HH.out
 clear HS
 have HS:=And.intro k0 (And.intro k1 (And.intro k2 (And.intro k3 (And.intro k4 kh))))
 go_wp2_with fail
 refine hK.out _ _ HS ?_
 clear hK K
 try simp only [Rg.lp]
 refine Rg.stp_o 12 ?_
 refine Rg.stepS ?_
 intro K hK
 rw [if_pos (by rfl)]
 go_simp
 go_at_call 80
 refine(hmul_any w.heap.size _ u dt _ HST.out r_u r_dt).mono ?_
 intro e w1 hc
 rw [C_.out]at hc
 obtain⟨rfl,hst,hg⟩:=hc
 dsimp only at hst
 have HST:=Lib.hid hst
 have HR:=Hg HR hg (by omega)
 have HH:=Hg HH hg (by omega)
 have HB:=Hb HB hg (Nat.le_refl _) (by omega)
 replace hsz:=Nat.le_trans hsz hg.size
 clear hst hg
 (try clear k0 k1 k2 k3 k4 k5 k6)
 (try clear kh)
 obtain⟨k0,k1,k2,k3,k4,k5,k6⟩:=st_cells HST.out
 have kh:=one_cell HH.out
 clear HS
 have HS:=And.intro k0 (And.intro k1 (And.intro k2 (And.intro k3 (And.intro k4 kh))))
 go_wp2_with fail
 refine hK.out _ _ HS ?_
 clear hK K
 try simp only [Rg.lp]
 refine Rg.stp_o 13 ?_
 refine Rg.stepF ?_ ?_
 · kernel_rfl
 intro K hK
 rw [if_pos (by rfl)]
 go_simp
 go_at_call 79
 refine(hadd_any w.heap.size _ b c _ HST.out r_b r_c).mono ?_
 intro e w1 hc
 rw [D_.out]at hc
 obtain⟨rfl,hst,hg⟩:=hc
 dsimp only at hst
 have HST:=Lib.hid hst
 have HR:=Hg HR hg (by omega)
 have HH:=Hg HH hg (by omega)
 have HB:=Hb HB hg (Nat.le_refl _) (by omega)
 replace hsz:=Nat.le_trans hsz hg.size
 clear hst hg
 (try clear k0 k1 k2 k3 k4 k5 k6)
 (try clear kh)
 obtain⟨k0,k1,k2,k3,k4,k5,k6⟩:=st_cells HST.out
 have kh:=one_cell HH.out
 clear HS
 have HS:=And.intro k0 (And.intro k1 (And.intro k2 (And.intro k3 (And.intro k4 kh))))
 obtain⟨f0,f1,f2,f3,f4,f5,f6⟩:=st_thaws HST.out
 go_wp2_with fail
 refine hK.out _ _ ?_
 clear hK K
 try simp only [Rg.lp]
 refine Rg.tp 14 ⟨some 45,.fieldAddr 27 (.tmp 3) 2,_,_,_,none⟩ (v:=?_) rfl ?_ ?_
 rotate_left 1
 · (intro w;go_simp;(try with_reducible rfl))
 try simp only [Rg.lp]
 refine Rg.stp_o 15 ?_
 refine Rg.stepF ?_ ?_
 · kernel_rfl
 intro K hK
 go_simp
 refine hK.out _ _ ?_
 clear hK K
 try simp only [Rg.lp]
 refine Rg.doneR (by kernel_rfl) ?_ _
 refine NoPanic.normal ?_
 clear HS f0 f1 f2 f3 f4 f5 f6
 have HP:=Lib.hid (show StAt (w1.setCell ⟨w.heap.size,2,none⟩ (.int .i64 d)) w.heap.size ⟨x,V,d,P01,P11,((((((((bent||tb)||ub)||mb)||xb)||ab)||bb)||cb)||db),missed⟩from Blk.set HST.out 2 (.int .i64 d))
 have HR:=Lib.hid (HR.out.other (p:=⟨w.heap.size,2,none⟩) (by show _≠w.heap.size;omega) (.int .i64 d))
 have HH:=Lib.hid (HH.out.other (p:=⟨w.heap.size,2,none⟩) (by show _≠w.heap.size;omega) (.int .i64 d))
 have HB:=Lib.hid (HB.out.setCell (p:=⟨w.heap.size,2,none⟩) (by show _≤w.heap.size;omega) (.int .i64 d))
 replace hsz:w.heap.size+3≤(w1.setCell ⟨w.heap.size,2,none⟩ (.int .i64 d)).heap.size:=by simpa using hsz
 have HST:=HP
 clear HP
 generalize(w1.setCell ⟨w.heap.size,2,none⟩ (.int .i64 d))=w1 at*
 (try clear k0 k1 k2 k3 k4 k5 k6)
 (try clear kh)
 obtain⟨k0,k1,k2,k3,k4,k5,k6⟩:=st_cells HST.out
 have kh:=one_cell HH.out
 go_upto_region 6 with fail
 go_wp2_with fail
 refine(hadd_any w.heap.size _ P01 u _ HST.out r_P01 r_u).mono ?_
 intro e w1 hc
 rw [E__.out]at hc
 obtain⟨rfl,hst,hg⟩:=hc
 dsimp only at hst
 have HST:=Lib.hid hst
 have HR:=Hg HR hg (by omega)
 have HH:=Hg HH hg (by omega)
 have HB:=Hb HB hg (Nat.le_refl _) (by omega)
 replace hsz:=Nat.le_trans hsz hg.size
 clear hst hg
 (try clear k0 k1 k2 k3 k4 k5 k6)
 (try clear kh)
 obtain⟨k0,k1,k2,k3,k4,k5,k6⟩:=st_cells HST.out
 have kh:=one_cell HH.out
 obtain⟨f0,f1,f2,f3,f4,f5,f6⟩:=st_thaws HST.out
 go_upto_region 7 with fail
 clear f0 f1 f2 f3 f4 f5 f6
 have HP:=Lib.hid (show StAt (w1.setCell ⟨w.heap.size,3,none⟩ (.int .i64 e_)) w.heap.size ⟨x,V,d,e_,P11,(((((((((bent||tb)||ub)||mb)||xb)||ab)||bb)||cb)||db)||e_b),missed⟩from Blk.set HST.out 3 (.int .i64 e_))
 have HR:=Lib.hid (HR.out.other (p:=⟨w.heap.size,3,none⟩) (by show _≠w.heap.size;omega) (.int .i64 e_))
 have HH:=Lib.hid (HH.out.other (p:=⟨w.heap.size,3,none⟩) (by show _≠w.heap.size;omega) (.int .i64 e_))
 have HB:=Lib.hid (HB.out.setCell (p:=⟨w.heap.size,3,none⟩) (by show _≤w.heap.size;omega) (.int .i64 e_))
 replace hsz:w.heap.size+3≤(w1.setCell ⟨w.heap.size,3,none⟩ (.int .i64 e_)).heap.size:=by simpa using hsz
 have HST:=HP
 clear HP
 generalize(w1.setCell ⟨w.heap.size,3,none⟩ (.int .i64 e_))=w1 at*
 (try clear k0 k1 k2 k3 k4 k5 k6)
 (try clear kh)
 obtain⟨k0,k1,k2,k3,k4,k5,k6⟩:=st_cells HST.out
 have kh:=one_cell HH.out
 go_wp2_with fail
 refine(hadd_any w.heap.size _ P11 q _ HST.out r_P11 r_q).mono ?_
 intro e w1 hc
 rw [F__.out]at hc
 obtain⟨rfl,hst,hg⟩:=hc
 dsimp only at hst
 have HST:=Lib.hid hst
 have HR:=Hg HR hg (by omega)
 have HH:=Hg HH hg (by omega)
 have HB:=Hb HB hg (Nat.le_refl _) (by omega)
 replace hsz:=Nat.le_trans hsz hg.size
 clear hst hg
 (try clear k0 k1 k2 k3 k4 k5 k6)
 (try clear kh)
 obtain⟨k0,k1,k2,k3,k4,k5,k6⟩:=st_cells HST.out
 have kh:=one_cell HH.out
 obtain⟨f0,f1,f2,f3,f4,f5,f6⟩:=st_thaws HST.out
 go_upto_region 8 with fail
 clear f0 f1 f2 f3 f4 f5 f6
 have HP:=Lib.hid (show StAt (w1.setCell ⟨w.heap.size,4,none⟩ (.int .i64 f_)) w.heap.size ⟨x,V,d,e_,f_,((((((((((bent||tb)||ub)||mb)||xb)||ab)||bb)||cb)||db)||e_b)||f_b),missed⟩from Blk.set HST.out 4 (.int .i64 f_))
 have HR:=Lib.hid (HR.out.other (p:=⟨w.heap.size,4,none⟩) (by show _≠w.heap.size;omega) (.int .i64 f_))
 have HH:=Lib.hid (HH.out.other (p:=⟨w.heap.size,4,none⟩) (by show _≠w.heap.size;omega) (.int .i64 f_))
 have HB:=Lib.hid (HB.out.setCell (p:=⟨w.heap.size,4,none⟩) (by show _≤w.heap.size;omega) (.int .i64 f_))
 replace hsz:w.heap.size+3≤(w1.setCell ⟨w.heap.size,4,none⟩ (.int .i64 f_)).heap.size:=by simpa using hsz
 have HST:=HP
 clear HP
 generalize(w1.setCell ⟨w.heap.size,4,none⟩ (.int .i64 f_))=w1 at*
 (try clear k0 k1 k2 k3 k4 k5 k6)
 (try clear kh)
 obtain⟨k0,k1,k2,k3,k4,k5,k6⟩:=st_cells HST.out
 have kh:=one_cell HH.out
 have HG:=Lib.hid (show Blk w1 w.heap.size 27 #[.int .i64 x,.int .i64 V,.int .i64 d,.int .i64 e_,.int .i64 f_,.bool ((((((((((bent||tb)||ub)||mb)||xb)||ab)||bb)||cb)||db)||e_b)||f_b),.int .i64 missed]from HST.out)
 have HF:=Lib.hid (show predict ⟨X,V,P00,P01,P11,bent,missed⟩ dt q=⟨x,V,d,e_,f_,((((((((((bent||tb)||ub)||mb)||xb)||ab)||bb)||cb)||db)||e_b)||f_b),missed⟩by simp only [predict,T_.out,U_.out,M_.out,X_.out,A_.out,B_.out,C_.out,D_.out,E__.out,F__.out])
 clear k0 k1 k2 k3 k4 k5 k6 kh
 go_wp2_with(first|(refine wpList_whole rfl 27 _ rfl w.heap.size rfl HG.out _ Tryz.underlying27 rfl (by kernel_rfl) ?_)|(refine wpList_store_row rfl 27 _ _ rfl gr #[.int .i64 x,.int .i64 V,.int .i64 d,.int .i64 e_,.int .i64 f_,.bool ((((((((((bent||tb)||ub)||mb)||xb)||ab)||bb)||cb)||db)||e_b)||f_b),.int .i64 missed] rfl rfl 27 _ HR.out (by kernel_rfl) rfl (by simp [Value.oneCell']) ?_))
 refine ret_row rfl rfl (HR.out.setRow #[.int .i64 x,.int .i64 V,.int .i64 d,.int .i64 e_,.int .i64 f_,.bool ((((((((((bent||tb)||ub)||mb)||xb)||ab)||bb)||cb)||db)||e_b)||f_b),.int .i64 missed]) Tryz.underlying27 rfl (by kernel_rfl) rfl ?_
 rw [HF.out]
 exact⟨rfl,below_setRow HB.out (by omega) _⟩
end BigW
end Go.Proofs.YtljpoibnkkcjdaaGreatDoor
