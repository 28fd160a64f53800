import Derived.Test.YtljpoibnkkcjdaaGreatDoorPc13
import Derived.Test.YtljpoibnkkcjdaaGreatDoorPc14
set_option linter.unusedVariables false
set_option linter.unusedSimpArgs false
namespace Go.Proofs.YtljpoibnkkcjdaaGreatDoor
namespace BigW
open Go.RowKit Mem BigLaw
theorem begin_any (x:Int) (w:World):Calls Tryz.prog 27 #[.int .i64 x] w fun e w'=>e=.returned (stV ⟨x,0,4294967296,0,4294967296,false,0⟩)∧Below w.heap.size w w':=by
 unfold stV stC
 go_enter Tryz.func27,Tryz.ntmps27
 go_wp2
 refine bodyPost_ret (v:=.agg #[.int .i64 x,.int .i64 0,.int .i64 4294967296,.int .i64 0,.int .i64 4294967296,.bool false,.int .i64 0]) (by simp [results,Tryz.results27,go_sem]) rfl ⟨rfl,?_⟩
 exact(Below.refl _ _).alloc (Nat.le_refl _) _
def fstep (s:St) (dt q r gate z:Int):St×Bool:=update (predict s dt q) z r gate
theorem step_in {s:St} (h:StIn s) (dt q r gate z:Int):StIn (fstep s dt q r gate z).1:=update_in (predict_in h dt q) z r gate
def tunC (dt q r gate:Int):Array Value:=#[.int .i64 dt,.int .i64 q,.int .i64 r,.int .i64 gate]
end BigW
namespace BigW
open Go.RowKit Mem BigLaw Rws
set_option maxRecDepth 100000 in
set_option maxHeartbeats 8000000 in
theorem fstep_any (s:St) (dt q r gate z:Int) (w:World) (hs:StIn s) (r_dt:In64 dt) (r_q:In64 q) (r_r:In64 r) (r_gate:In64 gate) (r_z:In64 z):
  Calls Tryz.prog 37 #[stV s,.agg (tunC dt q r gate),.int .i64 z] w fun e w'=>GaveSt2 w w' (fstep s dt q r gate z) e:=by
 obtain⟨X,V,P00,P01,P11,bent,missed⟩:=s
 unfold stV stC tunC
 obtain⟨⟨PX,PV,PA,PB,PC,pb,pm⟩,hp⟩:∃p,predict ⟨X,V,P00,P01,P11,bent,missed⟩ dt q=p:=⟨_,rfl⟩
 have HP:=Lib.hid hp
 have HI:=Lib.hid (show StIn ⟨PX,PV,PA,PB,PC,pb,pm⟩from by rw [←hp];exact predict_in hs dt q)
 obtain⟨⟨⟨QX,QV,QA,QB,QC,qb,qm⟩,qt⟩,hq⟩:∃p,update ⟨PX,PV,PA,PB,PC,pb,pm⟩ z r gate=p:=⟨_,rfl⟩
 have HQ:=Lib.hid hq
 have HF:=Lib.hid (show fstep ⟨X,V,P00,P01,P11,bent,missed⟩ dt q r gate z=(⟨QX,QV,QA,QB,QC,qb,qm⟩,qt)from by unfold fstep;rw [hp,hq])
 have HS0:=Lib.hid hs
 have HD:=Lib.hid r_dt
 have HK:=Lib.hid r_q
 have HL:=Lib.hid r_r
 have HG:=Lib.hid r_gate
 have HZ:=Lib.hid r_z
 clear hp hq hs r_dt r_q r_r r_gate r_z
 go_enter Tryz.func37,Tryz.ntmps37
 go_upto_region 1 with fail
 have HB:=Lib.hid (show Below w.heap.size w (((w.alloc (.cells #[.int .i64 X,.int .i64 V,.int .i64 P00,.int .i64 P01,.int .i64 P11,.bool bent,.int .i64 missed] 27)).alloc (.cells #[.int .i64 dt,.int .i64 q,.int .i64 r,.int .i64 gate] 23)).alloc (.cells #[.int .i64 0,.int .i64 0,.int .i64 0,.int .i64 0,.int .i64 0,.bool false,.int .i64 0] 27)).drew from((((Below.refl _ _).alloc (Nat.le_refl _) _).alloc (by simp) _).alloc (by simp;omega) _).drew)
 have HST:=Lib.hid (show Blk (((w.alloc (.cells #[.int .i64 X,.int .i64 V,.int .i64 P00,.int .i64 P01,.int .i64 P11,.bool bent,.int .i64 missed] 27)).alloc (.cells #[.int .i64 dt,.int .i64 q,.int .i64 r,.int .i64 gate] 23)).alloc (.cells #[.int .i64 0,.int .i64 0,.int .i64 0,.int .i64 0,.int .i64 0,.bool false,.int .i64 0] 27)).drew w.heap.size 27 #[.int .i64 X,.int .i64 V,.int .i64 P00,.int .i64 P01,.int .i64 P11,.bool bent,.int .i64 missed]from(((Blk.new rfl).alloc _).alloc _).drew)
 have HU:=Lib.hid (show Blk (((w.alloc (.cells #[.int .i64 X,.int .i64 V,.int .i64 P00,.int .i64 P01,.int .i64 P11,.bool bent,.int .i64 missed] 27)).alloc (.cells #[.int .i64 dt,.int .i64 q,.int .i64 r,.int .i64 gate] 23)).alloc (.cells #[.int .i64 0,.int .i64 0,.int .i64 0,.int .i64 0,.int .i64 0,.bool false,.int .i64 0] 27)).drew (w.heap.size+1) 23 #[.int .i64 dt,.int .i64 q,.int .i64 r,.int .i64 gate]from((Blk.new (by simp)).alloc _).drew)
 have HR:=Lib.hid (show Blk (((w.alloc (.cells #[.int .i64 X,.int .i64 V,.int .i64 P00,.int .i64 P01,.int .i64 P11,.bool bent,.int .i64 missed] 27)).alloc (.cells #[.int .i64 dt,.int .i64 q,.int .i64 r,.int .i64 gate] 23)).alloc (.cells #[.int .i64 0,.int .i64 0,.int .i64 0,.int .i64 0,.int .i64 0,.bool false,.int .i64 0] 27)).drew (w.heap.size+1+1) 27 #[.int .i64 0,.int .i64 0,.int .i64 0,.int .i64 0,.int .i64 0,.bool false,.int .i64 0]from(Blk.new (by simp)).drew)
 refine wp_region_noPanic ?_
 generalize(((w.alloc (.cells #[.int .i64 X,.int .i64 V,.int .i64 P00,.int .i64 P01,.int .i64 P11,.bool bent,.int .i64 missed] 27)).alloc (.cells #[.int .i64 dt,.int .i64 q,.int .i64 r,.int .i64 gate] 23)).alloc (.cells #[.int .i64 0,.int .i64 0,.int .i64 0,.int .i64 0,.int .i64 0,.bool false,.int .i64 0] 27))=w1 at*
 obtain⟨gr,hgr⟩:∃g,w.heap.size+1+1=g:=⟨_,rfl⟩
 rw [hgr]at HR ⊢
 obtain⟨gu,hgu⟩:∃g,w.heap.size+1=g:=⟨_,rfl⟩
 rw [hgu]at HU ⊢
 have HS:=And.intro HST.out (And.intro ((Blk.cell HU.out 0).trans rfl) (And.intro ((Blk.cell HU.out 1).trans rfl) (And.intro ((Blk.cell HU.out 2).trans rfl) ((Blk.cell HU.out 3).trans rfl))))
 refine Rg.beginR [0,2,4,8,10] (fun w'=>Blk w' w.heap.size 27 #[.int .i64 X,.int .i64 V,.int .i64 P00,.int .i64 P01,.int .i64 P11,.bool bent,.int .i64 missed]∧ w'.cell? ⟨gu,0,none⟩=some (.int .i64 dt)∧ w'.cell? ⟨gu,1,none⟩=some (.int .i64 q)∧ w'.cell? ⟨gu,2,none⟩=some (.int .i64 r)∧ w'.cell? ⟨gu,3,none⟩=some (.int .i64 gate)) (by kernel_rfl) ?_
 generalize w1.drew=w1 at*
 refine Rg.stp_s 0 (.agg #[.int .i64 X,.int .i64 V,.int .i64 P00,.int .i64 P01,.int .i64 P11,.bool bent,.int .i64 missed]) HS (hy:=?_) (h:=?_)
 · (intro w' hSw;exact exec_load_st 27 (.tmp 3) rfl w.heap.size rfl hSw.1 Tryz.underlying27 rfl (by kernel_rfl))
 try simp only [Rg.lp]
 refine Rg.tp 1 ⟨some 9,.fieldAddr 23 (.tmp 4) 0,_,_,_,none⟩ (v:=?_) rfl ?_ ?_
 rotate_left 1
 · (intro w;go_simp;(try with_reducible rfl))
 try simp only [Rg.lp]
 refine Rg.stp_s 2 ?_ HS (hy:=?_) (h:=?_)
 rotate_left 1
 · (intro w hSw;(try dsimp only at hSw);(try go_split_ands);go_simp;(try with_reducible rfl))
 try simp only [Rg.lp]
 refine Rg.tp 3 ⟨some 11,.fieldAddr 23 (.tmp 4) 1,_,_,_,none⟩ (v:=?_) rfl ?_ ?_
 rotate_left 1
 · (intro w;go_simp;(try with_reducible rfl))
 try simp only [Rg.lp]
 refine Rg.stp_s 4 ?_ HS (hy:=?_) (h:=?_)
 rotate_left 1
 · (intro w hSw;(try dsimp only at hSw);(try go_split_ands);go_simp;(try with_reducible rfl))
 try simp only [Rg.lp]
 refine Rg.tp 6 ⟨some 14,.move (.tmp 2),_,_,_,none⟩ (v:=?_) rfl ?_ ?_
 rotate_left 1
 · (intro w;go_simp;(try with_reducible rfl))
 try simp only [Rg.lp]
 refine Rg.tp 7 ⟨some 15,.fieldAddr 23 (.tmp 4) 2,_,_,_,none⟩ (v:=?_) rfl ?_ ?_
 rotate_left 1
 · (intro w;go_simp;(try with_reducible rfl))
 try simp only [Rg.lp]
 refine Rg.stp_s 8 ?_ HS (hy:=?_) (h:=?_)
 rotate_left 1
 · (intro w hSw;(try dsimp only at hSw);(try go_split_ands);go_simp;(try with_reducible rfl))
 try simp only [Rg.lp]
 refine Rg.tp 9 ⟨some 17,.fieldAddr 23 (.tmp 4) 3,_,_,_,none⟩ (v:=?_) rfl ?_ ?_
 rotate_left 1
 · (intro w;go_simp;(try with_reducible rfl))
 try simp only [Rg.lp]
 refine Rg.stp_s 10 ?_ HS (hy:=?_) (h:=?_)
 rotate_left 1
 · (intro w hSw;(try dsimp only at hSw);(try go_split_ands);go_simp;(try with_reducible rfl))
 try simp only [Rg.lp]
 refine Rg.stp_o 5 ?_
 refine Rg.stepS ?_
 intro K hK
 rw [if_pos (by rfl)]
 go_simp
 go_at_call 56
 refine(predict_any ⟨X,V,P00,P01,P11,bent,missed⟩ dt q _ HS0.out HD.out HK.out).mono ?_
 rintro e w1 ⟨rfl,hb⟩
 rw [HP.out]
 simp only [stV,stC]
 have HST:=Lib.hid (HST.out.below hb HST.out.lt)
 have HU:=Lib.hid (HU.out.below hb HU.out.lt)
 have HR:=Lib.hid (HR.out.below hb HR.out.lt)
 have HB:=Lib.hid (onward HB.out (Nat.le_refl _) hb)
 clear hb HS
 have HS:=And.intro HST.out (And.intro ((Blk.cell HU.out 0).trans rfl) (And.intro ((Blk.cell HU.out 1).trans rfl) (And.intro ((Blk.cell HU.out 2).trans rfl) ((Blk.cell HU.out 3).trans rfl))))
 go_wp2_with fail
 refine hK.out _ _ HS ?_
 clear hK K
 try simp only [Rg.lp]
 refine Rg.stp_o 11 ?_
 refine Rg.stepF ?_ ?_
 · kernel_rfl
 intro K hK
 rw [if_pos (by rfl)]
 go_simp
 go_at_call 55
 refine(update_any ⟨PX,PV,PA,PB,PC,pb,pm⟩ z r gate _ HI.out HZ.out HL.out HG.out).mono ?_
 rintro e w1 ⟨rfl,hb⟩
 rw [HQ.out]
 simp only [stV,stC]
 have HST:=Lib.hid (HST.out.below hb HST.out.lt)
 have HU:=Lib.hid (HU.out.below hb HU.out.lt)
 have HR:=Lib.hid (HR.out.below hb HR.out.lt)
 have HB:=Lib.hid (onward HB.out (Nat.le_refl _) hb)
 clear hb HS
 have HS:=And.intro HST.out (And.intro ((Blk.cell HU.out 0).trans rfl) (And.intro ((Blk.cell HU.out 1).trans rfl) (And.intro ((Blk.cell HU.out 2).trans rfl) ((Blk.cell HU.out 3).trans rfl))))
 go_wp2_with fail
 refine hK.out _ _ ?_
 clear hK K
 try simp only [Rg.lp]
 refine Rg.tp 12 ⟨some 20,.extract (.tmp 19) 0,_,_,_,none⟩ (v:=?_) rfl ?_ ?_
 rotate_left 1
 · (intro w;go_simp;(try with_reducible rfl))
 try simp only [Rg.lp]
 refine Rg.tp 13 ⟨some 21,.extract (.tmp 19) 1,_,_,_,none⟩ (v:=?_) rfl ?_ ?_
 rotate_left 1
 · (intro w;go_simp;(try with_reducible rfl))
 try simp only [Rg.lp]
 refine Rg.stp_o 14 ?_
 refine Rg.stepF ?_ ?_
 · kernel_rfl
 intro K hK
 rw [if_pos (by rfl)]
 refine wp_store_row 27 _ _ rfl gr #[.int .i64 QX,.int .i64 QV,.int .i64 QA,.int .i64 QB,.int .i64 QC,.bool qb,.int .i64 qm] rfl rfl 27 _ HR.out (by kernel_rfl) rfl (by simp [Value.oneCell']) ?_
 refine hK.out _ _ ?_
 clear hK K
 try simp only [Rg.lp]
 refine Rg.tp 15 ⟨some 7,.assign (.tmp 21),_,_,_,none⟩ (v:=?_) rfl ?_ ?_
 rotate_left 1
 · (intro w;go_simp;(try with_reducible rfl))
 try simp only [Rg.lp]
 refine Rg.doneR (by kernel_rfl) ?_ _
 refine NoPanic.normal ?_
 clear HS
 go_wp2_with fail
 refine ret_row2 (x:=.bool qt) rfl rfl rfl (HR.out.setRow #[.int .i64 QX,.int .i64 QV,.int .i64 QA,.int .i64 QB,.int .i64 QC,.bool qb,.int .i64 qm]) ⟨by rw [Tryz.underlying27],by kernel_rfl⟩ rfl ?_
 rw [HF.out]
 exact⟨rfl,below_setRow HB.out (by omega) _⟩
end BigW
namespace Nd
open Go.RowKit Mem Rws Flat Md BigW
def dirZ (f:Nat→Value) (j:Nat):Int:=iv (f (39+j))
def agreedZ (k:Nat) (fr:Int) (ms:List Ms.Msg) (f:Nat→Value) (j:Nat):Int:=takenZ k (j/3) (dirZ f j) j (fun i=>Ms.firstOf (k:Int) fr 2 12 (i:Int) ms)
def stOf (f:Nat→Value) (a:Nat):St:=⟨iv (f (6+(a*7+0))),iv (f (6+(a*7+1))),iv (f (6+(a*7+2))),iv (f (6+(a*7+3))),iv (f (6+(a*7+4))),bv (f (6+(a*7+5))),iv (f (6+(a*7+6)))⟩
def usedZ (f:Nat→Value) (z:Nat→Int) (a:Nat):Int:=(midZ (fuseL (inB f) (fun s=>z (s*3+a)) 4)).1
def newSt (f:Nat→Value) (z:Nat→Int) (a:Nat):St:=(fstep (stOf f a) (iv (f 2)) (iv (f 3)) (iv (f 4)) (iv (f 5)) (usedZ f z a)).1
def stCell (s:St) (j:Nat):Value:=(stC s).getD j (.int .i64 0)
def decG (f:Nat→Value) (z:Nat→Int) (P:Nat→Bool) (n u i:Nat):Value:=
 if 6≤i∧i<6+n*7 then stCell (newSt f z ((i-6)/7)) ((i-6)%7)
 else if 55≤i∧i<67∧P (i-55)=true then .int .i64 (z (i-55))
 else if 67≤i∧i<67+u then .int .i64 (usedZ f z (i-67))
 else f i
def allP (_:Nat):Bool:=true
def decF (k:Nat) (z:Nat→Int) (f:Nat→Value) (i:Nat):Value:=if i=70∨i=51+k then .int .i64 (digestZ (decG f z allP 3 3))else decG f z allP 3 3 i
theorem stC_row (s:St):stC s=row 7 (stCell s):=rfl
theorem st_load {f:Nat→Value} (hf:∀i,i<73→okT (nodeT i) (f i)) (a:Nat) (ha:a<3):(row 7 fun j=>f (6+(a*7+j)))=stC (stOf f a):=by
 obtain⟨x0,x1,x2,x3,x4,x6,t,h,_⟩:=axis_cells hf a ha
 rw [h]
 unfold stOf
 have e:∀j (v:Value),(#[.int .i64 x0,.int .i64 x1,.int .i64 x2,.int .i64 x3,.int .i64 x4,.bool t,.int .i64 x6]:Array Value)[j]?=some v→j<7→f (6+(a*7+j))=v:=fun j v hv hj=>by
  rw [←h,row_at hj]at hv
  exact Option.some.inj hv
 rw [e 0 _ rfl (by omega),e 1 _ rfl (by omega),e 2 _ rfl (by omega),e 3 _ rfl (by omega),e 4 _ rfl (by omega),e 5 _ rfl (by omega),e 6 _ rfl (by omega)]
 rfl
theorem stCell_ok (s:St) (j:Nat) (hj:j<7):okT (!(j==5)) (stCell s j):=by
 obtain rfl|rfl|rfl|rfl|rfl|rfl|rfl:j=0∨j=1∨j=2∨j=3∨j=4∨j=5∨j=6:=by omega
 all_goals exact⟨_,rfl⟩
theorem stCell_one (s:St) (j:Nat) (hj:j<7):(stCell s j).oneCell'=true:=by
 obtain rfl|rfl|rfl|rfl|rfl|rfl|rfl:j=0∨j=1∨j=2∨j=3∨j=4∨j=5∨j=6:=by omega
 all_goals rfl
theorem nodeT_ax (i:Nat) (h1:6≤i) (h2:i<27):nodeT i= !((i-6)%7==5):=by
 unfold nodeT
 rw [Bool.eq_iff_iff]
 simp
 omega
theorem ok_decG {f:Nat→Value} (hf:∀i,i<73→okT (nodeT i) (f i)) (z:Nat→Int) (P:Nat→Bool) (n u:Nat) (hn:n≤3) (hu:u≤3):∀i,i<73→okT (nodeT i) (decG f z P n u i):=fun i hi=>by
 unfold decG
 by_cases h1:6≤i∧i<6+n*7
 ·
  rw [if_pos h1,nodeT_ax i h1.1 (by omega)]
  exact stCell_ok _ _ (Nat.mod_lt _ (by omega))
 ·
  rw [if_neg h1]
  by_cases h2:55≤i∧i<67∧P (i-55)=true
  · rw [if_pos h2,show nodeT i=true by unfold nodeT;simp;omega];exact⟨_,rfl⟩
  ·
   rw [if_neg h2]
   by_cases h3:67≤i∧i<67+u
   · rw [if_pos h3,show nodeT i=true by unfold nodeT;simp;omega];exact⟨_,rfl⟩
   · rw [if_neg h3];exact hf i hi
theorem ok_decF {f:Nat→Value} (hf:∀i,i<73→okT (nodeT i) (f i)) (k:Nat) (hk:k<4) (z:Nat→Int):∀i,i<73→okT (nodeT i) (decF k z f i):=fun i hi=>by
 unfold decF
 split
 ·
  rename_i h
  rw [show nodeT i=true by unfold nodeT;simp;omega];exact⟨_,rfl⟩
 · exact ok_decG hf z _ 3 3 (by omega) (by omega) i hi
theorem decG_start (f:Nat→Value) (z:Nat→Int) (P:Nat→Bool) (hP:∀j,j<12→P j=false) (S:Value):row 74 (nodeW (decG f z P 0 0) S)=row 74 (nodeW f S):=row_congr fun i hi=>by
 unfold nodeW decG
 by_cases h:i=73
 · rw [if_pos h,if_pos h]
 · rw [if_neg h,if_neg h,if_neg (by omega),if_neg (fun h2=>by rw [hP (i-55) (by omega)]at h2;cases h2.2.2),if_neg (by omega)]
theorem decG_agree (f:Nat→Value) (z:Nat→Int) (P P':Nat→Bool) (n u:Nat) (hn:n≤3) (j:Nat) (hj:j<12) {v:Int} (hv:v=z j) (hP:∀x,x<12→P' x=(P x||x==j)) (S:Value):(row 74 (nodeW (decG f z P n u) S)).setIfInBounds (55+j) (.int .i64 v)=row 74 (nodeW (decG f z P' n u) S):=by
 rw [row_set]
 refine row_congr fun i hi=>?_
 by_cases e:i=55+j
 ·
  subst e
  rw [if_pos rfl]
  unfold nodeW decG
  rw [if_neg (by omega),if_neg (by omega),if_pos ⟨by omega,by omega,by rw [Nat.add_sub_cancel_left,hP j hj];simp⟩,Nat.add_sub_cancel_left,hv]
 ·
  rw [if_neg e]
  unfold nodeW decG
  by_cases h:i=73
  · rw [if_pos h,if_pos h]
  ·
   rw [if_neg h,if_neg h]
   by_cases h1:6≤i∧i<6+n*7
   · rw [if_pos h1,if_pos h1]
   ·
    rw [if_neg h1,if_neg h1]
    by_cases h2:55≤i∧i<67
    ·
     have hp:=hP (i-55) (by omega)
     rw [show(i-55==j)=false by simp;omega,Bool.or_false]at hp
     rw [hp]
    · rw [if_neg (c:=55≤i∧i<67∧P (i-55)=true) (fun h=>h2 ⟨h.1,h.2.1⟩),if_neg (c:=55≤i∧i<67∧P' (i-55)=true) (fun h=>h2 ⟨h.1,h.2.1⟩)]
theorem decG_used (f:Nat→Value) (z:Nat→Int) (P:Nat→Bool) (n u:Nat) (hn:n≤3) (hu:u<3) (S:Value):(row 74 (nodeW (decG f z P n u) S)).setIfInBounds (67+u) (.int .i64 (usedZ f z u))=row 74 (nodeW (decG f z P n (u+1)) S):=by
 rw [row_set]
 refine row_congr fun i hi=>?_
 by_cases e:i=67+u
 ·
  subst e
  rw [if_pos rfl]
  unfold nodeW decG
  rw [if_neg (by omega),if_neg (by omega),if_neg (by omega),if_pos (by omega),Nat.add_sub_cancel_left]
 ·
  rw [if_neg e]
  unfold nodeW decG
  by_cases h:i=73
  · rw [if_pos h,if_pos h]
  ·
   rw [if_neg h,if_neg h]
   by_cases h1:6≤i∧i<6+n*7
   · rw [if_pos h1,if_pos h1]
   ·
    rw [if_neg h1,if_neg h1]
    by_cases h2:55≤i∧i<67∧P (i-55)=true
    · rw [if_pos h2,if_pos h2]
    ·
     rw [if_neg h2,if_neg h2]
     by_cases h3:67≤i∧i<67+u
     · rw [if_pos h3,if_pos (by omega)]
     · rw [if_neg h3,if_neg (by omega)]
theorem decG_axis (f:Nat→Value) (z:Nat→Int) (P:Nat→Bool) (n u:Nat) (hn:n<3) (S:Value):row 74 (over (6+n*7) 7 (stCell (newSt f z n)) (nodeW (decG f z P n u) S))=row 74 (nodeW (decG f z P (n+1) u) S):=row_congr fun i hi=>by
 by_cases h:6+n*7≤i∧i<6+n*7+7
 ·
  rw [over_in h.1 h.2]
  unfold nodeW decG
  rw [if_neg (by omega),if_pos (by omega),show(i-6)/7=n by omega,show(i-6)%7=i-(6+n*7)by omega]
 ·
  rw [over_out (by omega)]
  unfold nodeW decG
  by_cases h0:i=73
  · rw [if_pos h0,if_pos h0]
  ·
   rw [if_neg h0,if_neg h0]
   by_cases h1:6≤i∧i<6+n*7
   · rw [if_pos h1,if_pos (show 6≤i∧i<6+(n+1)*7 by omega)]
   · rw [if_neg h1,if_neg (show ¬(6≤i∧i<6+(n+1)*7)by omega)]
theorem decF_row (k:Nat) (hk:k<4) (z:Nat→Int) (f:Nat→Value) (S:Value):((row 74 (nodeW (decG f z allP 3 3) S)).setIfInBounds 70 (.int .i64 (digestZ (decG f z allP 3 3)))).setIfInBounds (51+k) (.int .i64 (digestZ (decG f z allP 3 3)))=row 74 (nodeW (decF k z f) S):=by
 rw [row_set,row_set]
 refine row_congr fun i hi=>?_
 unfold nodeW decF
 by_cases e1:i=51+k
 · rw [if_pos e1,if_neg (by omega),if_pos (.inr e1)]
 ·
  rw [if_neg e1]
  by_cases e2:i=70
  · rw [if_pos e2,if_neg (by omega),if_pos (.inl e2)]
  ·
   rw [if_neg e2]
   by_cases h:i=73
   · rw [if_pos h,if_pos h]
   · rw [if_neg h,if_neg h,if_neg (by omega)]
theorem decG_low (f:Nat→Value) (z:Nat→Int) (P:Nat→Bool) (n u i:Nat) (h:i<6∨(27≤i∧i<55)∨70≤i) (hn:n≤3) (hu:u≤3):decG f z P n u i=f i:=by
 unfold decG
 rw [if_neg (by omega),if_neg (by omega),if_neg (by omega)]
theorem decG_ax (f:Nat→Value) (z:Nat→Int) (P:Nat→Bool) (n u:Nat) (hn:n<3) (j:Nat) (hj:j<7):decG f z P n u (6+(n*7+j))=f (6+(n*7+j)):=by
 unfold decG
 rw [if_neg (by omega),if_neg (by omega),if_neg (by omega)]
theorem decG_ag (f:Nat→Value) (z:Nat→Int) (P:Nat→Bool) (n u:Nat) (hn:n≤3) (j:Nat) (hj:j<12) (hP:P j=true):decG f z P n u (55+j)=.int .i64 (z j):=by
 unfold decG
 rw [if_neg (by omega),if_pos ⟨by omega,by omega,by rw [Nat.add_sub_cancel_left];exact hP⟩,Nat.add_sub_cancel_left]
theorem decG_us (f:Nat→Value) (z:Nat→Int) (P:Nat→Bool) (n u:Nat) (hn:n≤3) (a:Nat) (ha:a<u) (hu:u≤3):decG f z P n u (67+a)=.int .i64 (usedZ f z a):=by
 unfold decG
 rw [if_neg (by omega),if_neg (by omega),if_pos (by omega),Nat.add_sub_cancel_left]
theorem in_decG (f:Nat→Value) (z:Nat→Int) (P:Nat→Bool) (n u:Nat) (hn:n≤3) (hu:u≤3) (i:Nat) (hi:i<4):inB (decG f z P n u) i=inB f i:=by
 unfold inB
 rw [decG_low _ _ _ _ _ _ (by omega) hn hu]
theorem fuse_congrI {I J:Nat→Bool} {z y:Nat→Int}:∀ {k:Nat},(∀j,j<k→I j=J j)→(∀j,j<k→z j=y j)→fuseL I z k=fuseL J y k
 |0,_,_=>rfl
 |k+1,h,g=>by
  unfold fuseL
  rw [fuse_congrI (fun j hj=>h j (by omega)) (fun j hj=>g j (by omega)),h k (by omega),g k (by omega)]
theorem fuse_used (f:Nat→Value) (z:Nat→Int) (P:Nat→Bool) (n u:Nat) (hn:n≤3) (hu:u≤3) (a:Nat) (ha:a<3) (hP:∀s,s<4→P (s*3+a)=true):(midZ (fuseL (inB (decG f z P n u)) (fun s=>agZ (decG f z P n u) s a) 4)).1=usedZ f z a:=by
 unfold usedZ
 rw [fuse_congrI (J:=inB f) (y:=fun s=>z (s*3+a)) (fun j hj=>in_decG f z P n u hn hu j hj) (fun s hs=>by
  unfold agZ
  rw [decG_ag f z P n u hn (s*3+a) (by omega) (hP s hs)]
  rfl)]
theorem mid_in {l:List Int} (h:∀x∈l,In64 x):In64 (midZ l).1:=by
 unfold midZ
 split
 · exact⟨by decide,by decide⟩
 ·
  rename_i h0
  have h1:=h _ (srt_mem (l:=l) (k:=(l.length-1)/3) (by omega))
  have h2:=h _ (srt_mem (l:=l) (k:=l.length-1-(l.length-1)/3) (by omega))
  unfold In64 at*
  show-9223372036854775808≤midOf l∧midOf l≤9223372036854775807
  unfold midOf
  omega
theorem used_in {f:Nat→Value} {z:Nat→Int} (hz:∀j,j<12→In64 (z j)) (a:Nat) (ha:a<3):In64 (usedZ f z a):=mid_in fun x hx=>by
 obtain⟨s,hs,_,rfl⟩:=fuse_mem hx
 exact hz _ (by omega)
theorem st_in {f:Nat→Value} (hf:∀i,i<73→okT (nodeT i) (f i)) (hw:∀i z,i<73→f i=.int .i64 z→Wf z) (a:Nat) (ha:a<3):StIn (stOf f a):=by
 have h:∀j,j<5→In64 (iv (f (6+(a*7+j)))):=fun j hj=>Op.wf_i64 (hw (6+(a*7+j)) _ (by omega) (cell_int hf (6+(a*7+j)) (by omega) (by rw [nodeT_ax _ (by omega) (by omega)];simp;omega)))
 exact⟨h 0 (by omega),h 1 (by omega),h 2 (by omega),h 3 (by omega),h 4 (by omega)⟩
theorem tun_in {f:Nat→Value} (hf:∀i,i<73→okT (nodeT i) (f i)) (hw:∀i z,i<73→f i=.int .i64 z→Wf z) (i:Nat) (hi:2≤i∧i<6):In64 (iv (f i)):=Op.wf_i64 (hw i _ (by omega) (cell_int hf i (by omega) (by unfold nodeT;simp;omega)))
theorem wf_agreed {f:Nat→Value} (hf:∀i,i<73→okT (nodeT i) (f i)) (hw:∀i z,i<73→f i=.int .i64 z→Wf z) {ms:List Ms.Msg} (hm:∀m∈ms,∀z∈m.zs,Wf z) (k:Nat) (fr:Int):∀j,j<12→In64 (agreedZ k fr ms f j):=fun j hj=>by
 unfold agreedZ
 refine Op.wf_i64 (wf_taken ?_ fun j m h=>hm m (List.mem_of_find?_eq_some h))
 exact hw (39+j) _ (by omega) (cell_int hf (39+j) (by omega) (by unfold nodeT;simp;omega))
end Nd
namespace Nd
open Go.RowKit Mem Rws Flat
def zAt (zs:List Int) (i:Nat):Int:=zs.getD i 0
def bitZ (v:Int) (i:Nat):Bool:=v.toNat/2 ^ i%2==1
def octAt (v:Int) (i:Nat):Int:=((v.toNat/8 ^ (3-i)%8:Nat):Int)
def rollU (zs:List Int):RS:=⟨bitZ (zAt zs 21),octAt (zAt zs 22),octAt (zAt zs 23)⟩
def tailOk (zs:List Int):Bool:=decide (0≤zAt zs 21∧zAt zs 21<16∧0≤zAt zs 22∧zAt zs 22<4096∧0≤zAt zs 23∧zAt zs 23<4096)
def bentOk (zs:List Int) (a:Nat):Bool:=decide (zAt zs (a*7+5)=0∨zAt zs (a*7+5)=1)
def bentTo (zs:List Int):Nat→Bool
 |0=>true
 |a+1=>bentTo zs a&&bentOk zs a
def goodU (zs:List Int):Bool:=okTo (rollU zs).f (rollU zs).m (rollU zs).j 4
def unpackOk (zs:List Int):Bool:=tailOk zs&&goodU zs&&bentTo zs 3
def axV (zs:List Int) (i:Nat):Value:=if i%7=5 then .bool (zAt zs i==1)else .int .i64 (zAt zs i)
def axU (zs:List Int) (k:Nat) (f:Nat→Value) (i:Nat):Value:=if 6≤i∧i<6+k*7 then axV zs (i-6)else f i
def unpackF (zs:List Int) (f:Nat→Value):Nat→Value:=rollW (axU zs 3 f) (rollU zs)
theorem bent_bad {zs:List Int} {k:Nat} (hb:bentOk zs k=false):∀ {n:Nat},k<n→bentTo zs n=false
 |0,h=>absurd h (by omega)
 |n+1,h=>by
  unfold bentTo
  by_cases e:k=n
  · subst e;rw [hb,Bool.and_false]
  · rw [bent_bad hb (show k<n by omega),Bool.false_and]
theorem axV_one (zs:List Int) (i:Nat):(axV zs i).oneCell'=true:=by unfold axV;split<;>rfl
theorem ok_axU {f:Nat→Value} (hf:∀i,i<73→okT (nodeT i) (f i)) (zs:List Int) (k:Nat) (hk:k≤3):∀i,i<73→okT (nodeT i) (axU zs k f i):=fun i hi=>by
 unfold axU
 by_cases h:6≤i∧i<6+k*7
 ·
  rw [if_pos h]
  unfold axV
  by_cases h5:(i-6)%7=5
  ·
   rw [if_pos h5]
   obtain rfl|rfl|rfl:i=11∨i=18∨i=25:=by omega
   all_goals exact⟨_,rfl⟩
  ·
   rw [if_neg h5]
   have e:nodeT i=true:=by unfold nodeT;simp;omega
   rw [e]
   exact⟨_,rfl⟩
 · rw [if_neg h];exact hf i hi
theorem ok_unpack {f:Nat→Value} (hf:∀i,i<73→okT (nodeT i) (f i)) (zs:List Int):∀i,i<73→okT (nodeT i) (unpackF zs f i):=ok_rollW (ok_axU hf zs 3 (Nat.le_refl _)) _
theorem unpack_low (zs:List Int) (f:Nat→Value) (i:Nat) (h:i<6):unpackF zs f i=f i:=by
 unfold unpackF rollW axU
 rw [if_neg (by omega),if_neg (by omega)]
theorem unpack_high (zs:List Int) (f:Nat→Value) (i:Nat) (h:39≤i):unpackF zs f i=f i:=by
 unfold unpackF rollW axU
 rw [if_neg (by omega),if_neg (by omega)]
theorem unpack_row (zs:List Int) (f:Nat→Value) (S:Value):row 74 (over 27 12 (rollF (rollU zs).f (rollU zs).m (rollU zs).j) (over 6 21 (axV zs) (nodeW f S)))=row 74 (nodeW (unpackF zs f) S):=row_congr fun i hi=>by
 unfold over nodeW unpackF rollW axU
 by_cases h:27≤i∧i<27+12
 · rw [if_pos h,if_neg (by omega),if_pos (by omega)]
 ·
  rw [if_neg h,if_neg (show ¬(27≤i∧i<39)by omega)]
  by_cases h6:6≤i∧i<6+21
  · rw [if_pos h6,if_neg (by omega),if_pos (by omega)]
  ·
   rw [if_neg h6]
   by_cases e:i=73
   · rw [if_pos e,if_pos e]
   · rw [if_neg e,if_neg e,if_neg (by omega)]
theorem ax_store (zs:List Int) (k:Nat) (hk:k<3) (F:Nat→Value):row 21 (over (k*7) 7 (fun j=>axV zs (k*7+j)) (fun i=>if i<k*7 then axV zs i else F i))=row 21 (fun i=>if i<(k+1)*7 then axV zs i else F i):=row_congr fun i hi=>by
 unfold over
 by_cases h:k*7≤i∧i<k*7+7
 ·
  rw [if_pos h,if_pos (by omega)]
  show axV zs (k*7+(i-k*7))=_
  rw [show k*7+(i-k*7)=i by omega]
 ·
  rw [if_neg h]
  show(if i<k*7 then axV zs i else F i)=_
  by_cases h2:i<k*7
  · rw [if_pos h2,if_pos (by omega)]
  · rw [if_neg h2,if_neg (by omega)]
theorem axV_row (zs:List Int) (k:Nat) (hk:k<3):(row 7 fun j=>axV zs (k*7+j))=#[.int .i64 (zAt zs (k*7)),.int .i64 (zAt zs (k*7+1)),.int .i64 (zAt zs (k*7+2)),.int .i64 (zAt zs (k*7+3)),.int .i64 (zAt zs (k*7+4)),.bool (zAt zs (k*7+5)==1),.int .i64 (zAt zs (k*7+6))]:=by
 obtain rfl|rfl|rfl:k=0∨k=1∨k=2:=by omega
 all_goals rfl
theorem rd_zs {w:World} {B:Nat} {a:Option Addr} {zs:List Int} (h:Rd w B 1 a zs.length (Ms.intsV zs)) (hl:zs.length=24):∃b o,a=some ⟨b,o,none⟩∧b<B∧∀j,j<24→ w.cell? ⟨b,o+j,none⟩=some (.int .i64 (zAt zs j)):=by
 obtain⟨b,o,e,hb,hc⟩:=h.2 (by omega)
 refine⟨b,o,e,hb,fun j hj=>hc j _ ?_⟩
 unfold Ms.intsV zAt
 rw [List.getElem?_map,List.getD_eq_getElem?_getD,List.getElem?_eq_getElem (by omega)]
 rfl
theorem gr_alloc (w:World) (o:Obj) (row:Option Nat):w.grownBy (w.alloc o) row:=gr_below ((Below.refl _ _).alloc (Nat.le_refl _) o)
theorem gr_setCells (w:World) (g:Nat):∀(vs:List Value) (o:Nat),w.grownBy (w.setCells g o vs) (some g)
 |[],_=>gr_refl w _
 |v::r,o=>by
  rw [World.setCells]
  exact gr_trans (gr_set w g o v) (gr_setCells _ g r (o+1))
def uptoB (g:Nat→Bool) (j i:Nat):Bool:=if i<j then g i else false
def uptoI (g:Nat→Int) (j i:Nat):Int:=if i<j then g i else 0
theorem uptoB_succ (g:Nat→Bool) (j:Nat):upd (uptoB g j) j (g j)=uptoB g (j+1):=funext fun i=>by
 unfold upd uptoB
 by_cases e:i=j
 · subst e;rw [if_pos rfl,if_pos (by omega)]
 ·
  rw [if_neg e]
  by_cases h:i<j
  · rw [if_pos h,if_pos (by omega)]
  · rw [if_neg h,if_neg (by omega)]
theorem uptoI_succ (g:Nat→Int) (j:Nat):upd (uptoI g j) j (g j)=uptoI g (j+1):=funext fun i=>by
 unfold upd uptoI
 by_cases e:i=j
 · subst e;rw [if_pos rfl,if_pos (by omega)]
 ·
  rw [if_neg e]
  by_cases h:i<j
  · rw [if_pos h,if_pos (by omega)]
  · rw [if_neg h,if_neg (by omega)]
theorem upto_all (r:RS):row 12 (rollF (uptoB r.f 4) (uptoI r.m 4) (uptoI r.j 4))=r.row:=
 roll_congr (fun i hi=>by unfold uptoB;rw [if_pos hi]) (fun i hi=>by unfold uptoI;rw [if_pos hi]) (fun i hi=>by unfold uptoI;rw [if_pos hi])
theorem and1z (n:Int):bits .and .i64 n 1=n%2:=by
 have h1:(BitVec.ofInt 64 1).toNat=2 ^ 1-1:=by decide
 have key:(BitVec.ofInt 64 n&&& BitVec.ofInt 64 1).toNat=(n%((2 ^ 64:Nat):Int)).toNat%2 ^ 1:=by
  rw [BitVec.toNat_and,BitVec.toNat_ofInt,h1,Nat.and_two_pow_sub_one_eq_mod]
 show IntKind.i64.wrap ((BitVec.ofInt 64 n&&& BitVec.ofInt 64 1).toNat:Nat)=n%2
 rw [key,IntKind.wrap_i64]
 omega
theorem and7z (n:Int):bits .and .i64 n 7=n%8:=by
 have h1:(BitVec.ofInt 64 7).toNat=2 ^ 3-1:=by decide
 have key:(BitVec.ofInt 64 n&&& BitVec.ofInt 64 7).toNat=(n%((2 ^ 64:Nat):Int)).toNat%2 ^ 3:=by
  rw [BitVec.toNat_and,BitVec.toNat_ofInt,h1,Nat.and_two_pow_sub_one_eq_mod]
 show IntKind.i64.wrap ((BitVec.ofInt 64 n&&& BitVec.ofInt 64 7).toNat:Nat)=n%8
 rw [key,IntKind.wrap_i64]
 omega
theorem bit_mod (v j:Nat) {x:Int} (hx:x=((v/2 ^ j:Nat):Int)):(x%2==1)=bitZ (v:Int) j:=by
 subst hx
 unfold bitZ
 rw [Int.toNat_natCast]
 generalize v/2 ^ j=y
 rw [Bool.eq_iff_iff]
 simp
 omega
theorem bit_law (v j:Nat) {x:Int} (hx:x=((v/2 ^ j:Nat):Int)):(bits .and .i64 x 1==1)=bitZ (v:Int) j:=by
 rw [and1z];exact bit_mod v j hx
theorem oct_mod (v j:Nat) {x:Int} (hx:x=((v/8 ^ (3-j):Nat):Int)):x%8=octAt (v:Int) j:=by
 subst hx
 unfold octAt
 rw [Int.toNat_natCast]
 generalize v/8 ^ (3-j)=y
 omega
theorem oct_law (v j:Nat) {x:Int} (hx:x=((v/8 ^ (3-j):Nat):Int)):bits .and .i64 x 7=octAt (v:Int) j:=by
 rw [and7z];exact oct_mod v j hx
theorem roll_put (r:RS) (j:Nat) (hj:j<4) {w:World} {g:Nat} {t:TypeId} (h:Blk w g t (row 12 (rollF (uptoB r.f j) (uptoI r.m j) (uptoI r.j j)))) {b:Bool} {x y:Int} (hb:b=r.f j) (hx:x=r.m j) (hy:y=r.j j):
  Blk (((w.setCell ⟨g,j,none⟩ (.bool b)).setCell ⟨g,4+j,none⟩ (.int .i64 x)).setCell ⟨g,8+j,none⟩ (.int .i64 y)) g t (row 12 (rollF (uptoB r.f (j+1)) (uptoI r.m (j+1)) (uptoI r.j (j+1)))):=by
 subst hb hx hy
 have h1:=((h.set j (.bool (r.f j))).set (4+j) (.int .i64 (r.m j))).set (8+j) (.int .i64 (r.j j))
 rwa [roll_in _ _ _ j hj,roll_miss _ _ _ j hj,roll_join _ _ _ j hj,uptoB_succ,uptoI_succ,uptoI_succ]at h1
theorem rollU_f (zs:List Int):(rollU zs).f=bitZ (zAt zs 21):=rfl
theorem rollU_m (zs:List Int):(rollU zs).m=octAt (zAt zs 22):=rfl
theorem rollU_j (zs:List Int):(rollU zs).j=octAt (zAt zs 23):=rfl
theorem wp_store_midE {P:Program} {op:Oper} {a:Act} {w:World} {K:Act→World→Prop} {Q:Exit→Act→World→Prop} (ty:TypeId) (x y:Operand) (ho:op.op=.store ty x y)
  (b o:Nat) (cells:Array Value) (hx:a.eval x=.pointer (some ⟨b,o,none⟩)) (hy:a.eval y=.agg cells)
  (ht:w.there b o cells.size) (hi:(P.info? ty).map (·.size)=some cells.size) (h1:cells.all (·.oneCell')=true)
  (h:∀V,V=w.setCells b o cells.toList→K (a.put op.dst undef) V):op.wp P a w K Q:=wp_store_mid ty x y ho b o cells hx hy ht hi h1 (h _ rfl)
theorem below_setE {B b o:Nat} (hB:B≤b) {a w V:World} {vs:List Value} (e:V=w.setCells b o vs) (h:Below B a w):Below B a V:=by
 subst e;exact below_setCells hB vs o h
end Nd
namespace Nd
open Go.RowKit Mem Rws Flat
def pairAt (o:Nat→Option Ms.Msg) (i k:Nat):Option (List Int):=
 match o i,o k with
 |some a,some b=>if a.zs=b.zs then some a.zs else none
 |_,_=>none
def pairs:List (Nat×Nat):=[(0,1),(0,2),(0,3),(1,2),(1,3),(2,3)]
def pairOf (o:Nat→Option Ms.Msg):Option (List Int):= pairs.findSome? fun p=>pairAt o p.1 p.2
def NoPair (o:Nat→Option Ms.Msg) (i k:Nat):Prop:=∀a b,a<b→b<4→(a<i∨a=i∧b<k)→pairAt o a b=none
theorem NoPair.start (o:Nat→Option Ms.Msg):NoPair o 0 1:=fun a b h1 h2 h3=>by omega
theorem NoPair.step {o:Nat→Option Ms.Msg} {i k:Nat} (h:NoPair o i k) (hp:pairAt o i k=none):NoPair o i (k+1):=fun a b h1 h2 h3=>by
 by_cases e:a=i∧b=k
 · rw [e.1,e.2];exact hp
 · exact h a b h1 h2 (by omega)
theorem NoPair.next {o:Nat→Option Ms.Msg} {i:Nat} (h:NoPair o i 4):NoPair o (i+1) (i+1+1):=fun a b h1 h2 h3=>h a b h1 h2 (by omega)
theorem NoPair.all {o:Nat→Option Ms.Msg} {i k:Nat} (hi:4≤i) (h:NoPair o i k):pairOf o=none:=by
 have hp:∀a b,a<b→b<4→pairAt o a b=none:=fun a b h1 h2=>h a b h1 h2 (by omega)
 simp [pairOf,pairs,hp 0 1,hp 0 2,hp 0 3,hp 1 2,hp 1 3,hp 2 3]
theorem NoPair.found {o:Nat→Option Ms.Msg} {i k:Nat} (h:NoPair o i k) (hik:i<k) (hk:k<4) {zs:List Int} (hz:pairAt o i k=some zs):pairOf o=some zs:=by
 have hp:∀a b,a<b→b<4→(a<i∨a=i∧b<k)→pairAt o a b=none:=h
 obtain⟨rfl,rfl⟩|⟨rfl,rfl⟩|⟨rfl,rfl⟩|⟨rfl,rfl⟩|⟨rfl,rfl⟩|⟨rfl,rfl⟩:(i=0∧k=1)∨(i=0∧k=2)∨(i=0∧k=3)∨(i=1∧k=2)∨(i=1∧k=3)∨(i=2∧k=3):=by omega
 · simp [pairOf,pairs,hz]
 · simp [pairOf,pairs,hz,hp 0 1]
 · simp [pairOf,pairs,hz,hp 0 1,hp 0 2]
 · simp [pairOf,pairs,hz,hp 0 1,hp 0 2,hp 0 3]
 · simp [pairOf,pairs,hz,hp 0 1,hp 0 2,hp 0 3,hp 1 2]
 · simp [pairOf,pairs,hz,hp 0 1,hp 0 2,hp 0 3,hp 1 2,hp 1 3]
theorem pair_some {o:Nat→Option Ms.Msg} {i k:Nat} {a b:Ms.Msg} (ha:o i=some a) (hb:o k=some b) (h:a.zs=b.zs):pairAt o i k=some a.zs:=by
 unfold pairAt;rw [ha,hb];exact if_pos h
theorem pair_other {o:Nat→Option Ms.Msg} {i k:Nat} {a b:Ms.Msg} (ha:o i=some a) (hb:o k=some b) (h:¬a.zs=b.zs):pairAt o i k=none:=by
 unfold pairAt;rw [ha,hb];exact if_neg h
theorem pair_none1 {o:Nat→Option Ms.Msg} {i k:Nat} (ha:o i=none):pairAt o i k=none:=by unfold pairAt;rw [ha]
theorem pair_none2 {o:Nat→Option Ms.Msg} {i k:Nat} (hb:o k=none):pairAt o i k=none:=by
 unfold pairAt;rw [hb];cases o i<;>rfl
def takeU (zs:List Int) (f:Nat→Value):Nat→Value:=if unpackOk zs=true then unpackF zs f else f
def adoptF (o:Nat→Option Ms.Msg) (f:Nat→Value):Nat→Value:=match pairOf o with
 |some zs=>takeU zs f
 |none=>f
def lostB (f:Nat→Value):Bool:=bv (f 72)&&(iv (f 71)!=iv (f 70))
def closeF (o:Nat→Option Ms.Msg) (f:Nat→Value):Nat→Value:=if lostB f=true then adoptF o f else f
theorem ok_takeU {f:Nat→Value} (hf:∀i,i<73→okT (nodeT i) (f i)) (zs:List Int):∀i,i<73→okT (nodeT i) (takeU zs f i):=by
 unfold takeU;split
 · exact ok_unpack hf zs
 · exact hf
theorem ok_adopt {f:Nat→Value} (hf:∀i,i<73→okT (nodeT i) (f i)) (o:Nat→Option Ms.Msg):∀i,i<73→okT (nodeT i) (adoptF o f i):=by
 unfold adoptF
 cases pairOf o with
 |some zs=>exact ok_takeU hf zs
 |none=>exact hf
theorem ok_close {f:Nat→Value} (hf:∀i,i<73→okT (nodeT i) (f i)) (o:Nat→Option Ms.Msg):∀i,i<73→okT (nodeT i) (closeF o f i):=by
 unfold closeF;split
 · exact ok_adopt hf o
 · exact hf
theorem takeU_keep (zs:List Int) (f:Nat→Value) (i:Nat) (h:i<6∨39≤i):takeU zs f i=f i:=by
 unfold takeU;split
 ·
  rcases h with h|h
  · exact unpack_low zs f i h
  · exact unpack_high zs f i h
 · rfl
theorem adopt_keep (o:Nat→Option Ms.Msg) (f:Nat→Value) (i:Nat) (h:i<6∨39≤i):adoptF o f i=f i:=by
 unfold adoptF
 cases pairOf o with
 |some zs=>exact takeU_keep zs f i h
 |none=>rfl
theorem close_keep (o:Nat→Option Ms.Msg) (f:Nat→Value) (i:Nat) (h:i<6∨39≤i):closeF o f i=f i:=by
 unfold closeF;split
 · exact adopt_keep o f i h
 · rfl
def HeardC (w:World) (B:Nat) (o:Option Ms.Msg) (v:Value):Prop:=
 match o with
 |some m=>∃a c,v=.slice (some a) m.zs.length c∧Rd w B 1 (some a) m.zs.length (Ms.intsV m.zs)∧m.zs.length≤c
 |none=>v=.slice none 0 0
theorem HeardC.of {w:World} {base:Nat} {o:Option Ms.Msg} {v:Value} (h:Ms.HeardAs w base o v):HeardC w w.heap.size o v:=by
 cases o with
 |none=>exact h
 |some m=>obtain⟨a,c,rfl,h2⟩:=h;exact⟨a,c,rfl,Rd.of_own h2,(own_cap h2).2⟩
theorem HeardC.below {w w':World} {B:Nat} {o:Option Ms.Msg} {v:Value} (h:HeardC w B o v) (hb:Below B w w'):HeardC w' B o v:=by
 cases o with
 |none=>exact h
 |some m=>obtain⟨a,c,e,h2,h3⟩:=h;exact⟨a,c,e,h2.below hb,h3⟩
theorem HeardC.more {w:World} {B B':Nat} {o:Option Ms.Msg} {v:Value} (h:HeardC w B o v) (hB:B≤B'):HeardC w B' o v:=by
 cases o with
 |none=>exact h
 |some m=>obtain⟨a,c,e,h2,h3⟩:=h;exact⟨a,c,e,h2.more hB,h3⟩
end Nd
namespace Nd
open Go.RowKit Mem Rws Flat
def repF (g:Nat→Value) (j:Nat):Value:=if j<2 then g j else if j<5 then g (65+j)else if j<8 then g (6+(j-5)*7)else if j=8 then g 70 else if j=9 then g 72 else g (17+j)
def rep0:Array Value:=#[.int .i64 0,.int .i64 0,.int .i64 0,.int .i64 0,.int .i64 0,.int .i64 0,.int .i64 0,.int .i64 0,.int .i64 0,.bool false,.bool false,.bool false,.bool false,.bool false]
theorem repF_row (g:Nat→Value):row 14 (repF g)=#[g 0,g 1,g 67,g 68,g 69,g 6,g 13,g 20,g 70,g 72,g 27,g 28,g 29,g 30]:=rfl
def NodeRep (w w':World) (f:Nat→Value) (bs:List Bool) (rep:Array Value) (e:Ending):Prop:=
 ∃A c,e=.returned (.tuple #[.agg (row 74 (nodeW f (.slice A bs.length c))),.agg rep])∧Rd w' w'.heap.size 1 A bs.length (boolsV bs)∧Below w.heap.size w w'∧(∀a,A=some a→w.heap.size≤a.block)∧(A=none→c=0)∧bs.length≤c
theorem rep_cells {f:Nat→Value} (hf:∀i,i<73→okT (nodeT i) (f i)):∃a b u0 u1 u2 x0 x1 x2 d:Int,∃s i0 i1 i2 i3:Bool,f 0=.int .i64 a∧f 1=.int .i64 b∧f 67=.int .i64 u0∧f 68=.int .i64 u1∧f 69=.int .i64 u2∧f 6=.int .i64 x0∧f 13=.int .i64 x1∧f 20=.int .i64 x2∧f 70=.int .i64 d∧f 72=.bool s∧f 27=.bool i0∧f 28=.bool i1∧f 29=.bool i2∧f 30=.bool i3:=by
 obtain⟨a,ha⟩:=hf 0 (by omega)
 obtain⟨b,hb⟩:=hf 1 (by omega)
 obtain⟨u0,h0⟩:=hf 67 (by omega)
 obtain⟨u1,h1⟩:=hf 68 (by omega)
 obtain⟨u2,h2⟩:=hf 69 (by omega)
 obtain⟨x0,h3⟩:=hf 6 (by omega)
 obtain⟨x1,h4⟩:=hf 13 (by omega)
 obtain⟨x2,h5⟩:=hf 20 (by omega)
 obtain⟨d,h6⟩:=hf 70 (by omega)
 obtain⟨s,h7⟩:=hf 72 (by omega)
 obtain⟨i0,h8⟩:=hf 27 (by omega)
 obtain⟨i1,h9⟩:=hf 28 (by omega)
 obtain⟨i2,h10⟩:=hf 29 (by omega)
 obtain⟨i3,h11⟩:=hf 30 (by omega)
 exact⟨a,b,u0,u1,u2,x0,x1,x2,d,s,i0,i1,i2,i3,ha,hb,h0,h1,h2,h3,h4,h5,h6,h7,h8,h9,h10,h11⟩
theorem own_belowLo {w w':World} {base G:Nat} {e:TypeId} {size:Nat} {v:Value} {n:Nat} {xs:List Value} (h:w.ownsRow base e size v n xs) (hb:Below G w w') (hl:∀g,v.ownBlock=some g→g<G):w'.ownsRow base e size v n xs:=by
 obtain⟨hl',h|⟨b,cap,cur,hv,hB,hh,hc⟩⟩:=h
 · exact⟨hl',.inl h⟩
 · exact⟨hl',.inr ⟨b,cap,cur,hv,hB,(hb.block b (hl b (by rw [hv];rfl))).trans hh,hc⟩⟩
def repU (g:Nat→Value) (k j:Nat):Value:=if 5+k≤j∧j<8 then .int .i64 0 else repF g j
theorem repU_row (g:Nat→Value):row 14 (repU g 0)=#[g 0,g 1,g 67,g 68,g 69,.int .i64 0,.int .i64 0,.int .i64 0,g 70,g 72,g 27,g 28,g 29,g 30]:=rfl
theorem repU_all (g:Nat→Value):row 14 (repU g 3)=row 14 (repF g):=row_congr fun j hj=>if_neg (by omega)
theorem repU_put (g:Nat→Value) (k:Nat) (hk:k<3) {v:Value} (hv:repF g (5+k)=v):(row 14 (repU g k)).setIfInBounds (5+k) v=row 14 (repU g (k+1)):=by
 subst hv
 rw [row_set]
 refine row_congr fun j hj=>?_
 unfold repU
 by_cases e:j=5+k
 · subst e;rw [if_pos rfl,if_neg (by omega)]
 ·
  rw [if_neg e]
  by_cases h:5+k≤j∧j<8
  · rw [if_pos h,if_pos (by omega)]
  · rw [if_neg h,if_neg (by omega)]
theorem axis_rep {f:Nat→Value} (hf:∀i,i<73→okT (nodeT i) (f i)) (k:Nat) (hk:k<3):∃a b c d e m:Int,∃t:Bool,(row 7 fun j=>f (6+(k*7+j)))=#[.int .i64 a,.int .i64 b,.int .i64 c,.int .i64 d,.int .i64 e,.bool t,.int .i64 m]∧repF f (5+k)=.int .i64 a:=by
 obtain⟨a,b,c,d,e,m,t,h,_⟩:=axis_cells hf k hk
 refine⟨a,b,c,d,e,m,t,h,?_⟩
 have h0:(row 7 fun j=>f (6+(k*7+j)))[0]?=some (.int .i64 a):=by rw [h];rfl
 rw [row_at (by omega)]at h0
 have h1:=Option.some.inj h0
 rw [←h1]
 obtain rfl|rfl|rfl:k=0∨k=1∨k=2:=by omega
 all_goals rfl
end Nd
namespace Cf
open Go.RowKit Mem Rws Nd Cl
structure CluS where
 fr:Int
 F:Nat→Nat→Value
 V:Nat→List Bool
structure InS where
 rd:Nat→Int
 bad:Int
 ls:List Lie
def rds (x:InS) (i:Nat):List Int:=[x.rd (i*3),x.rd (i*3+1),x.rd (i*3+2)]
def nod (i:Nat):Int:=(i:Int)
section
variable (c : CluS) (x : InS)
def G1 (i:Nat):Nat→Value:=senseF (c.F i) c.fr i (x.rd (i*3)) (x.rd (i*3+1)) (x.rd (i*3+2))
def F1:Nat→Nat→Value:=newK x.bad (G1 c x) c.F 4
noncomputable def X1:Nat→List Ms.Msg:=phX x.bad 0 x.ls (fun _=>1) nod (fun _=>c.fr) (rds x) 4
noncomputable def G2 (i:Nat):Nat→Value:=relayK (F1 c x i) (relayV (i:Int) c.fr (X1 c x i)) 4
noncomputable def F2:Nat→Nat→Value:=newK x.bad (G2 c x) (F1 c x) 4
noncomputable def X2:Nat→List Ms.Msg:=phX x.bad 1 x.ls (fun _=>2) nod (fun _=>c.fr) (fun i=>dvs (G2 c x i)) 4
noncomputable def A3 (i:Nat):Nat→Int:=agreedZ i c.fr (X2 c x i) (F2 c x i)
noncomputable def D3 (i:Nat):Int:=digestZ (decG (F2 c x i) (A3 c x i) allP 3 3)
noncomputable def G3 (i:Nat):Nat→Value:=decF i (A3 c x i) (F2 c x i)
noncomputable def F3:Nat→Nat→Value:=newK x.bad (G3 c x) (F2 c x) 4
noncomputable def X3:Nat→List Ms.Msg:=phX x.bad 2 x.ls (fun _=>3) nod (fun _=>c.fr) (fun i=>[D3 c x i]) 4
noncomputable def G4 (i:Nat):Nat→Value:=passK (F3 c x i) (passV (i:Int) c.fr (X3 c x i)) 4
noncomputable def F4:Nat→Nat→Value:=newK x.bad (G4 c x) (F3 c x) 4
noncomputable def X4:Nat→List Ms.Msg:=phX x.bad 3 x.ls (fun _=>2) nod (fun _=>c.fr) (fun i=>hvs (G4 c x i)) 4
noncomputable def L5 (i:Nat):Nat→Int:=digestsZ i c.fr (X4 c x i) (F4 c x i)
noncomputable def G5 (i:Nat):Nat→Value:=judgeF (L5 c x i) (F4 c x i)
noncomputable def V5 (i:Nat):List Bool:=agreeL (L5 c x i) (inB (F4 c x i))
noncomputable def F5:Nat→Nat→Value:=newK x.bad (G5 c x) (F4 c x) 4
noncomputable def W5:Nat→List Bool:=newK x.bad (V5 c x) c.V 4
noncomputable def X5:Nat→List Ms.Msg:=phX x.bad 4 x.ls (fun _=>5) nod (fun _=>c.fr) (fun i=>packZ (G5 c x i)) 4
noncomputable def G6 (i:Nat):Nat→Value:=closeF (fun j:Nat=>Ms.firstOf (i:Int) c.fr 5 24 (j:Int) (X5 c x i)) (F5 c x i)
noncomputable def F6:Nat→Nat→Value:=newK x.bad (G6 c x) (F5 c x) 4
noncomputable def next:CluS:=⟨c.fr+1,F6 c x,W5 c x⟩
def goods (bad:Int):Nat→List Nat
 |0=>[]
 |n+1=>goods bad n++if(n:Int)=bad then []else [n]
noncomputable def reps (n:Nat):List Value:=(goods x.bad n).flatMap fun i=>(row 14 (repF (G6 c x i))).toList
end
structure Sane (c:CluS):Prop where
 id:∀i,i<4→c.F i 0=.int .i64 (i:Int)
 ok:∀i,i<4→∀j,j<73→okT (nodeT j) (c.F i j)
 wf:∀i,i<4→∀j z,j<73→c.F i j=.int .i64 z→Wf z
 fr:0≤c.fr∧c.fr<1073741824
 v:∀i,i<4→(c.V i).length≤140737488351232
theorem newK_good {α:Type} {bad:Int} {G F:Nat→α} {i:Nat} (hi:i<4) (h:(i:Int)≠bad):newK bad G F 4 i=G i:=if_pos ⟨hi,h⟩
theorem newK_bad {α:Type} {bad:Int} {G F:Nat→α} {i:Nat} (h:(i:Int)=bad):newK bad G F 4 i=F i:=if_neg (fun c=>c.2 h)
end Cf
namespace Cl
open Go.RowKit Mem Rws Nd
theorem hb_succ (v:Int) (j:Nat):Wr.hb v (j+1)=Wr.hb (v/256) j:=by
 unfold Wr.hb
 rw [Int.pow_succ,Int.mul_comm,←Int.ediv_ediv_of_nonneg (by omega)]
theorem emod_split (v b:Int):v%(256*b)=v%256+256*(v/256%b):=by
 rw [Int.emod_def v (256*b),Int.emod_def v 256,Int.emod_def (v/256) b,←Int.ediv_ediv_of_nonneg (by omega),Int.mul_sub]
 have:256*b*(v/256/b)=256*(b*(v/256/b)):=Int.mul_assoc ..
 rw [this];omega
theorem valB_of {bs:List Nat}:∀(n:Nat) (v:Int) (o:Nat),(∀j,j<n→Ms.bAt bs (o+j)=Wr.hb v (n-1-j))→(Ms.valB bs o n:Int)=v%256 ^ n
 |0,v,o,_=>by
  show((0:Nat):Int)=_
  omega
 |n+1,v,o,h=>by
  have ih:=valB_of n (v/256) o (fun j hj=>by
   rw [h j (by omega),show n+1-1-j=(n-1-j)+1 by omega,hb_succ])
  have h0:=h n (by omega)
  rw [show n+1-1-n=0 by omega]at h0
  unfold Ms.valB
  rw [h0]
  have h1:((Wr.hb v 0:Nat):Int)=v%256:=by
   have:=Wr.hb_int v 0
   rw [Int.pow_zero,Int.ediv_one]at this
   exact this
  have h2:(256:Int) ^ (n+1)=256*256 ^ n:=by rw [Int.pow_succ,Int.mul_comm]
  rw [h2,emod_split,←ih]
  generalize Ms.valB bs o n=V at*
  generalize Wr.hb v 0=u at*
  omega
theorem hi_at (v:Int):∀(n j:Nat),j<n→(Wr.hi v n)[j]?=some (Wr.hb v (n-1-j))
 |0,j,h=>by omega
 |n+1,0,h=>by simp [Wr.hi]
 |n+1,j+1,h=>by
  simp only [Wr.hi,List.getElem?_cons_succ]
  rw [hi_at v n j (by omega)]
  congr 2
  omega
theorem vals_at:∀(zs:List Int) (i j:Nat) (hi:i<zs.length),j<8→(Wr.vals zs)[8*i+j]?=some (Wr.hb (zs[i]) (7-j))
 |[],i,j,hi,_=>by simp at hi
 |z::zs,0,j,hi,hj=>by
  have:Wr.vals (z::zs)=Wr.hi z 8++Wr.vals zs:=rfl
  rw [this,Nat.mul_zero,Nat.zero_add,List.getElem?_append_left (by rw [Wr.hi_length];exact hj)]
  exact hi_at z 8 j hj
 |z::zs,i+1,j,hi,hj=>by
  have:Wr.vals (z::zs)=Wr.hi z 8++Wr.vals zs:=rfl
  rw [this,List.getElem?_append_right (by rw [Wr.hi_length];omega),Wr.hi_length,show 8*(i+1)+j-8=8*i+j by omega]
  exact vals_at zs i j (by simpa using hi) hj
theorem bAt_enc {k f n:Int} {zs:List Int} {i:Nat} {b:Nat} (h:(Wr.body k f n zs zs.length)[i]?=some b):Ms.bAt (Wr.enc k f n zs) i=b:=by
 unfold Ms.bAt Wr.enc Sm.sealed
 rw [List.getD_eq_getElem?_getD,List.getElem?_append_left (List.getElem?_eq_some_iff.1 h).1,h]
 rfl
theorem body_front {k f n:Int} {zs:List Int} {i:Nat} (h:i<8):(Wr.body k f n zs zs.length)[i]?=(Wr.front k f n zs.length)[i]?:=by
 unfold Wr.body
 exact List.getElem?_append_left (by rw [Wr.front_length];exact h)
theorem hb0_small {v:Int} (h0:0≤v) (h1:v<256):(Wr.hb v 0:Int)=v:=by rw [Wr.hb_int,Int.pow_zero,Int.ediv_one];omega
theorem i64N_back {z:Int} {n:Nat} (h:(n:Int)=z%256 ^ 8) (hz: -9223372036854775808≤z∧z<9223372036854775808):Ms.i64N n=z:=by
 unfold Ms.i64N
 rw [h,IntKind.wrap_i64]
 have:(256:Int) ^ 8=18446744073709551616:=by decide
 rw [this]
 omega
theorem came_enc {k f n:Int} {zs:List Int} (hw:Ms.wrong k f n zs.length=0) (hz:∀z∈zs,-9223372036854775808≤z∧z<9223372036854775808):came f (Wr.enc k f n zs)=some ⟨k,f,n,zs⟩:=by
 have hl:=Wr.wrong_len hw
 have hb:1≤k∧k≤5∧0≤f∧f≤3∧0≤n∧n≤2147483647:=by
  unfold Ms.wrong at hw
  split at hw
  · omega
  ·
   split at hw
   · omega
   · split at hw<;>omega
 have hlen:(Wr.enc k f n zs).length=12+8*zs.length:=by rw [enc_len]
 have b0:Ms.bAt (Wr.enc k f n zs) 0=87:=bAt_enc (by rw [body_front (by omega)];rfl)
 have b1:Ms.bAt (Wr.enc k f n zs) 1=Wr.hb k 0:=bAt_enc (by rw [body_front (by omega)];rfl)
 have b2:Ms.bAt (Wr.enc k f n zs) 2=Wr.hb f 0:=bAt_enc (by rw [body_front (by omega)];rfl)
 have b7:Ms.bAt (Wr.enc k f n zs) 7=zs.length%256:=bAt_enc (by rw [body_front (by omega)];rfl)
 have e1:((Ms.bAt (Wr.enc k f n zs) 1:Nat):Int)=k:=by rw [b1];exact hb0_small (by omega) (by omega)
 have e2:((Ms.bAt (Wr.enc k f n zs) 2:Nat):Int)=f:=by rw [b2];exact hb0_small (by omega) (by omega)
 have eN:Ms.decN (Wr.enc k f n zs)=zs.length:=by unfold Ms.decN;rw [b7];omega
 have e3:((Ms.valB (Wr.enc k f n zs) 3 4:Nat):Int)=n:=by
  rw [valB_of 4 n 3 (fun j hj=>bAt_enc (by
   rw [body_front (by omega)]
   obtain rfl|rfl|rfl|rfl:j=0∨j=1∨j=2∨j=3:=by omega
   all_goals rfl))]
  have:(256:Int) ^ 4=4294967296:=by decide
  rw [this];omega
 have eZ:Ms.decZ (Wr.enc k f n zs) zs.length=zs:=by
  refine List.ext_getElem (by rw [Ms.decZ_len]) fun i h1 h2=>?_
  have e:(Ms.decZ (Wr.enc k f n zs) zs.length)[i]=Ms.i64N (Ms.valB (Wr.enc k f n zs) (8+8*i) 8):=by simp [Ms.decZ]
  rw [e]
  refine i64N_back (valB_of 8 zs[i] (8+8*i) (fun j hj=>bAt_enc ?_)) (hz _ (List.getElem_mem h2))
  unfold Wr.body
  rw [List.take_length,List.getElem?_append_right (by rw [Wr.front_length];omega),Wr.front_length,show 8+8*i+j-8=8*i+j by omega]
  exact vals_at zs i j h2 hj
 have hok:Sm.okB (Wr.enc k f n zs)=true:=by
  unfold Sm.okB
  rw [decide_eq_true (by omega),Bool.true_and]
  refine decide_eq_true ?_
  have hbl:=Wr.body_length k f n zs zs.length (Nat.le_refl _)
  have:(Wr.enc k f n zs).take ((Wr.enc k f n zs).length-4)=Wr.body k f n zs zs.length:=by
   rw [hlen,show 12+8*zs.length-4=(Wr.body k f n zs zs.length).length by omega]
   unfold Wr.enc Sm.sealed
   exact List.take_left ..
  rw [this]
  rfl
 have hE:Ms.decE (Wr.enc k f n zs)=0:=by
  unfold Ms.decE
  rw [if_neg (by omega),if_neg (by omega),if_neg (by rw [hok];simp),eN,if_neg (by omega),if_neg (by omega),e1,e2,e3]
  exact hw
 unfold came
 rw [if_pos ⟨hE,e2⟩,e1,e3,eN,eZ]
theorem i64N_in (n:Nat): -9223372036854775808≤Ms.i64N n∧Ms.i64N n<9223372036854775808:=by unfold Ms.i64N;rw [IntKind.wrap_i64];omega
theorem came_in {f:Int} {bs:List Nat} {m:Ms.Msg} (h:came f bs=some m):∀z∈m.zs,-9223372036854775808≤z∧z<9223372036854775808:=by
 unfold came at h
 split at h
 ·
  injection h with h
  subst h
  intro z hz
  obtain⟨i,_,rfl⟩:=List.mem_map.1 hz
  exact i64N_in _
 · cases h
theorem phX_in (bad ph:Int) (ls:List Lie) (mk mf mn:Nat→Int) (mz:Nat→List Int) (n i:Nat):∀m∈phX bad ph ls mk mf mn mz n i,∀z∈m.zs,-9223372036854775808≤z∧z<9223372036854775808:=fun m h=>by
 rw [phX_part]at h
 obtain⟨s,_,h⟩:=List.mem_flatMap.1 h
 unfold part at h
 split at h
 ·
  obtain⟨l,_,_,_,h2⟩:=lieP_from h
  exact came_in h2
 · exact came_in (postP_from h)
end Cl
end Go.Proofs.YtljpoibnkkcjdaaGreatDoor
