import Derived.StillTailTactics
import Derived.Test.YtljpoibnkkcjdaaGreatDoorPc2
set_option linter.unusedVariables false
set_option linter.unusedSimpArgs false
namespace Go.Proofs.YtljpoibnkkcjdaaGreatDoor
namespace Vt
open Go.RowKit Go.Maps Go.WideShapes Mem Rws Nd
theorem lawInt:Keyed Tryz.prog 3:=int_keyed Tryz.underlying3
theorem zeroInt (w:World):(zeroValue 3).run Tryz.prog w=.ok (.int .i64 0) w:=by kernel_rfl
def Counted (L:Nat→Int) (I:Nat→Bool) (w wr:World) (RL RI:Array Value) (k:Nat):Prop:=
 (∃D:DataW Unit,wr.ownsMap Tryz.prog 3 (plainElem Tryz.prog 3) (w.heap.size+1+1+1) k D∧(∀v:Int,D.atKey (.int .i64 v) (.lit (.int .i64 0))=.lit (.int .i64 (cnt L I v k))))∧
  Blk wr w.heap.size 30 RL∧Blk wr (w.heap.size+1) 29 RI∧Blk wr (w.heap.size+1+1) 37 #[.int .i64 0,.bool false,.slice none 0 0]∧Below w.heap.size w wr
theorem counted_start (L:Nat→Int) (I:Nat→Bool) (w:World) (RL RI:Array Value):
  Counted L I w ((((w.alloc (.cells RL 30)).alloc (.cells RI 29)).alloc (.cells #[.int .i64 0,.bool false,.slice none 0 0] 37)).alloc (.map #[] 0)) RL RI 0:=by
 refine⟨⟨.map [],?_,fun v=>rfl⟩,((Blk.new rfl).alloc _).alloc _|>.alloc _,((Blk.new (by simp)).alloc _).alloc _,(Blk.new (by simp)).alloc _,?_⟩
 ·
  have h:=World.ownsMap_made (H:=Unit) ((((w.alloc (.cells RL 30)).alloc (.cells RI 29)).alloc (.cells #[.int .i64 0,.bool false,.slice none 0 0] 37))) Tryz.prog 3 (plainElem Tryz.prog 3)
  rw [show((((w.alloc (.cells RL 30)).alloc (.cells RI 29)).alloc (.cells #[.int .i64 0,.bool false,.slice none 0 0] 37))).heap.size=w.heap.size+1+1+1 from by simp]at h
  exact h
 · exact(((Below.refl w.heap.size w).alloc (Nat.le_refl _) _).alloc (by simp) _).alloc (by simp;omega) _|>.alloc (by simp;omega) _
theorem counted_off {L:Nat→Int} {I:Nat→Bool} {w wr:World} {RL RI:Array Value} {k:Nat} (h:Counted L I w wr RL RI k) (hI:I k=false):Counted L I w wr RL RI (k+1):=by
 obtain⟨⟨D,ho,hd⟩,r⟩:=h
 exact⟨⟨D,ho.mono (Nat.le_succ _),fun v=>by rw [hd v];simp [cnt,hI]⟩,r⟩
theorem counted_on {L:Nat→Int} {I:Nat→Bool} {w wr w':World} {RL RI:Array Value} {k:Nat} {D:DataW Unit} (hi:IsMap D) (hd:∀v:Int,D.atKey (.int .i64 v) (.lit (.int .i64 0))=.lit (.int .i64 (cnt L I v k)))
  (h1:Blk wr w.heap.size 30 RL) (h2:Blk wr (w.heap.size+1) 29 RI) (h3:Blk wr (w.heap.size+1+1) 37 #[.int .i64 0,.bool false,.slice none 0 0]) (h4:Below w.heap.size w wr)
  (hw:(Lit.int .i64 (L k)).wf=true) (hI:I k=true) (ho:w'.ownsMap Tryz.prog 3 (plainElem Tryz.prog 3) (w.heap.size+1+1+1) (k+1) (D.put (.int .i64 (L k)) (.lit (.int .i64 ((cnt L I (L k) k:Int)+1)))))
  (hg:wr.grownBy w' (some (w.heap.size+1+1+1))):Counted L I w w' RL RI (k+1):=by
 refine⟨⟨_,ho,fun v=>?_⟩,h1.grown hg (by intro h;injection h;omega),h2.grown hg (by intro h;injection h;omega),h3.grown hg (by intro h;injection h;omega),?_⟩
 ·
  by_cases e:v=L k
  ·
   subst e
   rw [atKey_put_same hi (by trivial)]
   simp [cnt,hI]
  ·
   rw [atKey_put_other (fun h=>e (by injection h)),hd v]
   have e':¬(I k=true∧L k=v):=fun h=>e h.2.symm
   rw [show cnt L I v (k+1)=cnt L I v k+(if I k=true∧L k=v then 1 else 0)from rfl,if_neg e',Nat.add_zero]
 · exact h4.grown hg h4.size (fun j hj=>by cases hj;omega)
theorem owns_below {w w':World} {k:TypeId} {R:Value→Option (DataW Unit×List MemPlace)} {b n:Nat} {D:DataW Unit} (h:w.ownsMap Tryz.prog k R b n D) (hb:Below w.heap.size w w'):w'.ownsMap Tryz.prog k R b n D:=
 h.kept (row:=none) ⟨hb.os,hb.tape,hb.output,hb.size,fun g hg _=>hb.block g hg⟩ (by simp)
theorem rd_one (w:World) (v:Value) (e:TypeId):Rd (w.alloc (.cells #[v] e)) (w.heap.size+1) 1 (some ⟨w.heap.size,0,none⟩) 1 [v]:=by
 refine⟨rfl,fun _=>⟨w.heap.size,0,rfl,by omega,fun j u hu=>?_⟩⟩
 have h:=(Blk.fresh w e #[v]).cell j
 rw [Nat.zero_add,h]
 simpa using hu
set_option maxRecDepth 100000 in
set_option maxHeartbeats 2000000 in
theorem vote_any (L:Nat→Int) (I:Nat→Bool) (hL:∀i,i<4→(Lit.int .i64 (L i)).wf=true) (w:World):
  Calls Tryz.prog 39 #[.agg (row 4 fun i=>.int .i64 (L i)),.agg (row 4 fun i=>.bool (I i))] w fun e w'=>∃A c,e=.returned (.agg (verC (val L I) (strong L I) A 4 c))∧
   Rd w' w'.heap.size 1 A 4 ((List.range 4).map fun i=>.bool (agrees L I i))∧Below w.heap.size w w'∧(∀a,A=some a→w.heap.size≤a.block)∧(A=none→c=0)∧4≤c:=by
 have hmm:= @run_makeMap Tryz.prog
 have HL:=Lib.hid hL
 have hix:∀k:Nat,k<4→∀w,(Instr.index 30 (.agg (row 4 fun i=>.int .i64 (L i))) (.int .i64 (k:Int))).run Tryz.prog w=.ok (.int .i64 (L k)) w:=fun k hk w=>run_index_row Tryz.underlying30 Tryz.underlying3 rfl (by kernel_rfl) _ k hk w
 have hrl:∀k:Nat,k<4→(row 4 fun i=>Value.int .i64 (L i))[k]?=some (.int .i64 (L k)):=fun k hk=>row_at hk
 have hri:∀k:Nat,k<4→(row 4 fun i=>Value.bool (I i))[k]?=some (.bool (I k)):=fun k hk=>row_at hk
 have iL:(Tryz.prog.info? 30).map (·.size)=some (row 4 fun i=>Value.int .i64 (L i)).size:=by rw [row_size];kernel_rfl
 generalize(row 4 fun i=>Value.int .i64 (L i))=RL at*
 generalize(row 4 fun i=>Value.bool (I i))=RI at*
 have HIX:=Lib.hid hix
 have HRL:=Lib.hid hrl
 have HRI:=Lib.hid hri
 clear hix hrl hri hL
 go_enter Tryz.func39,Tryz.ntmps39
 have HC:=Lib.hid (counted_start L I w RL RI)
 go_wp2_with(refine wpList_whole rfl 30 _ rfl w.heap.size rfl HC.out.2.1 _ Tryz.underlying30 rfl iL ?_)
 go_loopw [6,17] (fun t i wr=>∃k:Nat,k≤4∧i=.int .i64 k∧t=.int .i64 (tot I k)∧Counted L I w wr RL RI k) (fun _ i _=>4-(intOf i).toNat)
 case atStart=>exact⟨0,by omega,rfl,rfl,HC.out⟩
 case round=>
  clear HC
  obtain⟨k,hk,rfl,rfl,hC⟩:=hrel
  by_cases hlt:k<4
  ·
   obtain⟨⟨D,hown,hd⟩,h1,h2,h3,h4⟩:=id hC
   have hcell: wr.cell? ⟨w.heap.size+1,k,none⟩=some (.bool (I k)):=(h2.cell k).trans (HRI.out k hlt)
   have hix:=fun w=>HIX.out k hlt w
   have hkey:keyOf Tryz.prog 3 (.int .i64 (L k))=some (.int .i64 (L k)):=keyOf_int_mk Tryz.underlying3 (HL.out k hlt)
   have ht:=tot_le I k
   have hn:=cnt_le L I (L k) k
   have ew:IntKind.i64.wrap ((cnt L I (L k) k:Int)+1)=(cnt L I (L k) k:Int)+1:=IntWalk.i64_in _ (by omega)
   have et:IntKind.i64.wrap ((tot I k:Int)+1)=(tot I k:Int)+1:=IntWalk.i64_in _ (by omega)
   have HD:=Lib.hid hd
   have hownD:=hown.isMap
   have HO:=Lib.hid hown
   have H1:=Lib.hid h1
   have H2:=Lib.hid h2
   have H3:=Lib.hid h3
   have H4:=Lib.hid h4
   have HCC:=Lib.hid hC
   clear hd hown h1 h2 h3 h4 hC
   cases hI:I k with
   |false=>
    rw [hI]at hcell
    have HT:=Lib.hid (show tot I (k+1)=tot I k by simp [tot,hI])
    have HIK:=Lib.hid hI
    clear hI
    go_wp2_with fail
    exact⟨⟨k+1,by omega,by go_num,by rw [HT.out],counted_off HCC.out HIK.out⟩,by simp [intOf];omega⟩
   |true=>
    rw [hI]at hcell
    have HT:=Lib.hid (show(tot I (k+1):Int)=(tot I k:Int)+1 by simp [tot,hI])
    have HIK:=Lib.hid hI
    clear hI
    go_wp2_with(first
     |(at_lookup;refine wpList_lookup_own_int _ rfl _ _ 127 rfl 3 3 .i64 lawInt Tryz.underlying127 Tryz.underlying3 (zeroInt _) (w.heap.size+1+1+1) k _ rfl HO.out _ _ rfl hkey ?_;intro c hat hwc;obtain rfl:c=(cnt L I (L k) k:Int):=by { have:=hat.symm.trans (HD.out (L k));simpa using this })
     |(at_mapUpdate;refine wpList_mapUpdate_own _ rfl _ _ _ 127 rfl 3 3 lawInt Tryz.underlying127 _ (w.heap.size+1+1+1) k _ rfl HO.out (by unfold maxLen;omega) _ _ _ rfl rfl hkey _ [] (plainElem_int Tryz.underlying3 (WalkArith.wf_i64 (by omega))) ?_;intro w1 hown1 hgrow1))
    exact⟨⟨k+1,by omega,by go_num,by rw [HT.out],counted_on hownD HD.out H1.out H2.out H3.out H4.out (HL.out k hlt) HIK.out hown1 hgrow1⟩,by simp [intOf];omega⟩
  ·
   obtain rfl:k=4:=by omega
   clear hlt
   obtain⟨⟨D,hown,hd⟩,h1,h2,h3,h4⟩:=hC
   have HD:=Lib.hid hd
   have HO:=Lib.hid hown
   have H1:=Lib.hid h1
   have H2:=Lib.hid h2
   have H3:=Lib.hid h3
   have H4:=Lib.hid h4
   generalize wr=w1 at*
   have hG:Hid (Blk (w1.alloc (.cells #[.int .i64 0,.bool false,.slice none 0 0] 37)) w1.heap.size 37 #[.int .i64 0,.bool false,.slice none 0 0]):=Lib.hid (Blk.fresh _ _ _)
   have hJ:=Lib.hid (H1.out.alloc (.cells #[.int .i64 0,.bool false,.slice none 0 0] 37))
   clear hown hd h1 h2 h3 h4 hmm
   go_wp2_with(refine wpList_whole rfl 30 _ rfl w.heap.size rfl hJ.out _ Tryz.underlying30 rfl iL ?_)
   clear hJ
   go_loopw [9,32] (fun b i wq=>∃j:Nat,j≤4∧i=.int .i64 j∧b=.int .i64 (vt L I j).1∧Blk wq w1.heap.size 37 #[.int .i64 (vt L I j).2,.bool false,.slice none 0 0]∧Below w1.heap.size w1 wq) (fun _ i _=>4-(intOf i).toNat)
   case atStart=>exact⟨0,by omega,rfl,rfl,hG.out,(Below.refl _ _).alloc (Nat.le_refl _) _⟩
   case round=>
    clear hG
    obtain⟨j,hj,rfl,rfl,hg,hb⟩:=hrel
    have HG:=Lib.hid hg
    have HB:=Lib.hid hb
    by_cases hlt:j<4
    ·
     have hcell: wr.cell? ⟨w.heap.size+1,j,none⟩=some (.bool (I j)):=((H2.out.below hb H2.out.lt).cell j).trans (HRI.out j hlt)
     have hix:=fun w=>HIX.out j hlt w
     have hkey:keyOf Tryz.prog 3 (.int .i64 (L j))=some (.int .i64 (L j)):=keyOf_int_mk Tryz.underlying3 (HL.out j hlt)
     have hlk:(Instr.lookup 127 (.map (some (w.heap.size+1+1+1))) (.int .i64 (L j)) false).run Tryz.prog wr=.ok (.int .i64 (cnt L I (L j) 4)) wr:=by
      obtain⟨c,hr,hat,_⟩:=(owns_below HO.out hb).lookup_int lawInt Tryz.underlying127 Tryz.underlying3 (zeroInt _) hkey
      obtain rfl:c=(cnt L I (L j) 4:Int):=by have:=hat.symm.trans (HD.out (L j));simpa using this
      exact hr
     have g0:=hg.cell 0
     have g1:=hg.thaw 0
     clear hg hb hkey
     have HV0:=Lib.hid (show vt L I (j+1)=if I j=true∧(vt L I j).1<cnt L I (L j) 4 then(cnt L I (L j) 4,L j)else vt L I j from rfl)
     cases hI:I j with
     |false=>
      rw [hI]at hcell
      have HV:=Lib.hid (HV0.out.trans (if_neg (by simp [hI])))
      clear hI HV0
      go_wp2_with fail
      exact⟨⟨j+1,by omega,by go_num,by rw [HV.out],by rw [HV.out];exact HG.out,HB.out⟩,by simp [intOf];omega⟩
     |true=>
      rw [hI]at hcell
      by_cases hc:(vt L I j).1<cnt L I (L j) 4
      ·
       have HV:=Lib.hid (HV0.out.trans (if_pos ⟨hI,hc⟩))
       have hci:((vt L I j).1:Int)<(cnt L I (L j) 4:Int):=by omega
       clear hI hc HV0
       generalize cnt L I (L j) 4=n at*
       generalize(vt L I j).1=m at*
       go_wp2_with fail
       exact⟨⟨j+1,by omega,by go_num,by rw [HV.out],by rw [HV.out];exact HG.out.set 0 _,HB.out.setCell (Nat.le_refl _) _⟩,by simp [intOf];omega⟩
      ·
       have HV:=Lib.hid (HV0.out.trans (if_neg (fun h=>hc h.2)))
       have hci:(cnt L I (L j) 4:Int)≤((vt L I j).1:Int):=by omega
       clear hI hc HV0
       generalize cnt L I (L j) 4=n at*
       obtain⟨m,hm⟩:∃m,(vt L I j).1=m:=⟨_,rfl⟩
       rw [hm]at hci ⊢
       have HM:=Lib.hid hm
       clear hm
       go_wp2_with fail
       exact⟨⟨j+1,by omega,by go_num,by rw [HV.out,HM.out],by rw [HV.out];exact HG.out,HB.out⟩,by simp [intOf];omega⟩
    ·
     obtain rfl:j=4:=by omega
     clear hlt
     have J1:=Lib.hid (H1.out.below hb H1.out.lt)
     have J3:=Lib.hid (H3.out.below hb H3.out.lt)
     have hsG:=hg.lt
     have g0:=hg.cell 1
     have g1:=hg.thaw 1
     have hv:=vt_val L I
     rw [hv]at HG
     have htl:=tot_le I 4
     have hml:=vt_le L I 4
     have em:IntKind.i64.wrap (2*((vt L I 4).1:Int))=2*((vt L I 4).1:Int):=IntWalk.i64_in _ (by omega)
     have HSt:=Lib.hid (show decide ((tot I 4:Int)<2*((vt L I 4).1:Int))=strong L I by unfold strong;exact decide_eq_decide.2 (by omega))
     clear hg hb hv
     generalize(vt L I 4).1=m at*
     go_upto_region 19 with fail
     rw [HSt.out]
     have G2:=Lib.hid (HG.out.set 1 (.bool (strong L I)))
     have J1:=Lib.hid (J1.out.other (p:=⟨w1.heap.size,1,none⟩) (by have:=H1.out.lt;show w.heap.size≠w1.heap.size;omega) (.bool (strong L I)))
     have J3:=Lib.hid (J3.out.other (p:=⟨w1.heap.size,1,none⟩) (by have:=H3.out.lt;show w.heap.size+1+1≠w1.heap.size;omega) (.bool (strong L I)))
     have HB:=Lib.hid (HB.out.setCell (p:=⟨w1.heap.size,1,none⟩) (Nat.le_refl _) (.bool (strong L I)))
     have hsG:w1.heap.size<(wr.setCell ⟨w1.heap.size,1,none⟩ (.bool (strong L I))).heap.size:=by simpa using hsG
     clear g0 g1 HG HSt em
     generalize(wr.setCell ⟨w1.heap.size,1,none⟩ (.bool (strong L I)))=w2 at*
     obtain⟨T,hT⟩:∃T:Int,(tot I 4:Int)=T:=⟨_,rfl⟩
     rw [hT]
     have HT:=Lib.hid hT
     clear hT htl
     go_wp2_with(refine wpList_whole rfl 30 _ rfl w.heap.size rfl J1.out _ Tryz.underlying30 rfl iL ?_)
     go_loopw [58] (fun i wq=>∃(j:Nat) (A:Option Addr) (c:Nat),j≤4∧i=.int .i64 j∧Blk wq w1.heap.size 37 #[.int .i64 (val L I),.bool (strong L I),.slice A j c]∧wq.ownsRow (w1.heap.size+1) 4 1 (.slice A j c) j ((List.range j).map fun i=>.bool (agrees L I i))∧Below w1.heap.size w1 wq) (fun i _=>4-(intOf i).toNat)
     case atStart=>exact⟨0,none,0,by omega,rfl,G2.out,World.ownsRow_nil _ _ _ _,HB.out⟩
     case round=>
      clear G2 HB hsG
      obtain⟨j,A,c,hj,rfl,hg,hown,hb⟩:=hrel
      have HG:=Lib.hid hg
      have HB:=Lib.hid hb
      have HW:=Lib.hid hown
      have x0:=hg.cell 0
      have x2:=hg.cell 2
      simp only [List.getElem?_toArray,List.getElem?_cons_zero,List.getElem?_cons_succ]at x0 x2
      clear hg hb hown
      by_cases hlt:j<4
      ·
       have hix:=fun w=>HIX.out j hlt w
       rcases Nat.eq_zero_or_pos (tot I 4)with ht|ht
       ·
        have hti:decide ((0:Int)<T)=false:=decide_eq_false (by have:=HT.out;omega)
        have HA:=Lib.hid (show agrees L I j=false by unfold agrees;rw [ht];rfl)
        clear ht
        have HN:Hid (Rd (wr.alloc (.cells #[.bool false] 4)) (wr.heap.size+1) 1 (some ⟨wr.heap.size,0,none⟩) 1 [.bool false]):=Lib.hid (rd_one _ _ _)
        have HQ:=Lib.hid (own_weaken (ownsRow_below HW.out ((Below.refl wr.heap.size wr).alloc (Nat.le_refl _) (.cells #[.bool false] 4))) (Nat.le_refl (w1.heap.size+1)))
        have HX:=Lib.hid (HG.out.alloc (.cells #[.bool false] 4))
        have HY:=Lib.hid (HB.out.alloc HB.out.size (.cells #[.bool false] 4))
        have hbs:w1.heap.size+1≤(wr.alloc (.cells #[.bool false] 4)).heap.size:=by have:=HX.out.lt;omega
        have HBS:=Lib.hid hbs
        clear hbs
        go_wp2_with(at_builtin;refine wpList_append_rd _ rfl (.tmp 62) (.tmp 71) 35 rfl (base:=w1.heap.size+1) elemBools rfl HQ.out rfl (fun h=>by cases h) HN.out (by simp [Value.oneCell']) (by unfold maxLen;omega) (by omega) HBS.out ?_;intro A' c' w3 hA' hown' hgr;have HG3:=Lib.hid (HX.out.grown hgr (own_not HQ.out));have y2:=HG3.out.thaw 2;have y3:=HG3.out.cell 2;have HO3:=Lib.hid hown';have HGR:=Lib.hid hgr;clear hown' hgr hA')
        refine⟨⟨j+1,A',c',by omega,by go_num,HG3.out.set 2 _,?_,(HY.out.grown HGR.out HY.out.size (fun g e=>Nat.le_trans (Nat.le_succ _) (HQ.out.lt g e).1)).setCell (Nat.le_refl _) _⟩,by simp [intOf];omega⟩
        rw [List.range_succ,List.map_append,List.map_singleton,HA.out]
        exact own_setCell (g:=w1.heap.size) HO3.out (by omega) _
       ·
        have hti:decide ((0:Int)<T)=true:=decide_eq_true (by have:=HT.out;omega)
        have HA:=Lib.hid (show agrees L I j=(L j==val L I)by unfold agrees;rw [decide_eq_true ht,Bool.true_and];by_cases e:L j=val L I<;>simp [e])
        clear ht
        have HN:Hid (Rd (wr.alloc (.cells #[.bool (L j==val L I)] 4)) (wr.heap.size+1) 1 (some ⟨wr.heap.size,0,none⟩) 1 [.bool (L j==val L I)]):=Lib.hid (rd_one _ _ _)
        have HQ:=Lib.hid (own_weaken (ownsRow_below HW.out ((Below.refl wr.heap.size wr).alloc (Nat.le_refl _) (.cells #[.bool (L j==val L I)] 4))) (Nat.le_refl (w1.heap.size+1)))
        have HX:=Lib.hid (HG.out.alloc (.cells #[.bool (L j==val L I)] 4))
        have HY:=Lib.hid (HB.out.alloc HB.out.size (.cells #[.bool (L j==val L I)] 4))
        have hbs:w1.heap.size+1≤(wr.alloc (.cells #[.bool (L j==val L I)] 4)).heap.size:=by have:=HX.out.lt;omega
        have HBS:=Lib.hid hbs
        clear hbs
        go_wp2_with(at_builtin;refine wpList_append_rd _ rfl (.tmp 62) (.tmp 71) 35 rfl (base:=w1.heap.size+1) elemBools rfl HQ.out rfl (fun h=>by cases h) HN.out (by simp [Value.oneCell']) (by unfold maxLen;omega) (by omega) HBS.out ?_;intro A' c' w3 hA' hown' hgr;have HG3:=Lib.hid (HX.out.grown hgr (own_not HQ.out));have y2:=HG3.out.thaw 2;have y3:=HG3.out.cell 2;have HO3:=Lib.hid hown';have HGR:=Lib.hid hgr;clear hown' hgr hA')
        refine⟨⟨j+1,A',c',by omega,by go_num,HG3.out.set 2 _,?_,(HY.out.grown HGR.out HY.out.size (fun g e=>Nat.le_trans (Nat.le_succ _) (HQ.out.lt g e).1)).setCell (Nat.le_refl _) _⟩,by simp [intOf];omega⟩
        rw [List.range_succ,List.map_append,List.map_singleton,HA.out]
        exact own_setCell (g:=w1.heap.size) HO3.out (by omega) _
      ·
       obtain rfl:j=4:=by omega
       clear hlt
       have K3:=Lib.hid (H3.out.below HB.out H3.out.lt)
       have hlt3:=H3.out.lt
       go_wp2_with(first
        |(refine wpList_whole rfl 37 _ rfl w1.heap.size rfl HG.out _ Tryz.underlying37 rfl (by kernel_rfl) ?_)
        |(refine wpList_store_row rfl 37 _ _ rfl (w.heap.size+1+1) #[.int .i64 (val L I),.bool (strong L I),.slice A 4 c] rfl rfl 37 _ K3.out (by kernel_rfl) rfl (by simp [Value.oneCell']) ?_))
       have hw:=own_setRow HW.out (show w.heap.size+1+1<w1.heap.size+1 by omega) #[.int .i64 (val L I),.bool (strong L I),.slice A 4 c]
       exact ret_row rfl rfl (K3.out.setRow _) Tryz.underlying37 rfl (by kernel_rfl) rfl ⟨A,c,rfl,Rd.of_own hw,below_setRow (onward H4.out (Nat.le_refl _) HB.out) (by omega) _,fun a h=>Nat.le_trans (by omega) (own_lo HW.out a h),own_cap HW.out⟩
end Vt
namespace Ms
open Go.ChangeShapes Go.WideShapes Go.ChangeAt Go.RowKit Mem Go.Proofs.YtljpoibnkkcjdaaGreatDoor.Op
def OwnMsgs (w:World) (base:Nat) (A:Option Addr) (c:Nat) (ms:List Msg):Prop:=
 ∃xs,w.ownsRow base 72 4 (.slice A ms.length c) ms.length xs∧∀i m,ms[i]?=some m→∃a c',(xs.drop (i*4)).take 4=msgL m a c'∧w.ownsRow base 3 1 (.slice a m.zs.length c') m.zs.length (intsV m.zs)∧m.zs.length*8≤140737488351232
theorem OwnMsgs.at {w:World} {base:Nat} {A:Option Addr} {c:Nat} {ms:List Msg} (h:OwnMsgs w base A c ms):MsgsAt w w.heap.size A ms∧(A=none→c=0)∧ms.length≤c∧∀a,A=some a→base≤a.block:=by
 obtain⟨xs,ho,hx⟩:=h
 refine⟨⟨xs,Rd.of_own ho,fun i m hm=>?_⟩,(own_cap ho).1,(own_cap ho).2,own_lo ho⟩
 obtain⟨a,c',h1,h2,h3⟩:=hx i m hm
 exact⟨a,c',h1,(own_cap h2).1,(own_cap h2).2,h3,Rd.of_own h2⟩
theorem OwnMsgs.nil (w:World) (base:Nat):OwnMsgs w base none 0 []:=⟨[],World.ownsRow_nil _ _ _ _,fun i m h=>by simp at h⟩
theorem OwnMsgs.below {w w':World} {base:Nat} {A:Option Addr} {c:Nat} {ms:List Msg} (h:OwnMsgs w base A c ms) (hb:Below w.heap.size w w'):OwnMsgs w' base A c ms:=by
 obtain⟨xs,ho,hx⟩:=h
 refine⟨xs,Nd.ownsRow_below ho hb,fun i m hm=>?_⟩
 obtain⟨a,c',h1,h2,h3⟩:=hx i m hm
 exact⟨a,c',h1,Nd.ownsRow_below h2 hb,h3⟩
theorem OwnMsgs.snoc {w w':World} {base:Nat} {A A':Option Addr} {c c':Nat} {ms:List Msg} {m:Msg} {a:Option Addr} {ca:Nat} {xs:List Value} (hx:∀i m,ms[i]?=some m→∃a c',(xs.drop (i*4)).take 4=msgL m a c'∧w.ownsRow base 3 1 (.slice a m.zs.length c') m.zs.length (intsV m.zs)∧m.zs.length*8≤140737488351232)
  (ho:w.ownsRow base 72 4 (.slice A ms.length c) ms.length xs) (hm:w.ownsRow base 3 1 (.slice a m.zs.length ca) m.zs.length (intsV m.zs)) (hl:m.zs.length*8≤140737488351232)
  (ho':w'.ownsRow base 72 4 (.slice A' (ms.length+1) c') (ms.length+1) (xs++msgL m a ca)) (hg:w.grownBy w' (Value.slice A ms.length c).ownBlock):OwnMsgs w' base A' c' (ms++[m]):=by
 have hne:72≠3:=by decide
 have hxl:xs.length=ms.length*4:=ho.1
 refine⟨xs++msgL m a ca,by rw [List.length_append];exact ho',fun i m' hi=>?_⟩
 rcases Nat.lt_or_ge i ms.length with h|h
 ·
  rw [List.getElem?_append_left h]at hi
  obtain⟨a',c1,h1,h2,h3⟩:=hx i m' hi
  refine⟨a',c1,?_,own_kept h2 hg (own_is ho hne),h3⟩
  rw [List.drop_append_of_le_length (by omega),List.take_append_of_le_length (by rw [List.length_drop];omega)]
  exact h1
 ·
  rw [List.getElem?_append_right h]at hi
  have hi0:i=ms.length:=by
   have:=(List.getElem?_eq_some_iff.1 hi).1
   simp at this;omega
  subst hi0
  simp at hi
  subst hi
  refine⟨a,ca,?_,own_kept hm hg (own_is ho hne),hl⟩
  rw [List.drop_append,List.drop_of_length_le (by omega),hxl,Nat.sub_self,List.drop_zero,List.nil_append]
  rfl
theorem elemMsgs:Elem Tryz.prog 65 72 (.agg #[.int .i64 0,.int .i64 0,.int .i64 0,.slice none 0 0]) 4 48:=⟨Tryz.underlying65,by kernel_rfl,rfl,by omega⟩
end Ms
namespace Cl
open Go.RowKit Mem Rws Nd
structure RunC where
 fr:Int
 F:Nat→Nat→Value
 VA:Nat→Option Addr
 VL:Nat→List Bool
 VC:Nat→Nat
 rd:Nat→Int
 bad:Int
 LA:Option Addr
 LL:Nat
 LC:Nat
 bA:Nat→Option Addr
 bX:Nat→List Ms.Msg
 bC:Nat→Nat
def setAt {α:Type} (g:Nat→α) (i:Nat) (a:α) (k:Nat):α:=if k=i then a else g k
theorem setAt_self {α:Type} (g:Nat→α) (i:Nat) (a:α):setAt g i a i=a:=if_pos rfl
theorem setAt_ne {α:Type} (g:Nat→α) {i k:Nat} (a:α) (h:k≠i):setAt g i a k=g k:=if_neg h
def RunC.verV (s:RunC) (i:Nat):Value:=.slice (s.VA i) (s.VL i).length (s.VC i)
def RunC.boxV (s:RunC) (i:Nat):Value:=.slice (s.bA i) (s.bX i).length (s.bC i)
def RunC.cell (s:RunC) (i:Nat):Value:=
 if i=0 then .int .i64 s.fr
 else if i<297 then nodeW (s.F ((i-1)/74)) (s.verV ((i-1)/74)) ((i-1)%74)
 else if i<309 then .int .i64 (s.rd (i-297))
 else if i=309 then .int .i64 s.bad
 else if i=310 then .slice s.LA s.LL s.LC
 else s.boxV (i-311)
def RunC.own (s:RunC) (i:Nat):Option Nat:=(s.boxV i).ownBlock
def RunC.box (s:RunC) (i:Nat) (A:Option Addr) (c:Nat) (ms:List Ms.Msg):RunC:={ s with bA:=setAt s.bA i A,bX:=setAt s.bX i ms,bC:=setAt s.bC i c }
theorem RunC.box_at (s:RunC) (i:Nat) (A:Option Addr) (c:Nat) (ms:List Ms.Msg):(s.box i A c ms).boxV i=.slice A ms.length c:=by
 unfold RunC.boxV RunC.box
 dsimp only
 rw [setAt_self,setAt_self,setAt_self]
theorem RunC.box_ne (s:RunC) {i:Nat} (A:Option Addr) (c:Nat) (ms:List Ms.Msg) {k:Nat} (h:k≠i):(s.box i A c ms).boxV k=s.boxV k:=by
 unfold RunC.boxV RunC.box
 dsimp only
 rw [setAt_ne _ _ h,setAt_ne _ _ h,setAt_ne _ _ h]
theorem RunC.box_cell (s:RunC) (i:Nat) (hi:i<4) (A:Option Addr) (c:Nat) (ms:List Ms.Msg) (j:Nat):(s.box i A c ms).cell j=if j=311+i then .slice A ms.length c else s.cell j:=by
 unfold RunC.cell
 by_cases h:j=311+i
 ·
  subst h
  rw [if_neg (by omega),if_neg (by omega),if_neg (by omega),if_neg (by omega),if_neg (by omega),if_pos rfl]
  rw [Nat.add_sub_cancel_left]
  exact s.box_at i A c ms
 ·
  rw [if_neg h]
  by_cases h0:j=0
  · rw [if_pos h0,if_pos h0];rfl
  rw [if_neg h0,if_neg h0]
  by_cases h1:j<297
  · rw [if_pos h1,if_pos h1];rfl
  rw [if_neg h1,if_neg h1]
  by_cases h2:j<309
  · rw [if_pos h2,if_pos h2];rfl
  rw [if_neg h2,if_neg h2]
  by_cases h3:j=309
  · rw [if_pos h3,if_pos h3];rfl
  rw [if_neg h3,if_neg h3]
  by_cases h4:j=310
  · rw [if_pos h4,if_pos h4];rfl
  rw [if_neg h4,if_neg h4]
  exact s.box_ne A c ms (by omega)
theorem RunC.box_row (s:RunC) (i:Nat) (hi:i<4) (A:Option Addr) (c:Nat) (ms:List Ms.Msg):(row 315 s.cell).setIfInBounds (311+i) (.slice A ms.length c)=row 315 (s.box i A c ms).cell:=by
 rw [row_set]
 exact row_congr fun j hj=>(s.box_cell i hi A c ms j).symm
structure RunAt (w:World) (R b0:Nat) (s:RunC):Prop where
 blk:Blk w R 68 (row 315 s.cell)
 low:b0≤R
 ver:∀i,i<4→(s.VA i=none→s.VC i=0)∧(s.VL i).length≤s.VC i∧(s.VL i).length≤140737488351232∧Rd w w.heap.size 1 (s.VA i) (s.VL i).length (boolsV (s.VL i))∧(0<(s.VL i).length→∀a,s.VA i=some a→a.block<w.heap.size∧a.block≠R∧∀j,j<4→s.own j≠some a.block)
 box:∀i,i<4→Ms.OwnMsgs w b0 (s.bA i) (s.bC i) (s.bX i)
 apart:∀i j,i<4→j<4→i≠j→s.own i=none∨s.own i≠s.own j
theorem RunAt.own_ge {w:World} {R b0:Nat} {s:RunC} (h:RunAt w R b0 s) {i b:Nat} (hi:i<4) (e:s.own i=some b):b0≤b∧b<w.heap.size:=by
 obtain⟨xs,ho,_⟩:=h.box i hi
 exact ho.lt b e
theorem RunAt.own_ne {w:World} {R b0:Nat} {s:RunC} (h:RunAt w R b0 s) {i:Nat} (hi:i<4):s.own i≠some R:=fun e=>by
 obtain⟨xs,ho,_⟩:=h.box i hi
 obtain⟨cur,t,g1,g2⟩:=Ms.own_is ho (show 72≠68 by decide) R e
 have:=h.blk
 unfold Blk at this
 rw [this]at g1
 injection g1 with g1
 injection g1 with _ g1 _
 exact g2 g1.symm
structure Keep (w w':World) (R:Nat) (s s':RunC):Prop where
 os:w'.os=w.os
 tape:w'.tape=w.tape
 output:w'.output=w.output
 size:w.heap.size≤w'.heap.size
 own:∀i,i<4→s'.own i=s.own i∨∃b,s'.own i=some b∧w.heap.size≤b
 block:∀b,b<w.heap.size→b≠R→(∀i,i<4→s.own i≠some b)→w'.heap[b]?=w.heap[b]?
theorem Keep.refl (w:World) (R:Nat) (s:RunC):Keep w w R s s:=⟨rfl,rfl,rfl,Nat.le_refl _,fun _ _=>.inl rfl,fun _ _ _ _=>rfl⟩
theorem Keep.trans {w w1 w2:World} {R:Nat} {s s1 s2:RunC} (h:Keep w w1 R s s1) (k:Keep w1 w2 R s1 s2):Keep w w2 R s s2:=
 ⟨k.os.trans h.os,k.tape.trans h.tape,k.output.trans h.output,Nat.le_trans h.size k.size,
  fun i hi=>by
   rcases k.own i hi with e|⟨b,e,hb⟩
   ·
    rcases h.own i hi with e2|⟨b,e2,hb⟩
    · exact .inl (e.trans e2)
    · exact .inr ⟨b,e.trans e2,hb⟩
   · exact .inr ⟨b,e,Nat.le_trans h.size hb⟩,
  fun b hb hR hX=>(k.block b (Nat.lt_of_lt_of_le hb h.size) hR fun i hi e=>by
   rcases h.own i hi with e2|⟨b2,e2,hb2⟩
   · exact hX i hi (e2.symm.trans e)
   · rw [e2]at e;injection e with e;omega).trans (h.block b hb hR hX)⟩
theorem Keep.of_below {w w':World} {R:Nat} {s:RunC} (h:Below w.heap.size w w'):Keep w w' R s s:=⟨h.os,h.tape,h.output,h.size,fun _ _=>.inl rfl,fun b hb _ _=>h.block b hb⟩
theorem Keep.below {w w':World} {R b0:Nat} {s s':RunC} (h:Keep w w' R s s') (hr:RunAt w R b0 s):Below b0 w w':=by
 have hR:=hr.blk.lt
 have hl:=hr.low
 exact⟨h.os,h.tape,h.output,h.size,fun b hb=>h.block b (by omega) (by omega) fun i hi e=>by have:=(hr.own_ge hi e).1;omega⟩
theorem RunAt.below {w w':World} {R b0:Nat} {s:RunC} (h:RunAt w R b0 s) (hb:Below w.heap.size w w'):RunAt w' R b0 s:=
 ⟨h.blk.below hb h.blk.lt,h.low,fun i hi=>by
  obtain⟨h1,h2,h3,h4,h5⟩:=h.ver i hi
  exact⟨h1,h2,h3,(h4.below hb).more hb.size,fun hn0 a e=>⟨Nat.lt_of_lt_of_le (h5 hn0 a e).1 hb.size,(h5 hn0 a e).2⟩⟩,fun i hi=>(h.box i hi).below hb,h.apart⟩
end Cl
namespace Cl
open Go.RowKit Mem Rws Nd
theorem RunC.cell_box (s:RunC) {i:Nat} (hi:i<4):s.cell (311+i)=s.boxV i:=by
 unfold RunC.cell
 rw [if_neg (by omega),if_neg (by omega),if_neg (by omega),if_neg (by omega),if_neg (by omega),Nat.add_sub_cancel_left]
theorem gr_setCell (w:World) (g i:Nat) (u:Value):w.grownBy (w.setCell ⟨g,i,none⟩ u) (some g):=⟨rfl,rfl,rfl,by simp,fun k _ hk=>heap_setCell_other w ⟨g,i,none⟩ k u (fun e=>hk (by simp [e]))⟩
theorem own_msgs_grown {w w':World} {base:Nat} {A:Option Addr} {c:Nat} {ms:List Ms.Msg} (h:Ms.OwnMsgs w base A c ms) {row:Option Nat} (hg:w.grownBy w' row) (hne:(Value.slice A ms.length c).ownBlock=none∨(Value.slice A ms.length c).ownBlock≠row)
  (hr:∀g,row=some g→∃cur t,w.heap[g]?=some (.cells cur t (0,0))∧t≠3):Ms.OwnMsgs w' base A c ms:=by
 obtain⟨xs,ho,hx⟩:=h
 refine⟨xs,ho.kept hg hne,fun i m hm=>?_⟩
 obtain⟨a,c',h1,h2,h3⟩:=hx i m hm
 exact⟨a,c',h1,Ms.own_kept h2 hg hr,h3⟩
theorem cell_same {w w':World} {b:Nat} (h:w'.heap[b]?=w.heap[b]?) (o:Nat): w'.cell? ⟨b,o,none⟩= w.cell? ⟨b,o,none⟩:=by
 simp only [World.cell?,h]
theorem rd_kept {w w':World} {B B' size n:Nat} {A:Option Addr} {xs:List Value} (h:Rd w B size A n xs) (hB:B≤B') (hk:0<n→∀a,A=some a→w'.heap[a.block]?=w.heap[a.block]?):Rd w' B' size A n xs:=
 ⟨h.1,fun hn=>let ⟨b,o,e,hb,hc⟩:=h.2 hn;⟨b,o,e,Nat.lt_of_lt_of_le hb hB,fun j u hu=>(cell_same (hk hn _ e) _).trans (hc j u hu)⟩⟩
theorem RunAt.push {w w1:World} {R b0:Nat} {s:RunC} (h:RunAt w R b0 s) {ot:Nat} (hot:ot<4) {m:Ms.Msg} {a:Option Addr} {ca:Nat} {xs:List Value} (hx:∀i m,(s.bX ot)[i]?=some m→∃a c',(xs.drop (i*4)).take 4=Ms.msgL m a c'∧w.ownsRow b0 3 1 (.slice a m.zs.length c') m.zs.length (Ms.intsV m.zs)∧m.zs.length*8≤140737488351232)
  (ho:w.ownsRow b0 72 4 (s.boxV ot) (s.bX ot).length xs) (hm:w.ownsRow b0 3 1 (.slice a m.zs.length ca) m.zs.length (Ms.intsV m.zs)) (hl:m.zs.length*8≤140737488351232) {A':Option Addr} {c':Nat}
  (ho':w1.ownsRow b0 72 4 (.slice A' ((s.bX ot).length+1) c') ((s.bX ot).length+1) (xs++Ms.msgL m a ca)) (hg:w.grownBy w1 (s.own ot)) (hat:(Value.slice A' ((s.bX ot).length+1) c').ownBlock=s.own ot∨(Value.slice A' ((s.bX ot).length+1) c').ownBlock=some w.heap.size):
  RunAt (w1.setCell ⟨R,311+ot,none⟩ (.slice A' ((s.bX ot).length+1) c')) R b0 (s.box ot A' c' (s.bX ot++[m]))∧Keep w (w1.setCell ⟨R,311+ot,none⟩ (.slice A' ((s.bX ot).length+1) c')) R s (s.box ot A' c' (s.bX ot++[m])):=by
 have hRne:=h.own_ne hot
 have hRlt:=h.blk.lt
 have b1:Blk w1 R 68 (row 315 s.cell):=h.blk.grown hg (fun e=>hRne e.symm)
 have hlen:(s.bX ot++[m]).length=(s.bX ot).length+1:=by simp
 have hown:(s.box ot A' c' (s.bX ot++[m])).own ot=(Value.slice A' ((s.bX ot).length+1) c').ownBlock:=by
  unfold RunC.own;rw [s.box_at,hlen]
 have hother:∀i,i≠ot→(s.box ot A' c' (s.bX ot++[m])).own i=s.own i:=fun i hi=>by unfold RunC.own;rw [s.box_ne A' c' _ hi]
 have hrun:∀g,some R=some g→∃cur t,w1.heap[g]?=some (.cells cur t (0,0))∧t≠3:=fun g e=>by injection e with e;subst e;exact⟨_,_,b1,by decide⟩
 have hg2:=gr_setCell w1 R (311+ot) (.slice A' ((s.bX ot).length+1) c')
 have hsz2:(w1.setCell ⟨R,311+ot,none⟩ (.slice A' ((s.bX ot).length+1) c')).heap.size=w1.heap.size:=by simp
 have hblk:∀b,b<w.heap.size→b≠R→(∀i,i<4→s.own i≠some b)→(w1.setCell ⟨R,311+ot,none⟩ (.slice A' ((s.bX ot).length+1) c')).heap[b]?=w.heap[b]?:=fun b hb hbR hX=>
  (hg2.block b (Nat.lt_of_lt_of_le hb hg.size) (fun e=>by injection e with e;exact hbR e)).trans (hg.block b hb fun e=>hX ot hot e.symm)
 have hint:∀g,s.own ot=some g→∃cur t,w.heap[g]?=some (.cells cur t (0,0))∧t≠3:=Ms.own_is ho (by decide)
 have hboxR:∀ {A:Option Addr} {c:Nat} {ms:List Ms.Msg},Ms.OwnMsgs w1 b0 A c ms→Ms.OwnMsgs (w1.setCell ⟨R,311+ot,none⟩ (.slice A' ((s.bX ot).length+1) c')) b0 A c ms:=fun {A c ms} hb=>by
  refine own_msgs_grown hb hg2 ?_ hrun
  cases hbk:(Value.slice A ms.length c).ownBlock with
  |none=>exact .inl rfl
  |some g=>
   refine .inr fun e=>?_
   injection e with e
   obtain⟨ys,hy,_⟩:=hb
   obtain⟨cur,t,g1,g2⟩:=Ms.own_is hy (show 72≠68 by decide) g hbk
   rw [e]at g1
   unfold Blk at b1
   rw [b1]at g1
   injection g1 with g1
   injection g1 with _ g1 _
   exact g2 g1.symm
 constructor
 ·
  refine⟨?_,h.low,fun i hi=>?_,fun i hi=>?_,fun i j hi hj hij=>?_⟩
  ·
   have:=b1.set (311+ot) (.slice A' ((s.bX ot).length+1) c')
   rw [←hlen,s.box_row ot hot]at this
   rw [←hlen]
   exact this
  ·
   obtain⟨h1,h2,h3,h4,h5⟩:=h.ver i hi
   refine⟨h1,h2,h3,rd_kept h4 (by rw [hsz2];exact hg.size) (fun hn0 a e=>hblk _ (h5 hn0 a e).1 (h5 hn0 a e).2.1 fun i hi=>(h5 hn0 a e).2.2 i hi),fun hn0 a e=>?_⟩
   refine⟨by rw [hsz2];exact Nat.lt_of_lt_of_le (h5 hn0 a e).1 hg.size,(h5 hn0 a e).2.1,fun j hj=>?_⟩
   by_cases hjt:j=ot
   ·
    subst hjt
    rw [hown]
    rcases hat with e2|e2
    · rw [e2];exact(h5 hn0 a e).2.2 j hj
    · rw [e2];intro e3;injection e3 with e3;have:=(h5 hn0 a e).1;omega
   · rw [hother j hjt];exact(h5 hn0 a e).2.2 j hj
  ·
   by_cases hit:i=ot
   ·
    subst hit
    have:=Ms.OwnMsgs.snoc hx ho hm hl ho' hg
    show Ms.OwnMsgs _ b0 (setAt s.bA i A' i) (setAt s.bC i c' i) (setAt s.bX i (s.bX i++[m]) i)
    rw [setAt_self,setAt_self,setAt_self]
    exact hboxR this
   ·
    show Ms.OwnMsgs _ b0 (setAt s.bA ot A' i) (setAt s.bC ot c' i) (setAt s.bX ot (s.bX ot++[m]) i)
    rw [setAt_ne _ _ hit,setAt_ne _ _ hit,setAt_ne _ _ hit]
    exact hboxR (own_msgs_grown (h.box i hi) hg (h.apart i ot hi hot hit) hint)
  ·
   by_cases hit:i=ot
   ·
    subst hit
    rw [hown,hother j (fun e=>hij e.symm)]
    rcases hat with e2|e2
    · rw [e2];exact h.apart i j hi hj hij
    ·
     rw [e2]
     refine .inr fun e=>?_
     have:=(h.own_ge hj e.symm).2
     omega
   ·
    rw [hother i hit]
    by_cases hjt:j=ot
    ·
     subst hjt
     rw [hown]
     rcases hat with e2|e2
     · rw [e2];exact h.apart i j hi hj hij
     ·
      rw [e2]
      cases hoi:s.own i with
      |none=>exact .inl rfl
      |some g=>
       refine .inr fun e=>?_
       injection e with e
       have:=(h.own_ge hi hoi).2
       omega
    · rw [hother j hjt];exact h.apart i j hi hj hij
 ·
  exact⟨hg2.os.trans hg.os,hg2.tape.trans hg.tape,hg2.output.trans hg.output,Nat.le_trans hg.size hg2.size,fun i hi=>by
   by_cases hit:i=ot
   ·
    subst hit
    rw [hown]
    rcases hat with e2|e2
    · exact .inl e2
    · exact .inr ⟨_,e2,Nat.le_refl _⟩
   · exact .inl (hother i hit),hblk⟩
end Cl
namespace Sm
open Go.ChangeShapes Go.WideShapes Go.ChangeAt Go.RowKit Mem
def bytesV (bs:List Nat):List Value:=bs.map fun(x:Nat)=>Value.int .u8 (x:Int)
theorem bytesV_at (bs:List Nat) (k:Nat) (hk:k<bs.length):(bytesV bs)[k]?=some (.int .u8 (bs[k]:Int)):=by
 simp [bytesV,hk]
theorem bytes_of:∀(zs:List Int),(∀z∈zs,(Lit.int .u8 z).wf=true)→∃bs:List Nat,zs.map (Value.int .u8)=bytesV bs∧bs.length=zs.length∧∀x∈bs,x<256
 |[],_=>⟨[],rfl,rfl,by simp⟩
 |z::zs,h=>by
  obtain⟨bs,h1,h2,h3⟩:=bytes_of zs (fun y hy=>h y (List.mem_cons_of_mem _ hy))
  have hz:=Op.wf_u8 (h z List.mem_cons_self)
  refine⟨z.toNat::bs,?_,by simp [h2],?_⟩
  ·
   have e:((z.toNat:Nat):Int)=z:=Int.toNat_of_nonneg hz.1
   simp only [bytesV,List.map_cons,e]
   exact congrArg _ h1
  ·
   intro x hx
   cases List.mem_cons.1 hx with
   |inl e=>subst e;omega
   |inr e=>exact h3 x e
theorem elemBytes:Elem Tryz.prog 58 5 (.int .u8 0) 1 1:=⟨Tryz.underlying58,by kernel_rfl,rfl,by omega⟩
theorem bytesV_one (bs:List Nat):∀u∈bytesV bs,u.oneCell'=true:=fun u hu=>by
 obtain⟨z,_,rfl⟩:=List.mem_map.1 hu
 rfl
def OwnBytes (w w':World) (bs:List Nat) (e:Ending):Prop:=
 ∃A c,e=.returned (.slice A bs.length c)∧w'.ownsRow w.heap.size 5 1 (.slice A bs.length c) bs.length (bytesV bs)∧Below w.heap.size w w'
theorem rd_alloc (w:World) (C:Array Value) (e:TypeId) (fr:Nat×Nat):Rd (w.alloc (.cells C e fr)) (w.heap.size+1) 1 (some ⟨w.heap.size,0,none⟩) C.size C.toList:=by
 have h:(w.alloc (.cells C e fr)).heap[w.heap.size]?=some (.cells C e fr):=by
  show(w.heap.push _)[w.heap.size]?=_;simp
 refine⟨by simp,fun _=>⟨w.heap.size,0,rfl,by omega,fun j u hu=>?_⟩⟩
 rw [Nat.zero_add]
 simp only [World.cell?,h]
 simpa using hu
theorem bytesV_append (a b:List Nat):bytesV (a++b)=bytesV a++bytesV b:=by simp [bytesV]
theorem rd_one (w:World) (v:Value) (e:TypeId):Rd (w.alloc (.cells #[v] e)) (w.heap.size+1) 1 (some ⟨w.heap.size,0,none⟩) 1 [v]:=rd_alloc w #[v] e (0,0)
theorem wpList_make_cap {P:Program} {w:World} {ops:Array Oper} {rest:List Oper} {o:Oper} {a:Act} {Q:Exit→Act→World→Prop}
  (hg:o.guard=none) (l c:Operand) (t:TypeId) (hop:o.op=Op.makeSlice t l c) {e:TypeId} {z:Value} {size bytes:Nat} (E:Elem P t e z size bytes)
  {kl kc:IntKind} {L C:Int} (n:Nat) (hl:a.eval l=.int kl L) (hc:a.eval c=.int kc C) (hL:L=0) (hC:C=(n:Int)) (hb:bytes*n≤281474976710656) (hn:n≤maxLen) {base:Nat} (hbase:base≤w.heap.size)
  (h:∀w1,w1.ownsRow base e size (.slice (some ⟨w.heap.size,0,none⟩) 0 n) 0 []→w.grownBy w1 none→wpList P ops Q rest (a.put o.dst (.slice (some ⟨w.heap.size,0,none⟩) 0 n)) w1):wpList P ops Q (o::rest) a w:=by
 obtain⟨i,hi,hz0,hz1,hz2⟩:=info_parts E.info
 subst hz2
 have hb':(i.bytes:Int)*(n:Int)≤281474976710656:=by
  have h:((i.bytes*n:Nat):Int)≤281474976710656:=by omega
  rwa [Int.natCast_mul]at h
 unfold maxLen at hn
 have hr:=run_make (P:=P) w t e i z E.und hi hz0 kl kc 0 n (by omega) (by omega) hb' (by omega)
 refine wpList_plain hg fun K hK=>?_
 subst hL
 subst hC
 simp only [Int.toNat_natCast,Int.toNat_zero,hz1]at hr
 unfold Oper.wp
 simp only [execOp,hop,hl,hc,hr,Result.andThen_ok,Sem.run_bind,Sem.run_pure]
 refine hK _ _ (h _ (World.ownsRow_made w _ n hbase (by unfold maxLen;omega) ?_) ?_)
 · rw [size_madeCells]
 · exact World.grownBy_alloc _ _ _
def OwnV (w wr:World) (v:Value) (n:Nat) (bs:List Nat):Prop:=∃A c,v=.slice A n c∧n=bs.length∧wr.ownsRow w.heap.size 5 1 (.slice A n c) n (bytesV bs)
end Sm
namespace SumLaw
def step1 (c:Nat):Nat:=if c%2=1 then(c/2) ^^^ 3988292384 else c/2
def steps:Nat→Nat→Nat
 |0,c=>c
 |n+1,c=>step1 (steps n c)
def tab (i:Nat):Nat:=steps 8 i
def byteT (c x:Nat):Nat:=tab ((c%256) ^^^ x) ^^^ (c/256)
def over (f:Nat→Nat→Nat) (c:Nat) (l:List Nat):Nat:=l.foldl f c
def more (s:Int) (l:List Nat):Int:=4294967295-(over byteT (4294967295-(s%4294967296).toNat) l:Nat)
theorem xor_mod2 (a b:Nat):(a ^^^ b)%2=(a+b)%2:=by
 have h:= @Nat.xor_mod_two_pow a b 1
 simp only [Nat.pow_one]at h
 rw [h]
 rcases Nat.mod_two_eq_zero_or_one a with ha|ha<;>rcases Nat.mod_two_eq_zero_or_one b with hb|hb<;>rw [ha,hb]
 · rw [show(0 ^^^ 0:Nat)=0 from rfl];omega
 · rw [show(0 ^^^ 1:Nat)=1 from rfl];omega
 · rw [show(1 ^^^ 0:Nat)=1 from rfl];omega
 · rw [show(1 ^^^ 1:Nat)=0 from rfl];omega
theorem xor_div2 (a b:Nat):(a ^^^ b)/2=(a/2) ^^^ (b/2):=by
 have h:= @Nat.xor_div_two_pow a b 1
 simpa using h
theorem step1_xor (a b:Nat):step1 (a ^^^ b)=step1 a ^^^ step1 b:=by
 unfold step1
 rw [xor_mod2,xor_div2]
 rcases Nat.mod_two_eq_zero_or_one a with ha|ha<;>rcases Nat.mod_two_eq_zero_or_one b with hb|hb
 · rw [if_neg (by omega),if_neg (by omega),if_neg (by omega)]
 · rw [if_pos (by omega),if_neg (by omega),if_pos (by omega),Nat.xor_assoc]
 · rw [if_pos (by omega),if_pos (by omega),if_neg (by omega),Nat.xor_assoc,Nat.xor_assoc,Nat.xor_comm (b/2)]
 · rw [if_neg (by omega),if_pos (by omega),if_pos (by omega),Nat.xor_assoc (a/2),Nat.xor_comm (b/2),←Nat.xor_assoc 3988292384,Nat.xor_self,Nat.zero_xor]
theorem steps_xor (n a b:Nat):steps n (a ^^^ b)=steps n a ^^^ steps n b:=by
 induction n with
 |zero=>rfl
 |succ n ih=>unfold steps;rw [ih,step1_xor]
theorem steps_comm (n c:Nat):steps n (step1 c)=step1 (steps n c):=by
 induction n with
 |zero=>rfl
 |succ n ih=>unfold steps;rw [ih]
theorem steps_shift (n h:Nat):steps n (2 ^ n*h)=h:=by
 induction n generalizing h with
 |zero=>simp [steps]
 |succ n ih=>
  have e:steps (n+1) (2 ^ (n+1)*h)=steps n (step1 (2 ^ (n+1)*h)):=by rw [steps_comm];rfl
  rw [e,Nat.pow_succ]
  have e2:step1 (2 ^ n*2*h)=2 ^ n*h:=by
   unfold step1
   have:2 ^ n*2*h=2*(2 ^ n*h):=by rw [Nat.mul_comm (2 ^ n) 2,Nat.mul_assoc]
   rw [this,if_neg (by omega)]
   omega
  rw [e2,ih]
theorem split8 (a:Nat):(a%256) ^^^ (256*(a/256))=a:=by
 have h:(a%2 ^ 8) ^^^ (2 ^ 8*(a/2 ^ 8))=a:=by
  apply Nat.eq_of_testBit_eq
  intro i
  rw [Nat.testBit_xor,Nat.testBit_mod_two_pow,Nat.testBit_two_pow_mul,Nat.testBit_div_two_pow]
  by_cases hi:i<8
  ·
   have h8:¬8≤i:=by omega
   simp [hi,h8]
  ·
   have e:i-8+8=i:=by omega
   have h8:8≤i:=by omega
   simp [hi,e,h8]
 simpa using h
theorem xor_mod256 (a x:Nat) (hx:x<256):(a ^^^ x)%256=(a%256) ^^^ x:=by
 have h:= @Nat.xor_mod_two_pow a x 8
 rw [show(2:Nat) ^ 8=256 from rfl]at h
 rw [h,Nat.mod_eq_of_lt hx]
theorem xor_div256 (a x:Nat) (hx:x<256):(a ^^^ x)/256=a/256:=by
 have h:= @Nat.xor_div_two_pow a x 8
 rw [show(2:Nat) ^ 8=256 from rfl]at h
 rw [h,Nat.div_eq_of_lt hx,Nat.xor_zero]
theorem byteT_steps (c x:Nat) (hx:x<256):byteT c x=steps 8 (c ^^^ x):=by
 have h:=split8 (c ^^^ x)
 rw [xor_mod256 c x hx,xor_div256 c x hx]at h
 rw [←h,steps_xor]
 have e:=steps_shift 8 (c/256)
 rw [show(2:Nat) ^ 8=256 from rfl]at e
 rw [e]
 rfl
theorem step1_lt (c:Nat) (h:c<4294967296):step1 c<4294967296:=by
 unfold step1
 split
 · exact Nat.xor_lt_two_pow (n:=32) (by omega) (by omega)
 · omega
theorem steps_lt (n c:Nat) (h:c<4294967296):steps n c<4294967296:=by
 induction n with
 |zero=>exact h
 |succ n ih=>exact step1_lt _ ih
theorem byteT_lt (c x:Nat) (hc:c<4294967296) (hx:x<256):byteT c x<4294967296:=by
 rw [byteT_steps c x hx]
 exact steps_lt 8 _ (Nat.xor_lt_two_pow (n:=32) (by omega) (by omega))
theorem over_lt (l:List Nat) (c:Nat) (hc:c<4294967296) (hl:∀x∈l,x<256):over byteT c l<4294967296:=by
 induction l generalizing c with
 |nil=>exact hc
 |cons x l ih=>exact ih _ (byteT_lt c x hc (hl x List.mem_cons_self)) (fun y hy=>hl y (List.mem_cons_of_mem _ hy))
theorem over_snoc (f:Nat→Nat→Nat) (c:Nat) (l:List Nat) (x:Nat):over f c (l++[x])=f (over f c l) x:=by simp [over]
theorem over_take (f:Nat→Nat→Nat) (c:Nat) (l:List Nat) (k:Nat) (hk:k<l.length):over f c (l.take (k+1))=f (over f c (l.take k)) l[k]:=by
 rw [List.take_succ_eq_append_getElem hk,over_snoc]
def bit (c k:Nat):Nat:=c/2 ^ k%2
end SumLaw
namespace Sm
open Go.ChangeShapes Go.WideShapes Go.ChangeAt Go.RowKit Mem SumLaw
def tabArr (k:Nat):Array Value:=((List.range 256).map fun i=>Value.int .u32 (if i<k then(tab i:Int)else 0)).toArray
theorem tabArr_zero:tabArr 0=Tryz.zeroCells181:=by kernel_rfl
theorem tabArr_size (k:Nat):(tabArr k).size=256:=by simp [tabArr]
theorem tabArr_at (k i:Nat) (hi:i<256):(tabArr k)[i]?=some (.int .u32 (if i<k then(tab i:Int)else 0)):=by
 simp [tabArr,hi]
theorem tabArr_set (k:Nat) (hk:k<256):(tabArr k).setIfInBounds k (.int .u32 (tab k:Int))=tabArr (k+1):=by
 apply Array.ext_getElem?
 intro i
 rw [Array.getElem?_setIfInBounds,tabArr_size]
 by_cases hi:i<256
 ·
  rw [tabArr_at _ i hi,tabArr_at _ i hi]
  by_cases e:k=i
  ·
   subst e
   simp [hi]
  ·
   rw [if_neg e]
   by_cases h1:i<k
   · rw [if_pos h1,if_pos (by omega)]
   · rw [if_neg h1,if_neg (by omega)]
 · rw [if_neg (by omega),Array.getElem?_eq_none (by rw [tabArr_size];omega),Array.getElem?_eq_none (by rw [tabArr_size];omega)]
theorem tabArr_one {k:Nat}:(tabArr k).all (·.oneCell')=true:=by
 rw [Array.all_eq_true_iff_forall_mem]
 intro v hv
 simp only [tabArr,List.mem_toArray,List.mem_map]at hv
 obtain⟨i,_,rfl⟩:=hv
 rfl
theorem and1 (c:Nat) (h:c<4294967296):bits .and .u32 (c:Int) 1=(c:Int)%2:=by
 have:=u32_and_nat c 1 h (by omega)
 rw [nat_mask1]at this
 simpa using this
theorem xorp (c:Nat) (h:c<4294967296):bits .xor .u32 ((c:Int)/2) 3988292384=((c/2 ^^^ 3988292384:Nat):Int):=by
 have:=u32_xor_nat (c/2) 3988292384 (by omega) (by omega)
 simpa using this
def Table (w w':World) (e:Ending):Prop:=e=.returned (.agg (tabArr 256))∧Below w.heap.size w w'
set_option maxRecDepth 100000 in
theorem table_any (w:World):
  Calls Tryz.prog 105 #[] w fun e w'=>Table w w' e:=by
 have b0:Blk ((w.alloc (.cells Tryz.zeroCells181 181)).alloc (.cells Tryz.zeroCells181 181)) w.heap.size 181 (tabArr 0):=by rw [tabArr_zero];exact(Blk.new rfl).alloc _
 have b1:Blk ((w.alloc (.cells Tryz.zeroCells181 181)).alloc (.cells Tryz.zeroCells181 181)) (w.heap.size+1) 181 (tabArr 0):=by rw [tabArr_zero];exact Blk.new (by simp)
 have hb:Below w.heap.size w ((w.alloc (.cells Tryz.zeroCells181 181)).alloc (.cells Tryz.zeroCells181 181)):=((Below.refl _ _).alloc (Nat.le_refl _) _).alloc (by simp) _
 go_enter Tryz.func105,Tryz.ntmps105
 go_wp2_with fail
 go_loopw [4] (fun i wr=>∃k:Nat,k≤256∧i=.int .i64 k∧Blk wr w.heap.size 181 (tabArr 0)∧Blk wr (w.heap.size+1) 181 (tabArr k)∧Below w.heap.size w wr) (fun i _=>256-(intOf i).toNat)
 case atStart=>exact⟨0,by omega,rfl,b0,b1,hb⟩
 case round=>
  clear b0 b1 hb
  obtain⟨k,hk,rfl,b0,b1,hb⟩:=hrel
  by_cases hlt:k<256
  ·
   go_wp2_with fail
   go_loop [3,9] (fun c j=>∃n:Nat,n≤8∧j=.int .i64 n∧c=.int .u32 (steps n k:Nat)) (fun _ j=>8-(intOf j).toNat)
   case atStart=>exact⟨0,by omega,rfl,rfl⟩
   case round=>
    obtain⟨n,hn,rfl,rfl⟩:=hrel
    have hc:=steps_lt n k (by omega)
    by_cases hln:n<8
    ·
     have HS:=Lib.hid (show steps (n+1) k=step1 (steps n k)from rfl)
     generalize steps n k=c at hc HS ⊢
     have h1:=and1 c hc
     have h2:=xorp c hc
     by_cases hodd:(c:Int)%2=1
     ·
      have HT:=Lib.hid (show step1 c=(c/2) ^^^ 3988292384 from by unfold step1;rw [if_pos (by omega)])
      have hodd':((c:Int)%2==1)=true:=by simpa using hodd
      clear hodd
      go_wp2_with fail
      exact⟨⟨n+1,by omega,by go_num,by rw [HS.out,HT.out]⟩,by simp [intOf];omega⟩
     ·
      have HT:=Lib.hid (show step1 c=c/2 from by unfold step1;rw [if_neg (by omega)])
      have hodd':((c:Int)%2==1)=false:=by simpa using hodd
      clear hodd
      go_wp2_with fail
      exact⟨⟨n+1,by omega,by go_num,by rw [HS.out,HT.out];go_num⟩,by simp [intOf];omega⟩
    ·
     obtain rfl:n=8:=by omega
     have c1:=b1.cell k
     have f1:=b1.thaw k
     rw [tabArr_at _ _ hlt]at c1
     go_wp2_with fail
     exact⟨⟨k+1,by omega,by go_num,b0.other (by simp) _,by have:=b1.set k (.int .u32 (steps 8 k:Nat));rwa [show steps 8 k=tab k from rfl,tabArr_set k hlt]at this,hb.setCell (by simp) _⟩,by simp [intOf];omega⟩
  ·
   obtain rfl:k=256:=by omega
   clear hlt
   go_wp2_with(first
    |(refine wpList_load_row rfl 181 _ rfl (w.heap.size+1) rfl 181 (tabArr 256) (0,0) _ b1 Tryz.underlying181 rfl (by rw [tabArr_size];kernel_rfl) ?_)
    |(refine wpList_store_row rfl 181 _ _ rfl w.heap.size (tabArr 256) rfl rfl 181 (tabArr 0) b0 (by rw [tabArr_size];kernel_rfl) (by simp [tabArr_size]) tabArr_one ?_))
   refine ret_row rfl rfl (b0.setRow _) Tryz.underlying181 rfl (by rw [tabArr_size];kernel_rfl) rfl ⟨rfl,below_setRow hb (Nat.le_refl _) _⟩
theorem not32 (a:Int) (h0:0≤a) (h1:a<4294967296):bits .xor .u32 IntKind.u32.max a=4294967295-a:=by
 obtain⟨n,rfl⟩:=Int.eq_ofNat_of_zero_le h0
 have e:IntKind.u32.max=((4294967295:Nat):Int):=by decide
 rw [e,u32_xor_nat 4294967295 n (by omega) (by omega)]
 have e2:4294967295 ^^^ n=2 ^ 32-(n+1):=by
  apply Nat.eq_of_testBit_eq
  intro i
  rw [Nat.testBit_two_pow_sub_succ (by omega),Nat.testBit_xor,show(4294967295:Nat)=2 ^ 32-(0+1)from rfl,Nat.testBit_two_pow_sub_succ (by omega)]
  by_cases hi:i<32
  · simp [hi]
  ·
   have:n.testBit i=false:=Nat.testBit_lt_two_pow (Nat.lt_of_lt_of_le (by omega:n<2 ^ 32) (Nat.pow_le_pow_right (by omega) (by omega)))
   simp [hi,this]
 rw [e2]
 omega
theorem idx8 (c x:Nat) (hx:x<256):bits .xor .u8 ((c:Int)%256) (x:Int)=((c%256 ^^^ x:Nat):Int):=by
 have:=u8_xor_nat (c%256) x (by omega) hx
 simpa using this
theorem xor32 (t c:Nat) (ht:t<4294967296) (hc:c<4294967296):bits .xor .u32 (t:Int) ((c:Int)/256)=((t ^^^ c/256:Nat):Int):=by
 have:=u32_xor_nat t (c/256) ht (by omega)
 simpa using this
set_option maxRecDepth 100000 in
theorem more_any (s:Int) (A:Option Addr) (c:Nat) (bs:List Nat) (B:Nat) (w:World) (hB:B≤w.heap.size) (hs: -9223372036854775808≤s∧s≤9223372036854775807) (hl:bs.length≤9223372036854775807) (hbs:∀x∈bs,x<256) (hr:Rd w B 1 A bs.length (bytesV bs)):
  Calls Tryz.prog 82 #[.int .i64 s,.slice A bs.length c] w fun e w'=>e=.returned (.int .i64 (more s bs))∧Below w.heap.size w w':=by
 have Hbs:=Lib.hid hbs
 clear hbs
 go_enter Tryz.func82,Tryz.ntmps82
 go_wp2_with fail
 refine(table_any _).mono ?_
 rintro e w1 ⟨rfl,hb1⟩
 have hs1:=hb1.size
 have bz:Blk (w1.alloc (.cells Tryz.zeroCells181 181)) w1.heap.size 181 (tabArr 0):=by rw [tabArr_zero];exact Blk.new rfl
 have bT:=bz.setRow (tabArr 256)
 have hr1:=(hr.below (hb1.mono hB)).alloc (by omega) (.cells Tryz.zeroCells181 181)
 have hbz:Below w.heap.size w (w1.alloc (.cells Tryz.zeroCells181 181)):=hb1.alloc hb1.size _
 have hbT:=below_setRow (g:=w1.heap.size) hbz hb1.size (tabArr 256)
 have hrT:=hr1.keep (w':=(w1.alloc (.cells Tryz.zeroCells181 181)).setRow w1.heap.size (tabArr 256)) (fun b o hb=>World.cell?_of_block (Go.setRow_other _ _ _ _ (by show b≠w1.heap.size;omega)))
 go_wp2_with(refine wpList_store_row rfl 181 _ _ rfl w1.heap.size (tabArr 256) rfl rfl 181 (tabArr 0) bz (by rw [tabArr_size];kernel_rfl) (by simp [tabArr_size]) tabArr_one ?_)
 clear bz hr1 hbz
 generalize(w1.alloc (.cells Tryz.zeroCells181 181)).setRow w1.heap.size (tabArr 256)=wT at bT hbT hrT ⊢
 have Hend:=Lib.hid (show more s bs=4294967295-(over byteT (4294967295-(s%4294967296).toNat) (bs.take bs.length):Nat)by rw [List.take_of_length_le (Nat.le_refl _)];rfl)
 have hc0:4294967295-(s%4294967296).toNat<4294967296:=by omega
 have hs0:0≤s%4294967296∧s%4294967296<4294967296:=by omega
 generalize hcc:4294967295-(s%4294967296).toNat=c0 at Hend hc0
 have Hc0:=Lib.hid (show(c0:Int)=4294967295-s%4294967296 by omega)
 clear hcc
 have hn0:=not32 (s%4294967296) hs0.1 hs0.2
 go_loop [6,15] (fun cc i=>∃k:Nat,k≤bs.length∧i=.int .i64 k∧cc=.int .u32 (over byteT c0 (bs.take k):Nat)) (fun _ i=>bs.length-(intOf i).toNat)
 case atStart=>exact⟨0,by omega,rfl,by rw [hn0,←Hc0.out];rfl⟩
 case round=>
  clear hn0
  obtain⟨k,hk,rfl,rfl⟩:=hrel
  have hclt:=over_lt (bs.take k) c0 hc0 (fun x hx=>Hbs.out x (List.mem_of_mem_take hx))
  by_cases hlt:k<bs.length
  ·
   have HS:=Lib.hid (over_take byteT c0 bs k hlt)
   have hx:=Hbs.out _ (List.getElem_mem hlt)
   obtain⟨b,o,u,rfl,hbB,hu,hcell⟩:=hrT.at hlt
   rw [bytesV_at bs k hlt]at hu
   injection hu with hu
   subst hu
   generalize over byteT c0 (bs.take k)=d at hclt HS ⊢
   generalize bs[k]=x at hx HS hcell
   have h1:=idx8 d x hx
   have hi:d%256 ^^^ x<256:=Nat.xor_lt_two_pow (n:=8) (by omega) (by omega)
   have HT:=Lib.hid (show byteT d x=tab (d%256 ^^^ x) ^^^ (d/256)from rfl)
   generalize d%256 ^^^ x=i at h1 hi HT
   have hcT:=bT.cell i
   rw [tabArr_at 256 i hi,if_pos hi]at hcT
   have htl:=steps_lt 8 i (by omega)
   have h2:=xor32 (tab i) d htl hclt
   change tab i<4294967296 at htl
   generalize tab i=t at hcT h2 htl HT
   go_wp2_with fail
   exact⟨⟨k+1,by omega,by go_num,by rw [HS.out,HT.out]⟩,by simp [intOf];omega⟩
  ·
   obtain rfl:k=bs.length:=by omega
   generalize over byteT c0 (bs.take bs.length)=d at hclt Hend ⊢
   have hn1:=not32 (d:Int) (by omega) (by omega)
   go_wp2_with fail
   go_ret
   exact⟨ret_int (by rw [Hend.out]),hbT⟩
end Sm
namespace Sm
open Go.ChangeShapes Go.WideShapes Go.ChangeAt Go.RowKit Mem SumLaw
def tailL (c:Nat):List Value:=(List.range 31).map fun i=>Value.int .i64 (bit c (i+1):Int)
end Sm
namespace Sm
open Go.ChangeShapes Go.WideShapes Go.ChangeAt Go.RowKit Mem SumLaw
theorem sum_any (A:Option Addr) (c:Nat) (bs:List Nat) (B:Nat) (w:World) (hB:B≤w.heap.size) (hl:bs.length≤9223372036854775807) (hbs:∀x∈bs,x<256) (hr:Rd w B 1 A bs.length (bytesV bs)):
  Calls Tryz.prog 57 #[.slice A bs.length c] w fun e w'=>e=.returned (.int .i64 (more 0 bs))∧Below w.heap.size w w':=by
 have HR:=Lib.hid hr
 have HS:=Lib.hid hbs
 clear hr hbs
 go_enter Tryz.func57,Tryz.ntmps57
 go_wp2_with fail
 refine(more_any 0 A c bs B _ hB (by omega) hl HS.out HR.out).mono ?_
 rintro e w1 ⟨rfl,hb⟩
 generalize hm:more 0 bs=m
 have HM:=Lib.hid hm
 clear hm
 go_wp2_with fail
 go_ret
 exact⟨by rw [HM.out];rfl,hb⟩
end Sm
namespace Sm
open Go.ChangeShapes Go.WideShapes Go.ChangeAt Go.RowKit Mem SumLaw
def tailTo (s k:Nat):List Nat:=(List.range k).map fun i=>s/256 ^ i%256
def sealed (bs:List Nat):List Nat:=bs++tailTo (more 0 bs).toNat 4
theorem tailTo_succ (s k:Nat):tailTo s (k+1)=tailTo s k++[s/256 ^ k%256]:=by
 simp [tailTo,List.range_succ]
theorem tailTo_four (s:Nat):tailTo s 4=[s%256,s/256%256,s/65536%256,s/16777216%256]:=by simp [tailTo,List.range_succ]
theorem tailTo_length (s k:Nat):(tailTo s k).length=k:=by simp [tailTo]
theorem more_nat (bs:List Nat) (h:∀x∈bs,x<256):∃s:Nat,more 0 bs=(s:Int)∧s<4294967296:=by
 have:=over_lt bs (4294967295-((0:Int)%4294967296).toNat) (by omega) h
 unfold more
 exact⟨4294967295-over byteT (4294967295-((0:Int)%4294967296).toNat) bs,by omega,by omega⟩
end Sm
end Go.Proofs.YtljpoibnkkcjdaaGreatDoor
