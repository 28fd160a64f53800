import Derived.Test.YtljpoibnkkcjdaaGreatDoorPc1
set_option linter.unusedVariables false
set_option linter.unusedSimpArgs false
namespace Go.Proofs.YtljpoibnkkcjdaaGreatDoor
namespace Nd
open Go.RowKit Mem Rws
set_option maxRecDepth 100000 in
set_option maxHeartbeats 1000000 in
theorem nodeBegin_yes (id t0 t1 t2 t3:Int) (w:World) (h0:0≤id) (h1:id<4):
  Calls Tryz.prog 12 #[.int .i64 id,.agg #[.int .i64 t0,.int .i64 t1,.int .i64 t2,.int .i64 t3]] w fun e w'=>e=.returned (.tuple #[.agg (row 74 (nodeK id t0 t1 t2 t3 3)),.int .i64 0])∧Below w.heap.size w w':=by
 go_enter Tryz.func12,Tryz.ntmps12
 go_upto_region 3 with fail
 go_cut [6] (fun v wx=>∃g,v=.pointer (some ⟨g,0,none⟩)∧w.heap.size+1<g∧Blk wx g 39 (row 74 (nodeK id t0 t1 t2 t3 0))∧Blk wx (w.heap.size+1) 39 (row 74 node0)∧Below w.heap.size w wx)
 case first=>
  have HBL:=Lib.hid (built_node id t0 t1 t2 t3)
  have D3:Hid (Blk ((w.alloc (.cells #[.int .i64 t0,.int .i64 t1,.int .i64 t2,.int .i64 t3] 23)).alloc (.cells Tryz.zeroCells39 39)) w.heap.size 23 #[.int .i64 t0,.int .i64 t1,.int .i64 t2,.int .i64 t3]):=Lib.hid ((Blk.new rfl).alloc _)
  have D4:Hid (Blk ((w.alloc (.cells #[.int .i64 t0,.int .i64 t1,.int .i64 t2,.int .i64 t3] 23)).alloc (.cells Tryz.zeroCells39 39)) (w.heap.size+1) 39 (row 74 node0)):=Lib.hid (by rw [zero_node];exact Blk.new (by simp))
  have HB:=Lib.hid (((Below.refl w.heap.size w).alloc (Nat.le_refl _) (.cells #[.int .i64 t0,.int .i64 t1,.int .i64 t2,.int .i64 t3] 23)).alloc (by simp) (.cells Tryz.zeroCells39 39))
  have hsz0:((w.alloc (.cells #[.int .i64 t0,.int .i64 t1,.int .i64 t2,.int .i64 t3] 23)).alloc (.cells Tryz.zeroCells39 39)).heap.size=w.heap.size+1+1:=by simp
  generalize((w.alloc (.cells #[.int .i64 t0,.int .i64 t1,.int .i64 t2,.int .i64 t3] 23)).alloc (.cells Tryz.zeroCells39 39))=W0 at*
  have HB:=Lib.hid HB.out.drew
  have D4:=Lib.hid D4.out.drew
  have D3:=Lib.hid D3.out.drew
  have hd0:W0.drew.heap.size=w.heap.size+1+1:=hsz0
  have HS:=And.intro (D3.out.cell 0) (And.intro (D3.out.cell 1) (And.intro (D3.out.cell 2) (D3.out.cell 3)))
  refine wp_region_noPanic ?_
  refine Rg.beginR [1] (fun w'=> w'.cell? ⟨w.heap.size,0,none⟩=some (.int .i64 t0)∧ w'.cell? ⟨w.heap.size,1,none⟩=some (.int .i64 t1)∧ w'.cell? ⟨w.heap.size,2,none⟩=some (.int .i64 t2)∧ w'.cell? ⟨w.heap.size,3,none⟩=some (.int .i64 t3)) (by kernel_rfl) ?_
  refine Rg.tp 0 ⟨some 15,.move (.tmp 0),_,_,_,none⟩ (v:=?_) rfl ?_ ?_
  rotate_left 1
  · (intro w;(try(have hbl:=HBL.out));(have hsz:(row 12 roll0).size=12:=row_size _ _);go_simp;(try with_reducible rfl))
  try simp only [Rg.lp]
  refine Rg.stp_s 1 ?_ HS (hy:=?_) (h:=?_)
  rotate_left 1
  · (intro w hSw;(try dsimp only at hSw);(try go_split_ands);go_simp;(try with_reducible rfl))
  try simp only [Rg.lp]
  refine Rg.twoR (i:=2) (j:=4) (oi:=⟨some 17,.call { callee:=.value (.func 26),args:=#[],argTypes:=_ },_,_,_,none⟩) (oj:=⟨some 6,.alloc 39,_,_,_,none⟩) (by kernel_rfl) rfl rfl ?_ ?_
  ·
   refine Rg.stepS ?_
   intro K hK
   go_simp
   go_at_call 26
   refine(roll_any _).mono ?_
   rintro e w1 ⟨rfl,hb1⟩
   have HB:=Lib.hid (onward HB.out (Nat.le_refl _) hb1)
   have hs1:=hb1.size
   have D4:=Lib.hid (D4.out.below hb1 D4.out.lt)
   have D3:=Lib.hid (D3.out.below hb1 D3.out.lt)
   have HS:=And.intro (D3.out.cell 0) (And.intro (D3.out.cell 1) (And.intro (D3.out.cell 2) (D3.out.cell 3)))
   clear hb1
   go_wp2_with fail
   refine hK.out _ _ HS ?_
   clear hK K
   try simp only [Rg.lp]
   refine Rg.tp 3 ⟨some 18,.build 39 #[(0,.tmp 15),(2,.tmp 16),(4,.tmp 17)],_,_,_,none⟩ (v:=?_) rfl ?_ ?_
   rotate_left 1
   · (intro w;(try(have hbl:=HBL.out));(have hsz:(row 12 roll0).size=12:=row_size _ _);go_simp;(try with_reducible rfl))
   try simp only [Rg.lp]
   refine Rg.stp_o 4 ?_
   refine Rg.stepS ?_
   intro K hK
   go_simp
   have D4:=Lib.hid (D4.out.alloc (.cells Tryz.zeroCells39 39))
   have D6:Hid (Blk (w1.alloc (.cells Tryz.zeroCells39 39)) w1.heap.size 39 Tryz.zeroCells39):=Lib.hid (Blk.fresh _ _ _)
   have HB:=Lib.hid (HB.out.alloc HB.out.size (.cells Tryz.zeroCells39 39))
   have D3:=Lib.hid (D3.out.alloc (.cells Tryz.zeroCells39 39))
   have HS:=And.intro (D3.out.cell 0) (And.intro (D3.out.cell 1) (And.intro (D3.out.cell 2) (D3.out.cell 3)))
   refine hK.out _ _ HS ?_
   clear hK K
   try simp only [Rg.lp]
   refine Rg.stp_o 5 ?_
   refine Rg.stepF ?_ ?_
   · kernel_rfl
   intro K hK
   rw [if_pos (by rfl)]
   refine wp_store_row 39 _ _ rfl w1.heap.size (row 74 (nodeK id t0 t1 t2 t3 0)) rfl rfl 39 Tryz.zeroCells39 D6.out (by rw [row_size];kernel_rfl) (by rw [zero_node,row_size,row_size]) (row_one fun i _=>nodeK_one _ _ _ _ _ _ i) ?_
   refine hK.out _ _ ?_
   clear hK K
   try simp only [Rg.lp]
   refine Rg.doneR (by kernel_rfl) ?_ _
   refine NoPanic.normal ?_
   have hg:w.heap.size+1<w1.heap.size:=by omega
   have G1:=Lib.hid (D6.out.setRow (row 74 (nodeK id t0 t1 t2 t3 0)))
   have G2:=Lib.hid (D4.out.setRow_other (g':=w1.heap.size) (by omega) (row 74 (nodeK id t0 t1 t2 t3 0)))
   have G3:=Lib.hid (below_setRow HB.out (show w.heap.size≤w1.heap.size by omega) (row 74 (nodeK id t0 t1 t2 t3 0)))
   clear HS D3 D4 D6 HB
   go_wp2_with fail
   go_meet
   exact⟨_,rfl,hg,G1.out,G2.out,G3.out⟩
  ·
   refine Rg.stepS ?_
   intro K hK
   go_simp
   have D4:=Lib.hid (D4.out.alloc (.cells Tryz.zeroCells39 39))
   have D6:Hid (Blk (W0.drew.alloc (.cells Tryz.zeroCells39 39)) (w.heap.size+1+1) 39 Tryz.zeroCells39):=Lib.hid (Blk.new hd0.symm)
   have HB:=Lib.hid (HB.out.alloc HB.out.size (.cells Tryz.zeroCells39 39))
   have D3:=Lib.hid (D3.out.alloc (.cells Tryz.zeroCells39 39))
   have HS:=And.intro (D3.out.cell 0) (And.intro (D3.out.cell 1) (And.intro (D3.out.cell 2) (D3.out.cell 3)))
   refine hK.out _ _ HS ?_
   clear hK K
   try simp only [Rg.lp]
   refine Rg.stp_o 2 ?_
   refine Rg.stepS ?_
   intro K hK
   go_simp
   go_at_call 26
   refine(roll_any _).mono ?_
   rintro e w1 ⟨rfl,hb1⟩
   have HB:=Lib.hid (onward HB.out (Nat.le_refl _) hb1)
   have hs1:=hb1.size
   have D4:=Lib.hid (D4.out.below hb1 D4.out.lt)
   have D6:=Lib.hid (D6.out.below hb1 D6.out.lt)
   have D3:=Lib.hid (D3.out.below hb1 D3.out.lt)
   have HS:=And.intro (D3.out.cell 0) (And.intro (D3.out.cell 1) (And.intro (D3.out.cell 2) (D3.out.cell 3)))
   clear hb1
   go_wp2_with fail
   refine hK.out _ _ HS ?_
   clear hK K
   try simp only [Rg.lp]
   refine Rg.tp 3 ⟨some 18,.build 39 #[(0,.tmp 15),(2,.tmp 16),(4,.tmp 17)],_,_,_,none⟩ (v:=?_) rfl ?_ ?_
   rotate_left 1
   · (intro w;(try(have hbl:=HBL.out));(have hsz:(row 12 roll0).size=12:=row_size _ _);go_simp;(try with_reducible rfl))
   try simp only [Rg.lp]
   refine Rg.stp_o 5 ?_
   refine Rg.stepF ?_ ?_
   · kernel_rfl
   intro K hK
   rw [if_pos (by rfl)]
   refine wp_store_row 39 _ _ rfl (w.heap.size+1+1) (row 74 (nodeK id t0 t1 t2 t3 0)) rfl rfl 39 Tryz.zeroCells39 D6.out (by rw [row_size];kernel_rfl) (by rw [zero_node,row_size,row_size]) (row_one fun i _=>nodeK_one _ _ _ _ _ _ i) ?_
   refine hK.out _ _ ?_
   clear hK K
   try simp only [Rg.lp]
   refine Rg.doneR (by kernel_rfl) ?_ _
   refine NoPanic.normal ?_
   have hg:w.heap.size+1<(w.heap.size+1+1):=by omega
   have G1:=Lib.hid (D6.out.setRow (row 74 (nodeK id t0 t1 t2 t3 0)))
   have G2:=Lib.hid (D4.out.setRow_other (g':=(w.heap.size+1+1)) (by omega) (row 74 (nodeK id t0 t1 t2 t3 0)))
   have G3:=Lib.hid (below_setRow HB.out (show w.heap.size≤(w.heap.size+1+1)by omega) (row 74 (nodeK id t0 t1 t2 t3 0)))
   clear HS D3 D4 D6 HB
   go_wp2_with fail
   go_meet
   exact⟨_,rfl,hg,G1.out,G2.out,G3.out⟩
 case rest=>
  obtain⟨g,rfl,hg,bg,br,hb⟩:=hcut
  go_wp2_with fail
  go_loopw [19] (fun i wr=>∃k:Nat,k≤3∧i=.int .i64 k∧Blk wr g 39 (row 74 (nodeK id t0 t1 t2 t3 k))∧Blk wr (w.heap.size+1) 39 (row 74 node0)∧Below w.heap.size w wr) (fun i _=>3-(intOf i).toNat)
  case atStart=>exact⟨0,by omega,rfl,bg,br,hb⟩
  case round=>
   clear bg br hb
   obtain⟨k,hk,rfl,bg,br,hb⟩:=hrel
   have HG:=Lib.hid bg
   have HR:=Lib.hid br
   have HB:=Lib.hid hb
   clear bg br hb
   by_cases hlt:k<3
   ·
    go_wp2_with fail
    refine(begin_any _).mono ?_
    rintro e w1 ⟨rfl,hb1⟩
    have HG1:=Lib.hid (HG.out.below hb1 HG.out.lt)
    have HR1:=Lib.hid (HR.out.below hb1 HR.out.lt)
    have HB1:=Lib.hid (onward HB.out (Nat.le_refl _) hb1)
    have hth:=row_there HG1.out (6+k*7) 7 (by omega)
    clear hb1
    have hi7:(Tryz.prog.info? 27).map (·.size)=some (row 7 state0).size:=by rw [row_size];kernel_rfl
    have hth:w1.there g (6+k*7) (row 7 state0).size:=by rw [row_size];exact hth
    have h17:(row 7 state0).all (·.oneCell')=true:=row_one fun i _=>state0_one i
    obtain⟨R,hRR⟩:∃R,row 7 state0=R:=⟨_,rfl⟩
    have HRR:=Lib.hid hRR
    rw [hRR]at hi7 hth h17 ⊢
    clear hRR
    go_wp2_with(refine wpList_wanted rfl (fun K hK=>?_);refine wp_store_mid 27 _ _ rfl g (6+k*7) R rfl rfl hth hi7 h17 (hK _ _ ?_))
    rw [←HRR.out]
    refine⟨⟨k+1,by omega,by go_num,?_,blk_mid_other (w:=w1) (by omega) _ _ _ HR1.out,below_setCells (by omega) _ _ HB1.out⟩,by simp [intOf];omega⟩
    have:=blk_mid HG1.out (6+k*7) 7 state0
    rw [row_congr (fun i _=>nodeK_succ id t0 t1 t2 t3 k hlt i)]at this
    exact this
   ·
    obtain rfl:k=3:=by omega
    clear hlt
    have hi74:(Tryz.prog.info? 39).map (·.size)=some (row 74 (nodeK id t0 t1 t2 t3 3)).size:=by rw [row_size];kernel_rfl
    have h174:(row 74 (nodeK id t0 t1 t2 t3 3)).all (·.oneCell')=true:=row_one fun i _=>nodeK_one _ _ _ _ _ _ i
    have hs74:(row 74 node0).size=(row 74 (nodeK id t0 t1 t2 t3 3)).size:=by rw [row_size,row_size]
    obtain⟨R,hRR⟩:∃R,row 74 (nodeK id t0 t1 t2 t3 3)=R:=⟨_,rfl⟩
    have HRR:=Lib.hid hRR
    rw [hRR]at HG hi74 h174 hs74
    clear hRR
    go_wp2_with(first
     |(refine wpList_whole rfl 39 _ rfl g rfl HG.out _ Tryz.underlying39 rfl hi74 ?_)
     |(refine wpList_store_row rfl 39 _ _ rfl (w.heap.size+1) R rfl rfl 39 _ HR.out hi74 hs74 h174 ?_))
    exact ret_row2 rfl rfl rfl (HR.out.setRow R) ⟨by rw [Tryz.underlying39],hi74⟩ rfl ⟨by rw [HRR.out];rfl,below_setRow HB.out (by omega) _⟩
end Nd
namespace Nd
open Go.RowKit Mem Rws Flat
theorem elemBools:Elem Tryz.prog 35 4 (.bool false) 1 1:=⟨Tryz.underlying35,by kernel_rfl,rfl,by omega⟩
theorem one_of {f:Nat→Value} (h:∀i,i<73→okT (nodeT i) (f i)) {A:Option Addr} {n c:Nat}:(row 74 (nodeW f (.slice A n c))).all (·.oneCell')=true:=row_one fun i hi=>by
 unfold nodeW
 split
 · rfl
 ·
  have:=h i (by omega)
  unfold okT at this
  split at this
  · obtain⟨_,h⟩:=this;rw [h];rfl
  · obtain⟨_,h⟩:=this;rw [h];rfl
theorem row_last (f:Nat→Value) (S S':Value):(row 74 (nodeW f S)).setIfInBounds 73 S'=row 74 (nodeW f S'):=by
 rw [row_set]
 refine row_congr fun i _=>?_
 unfold nodeW
 by_cases h:i=73
 · rw [if_pos h,if_pos h]
 · rw [if_neg h,if_neg h,if_neg h]
def OwnNode (w w':World) (f:Nat→Value) (bs:List Bool) (e:Ending):Prop:=
 ∃A c,e=.returned (.agg (row 74 (nodeW f (.slice A bs.length c))))∧w'.ownsRow w.heap.size 4 1 (.slice A bs.length c) bs.length (boolsV bs)∧Below w.heap.size w w'
set_option maxRecDepth 100000 in
set_option maxHeartbeats 1000000 in
theorem copied_any (f:Nat→Value) (hf:∀i,i<73→okT (nodeT i) (f i)) (A:Option Addr) (c:Nat) (bs:List Bool) (B:Nat) (w:World) (hB:B≤w.heap.size) (hA:A=none→c=0) (hnc:bs.length≤c) (hl:bs.length≤140737488351232) (hr:Rd w B 1 A bs.length (boolsV bs)):
  Calls Tryz.prog 30 #[.agg (row 74 (nodeW f (.slice A bs.length c)))] w fun e w'=>OwnNode w w' f bs e:=by
 have hone:∀(A:Option Addr) (n c:Nat),(row 74 (nodeW f (.slice A n c))).all (·.oneCell')=true:=fun A n c=>one_of hf
 have HO:=Lib.hid hone
 have HF:=Lib.hid hf
 clear hf hone
 go_enter Tryz.func30,Tryz.ntmps30
 go_upto_region 1 with fail
 have D1:Hid (Blk ((w.alloc (.cells (row 74 (nodeW f (.slice A bs.length c))) 39)).alloc (.cells Tryz.zeroCells39 39)) w.heap.size 39 (row 74 (nodeW f (.slice A bs.length c)))):=Lib.hid ((Blk.new rfl).alloc _)
 have D2:Hid (Blk ((w.alloc (.cells (row 74 (nodeW f (.slice A bs.length c))) 39)).alloc (.cells Tryz.zeroCells39 39)) (w.heap.size+1) 39 Tryz.zeroCells39):=Lib.hid (Blk.new (by simp))
 have HB:=Lib.hid (((Below.refl w.heap.size w).alloc (Nat.le_refl _) (.cells (row 74 (nodeW f (.slice A bs.length c))) 39)).alloc (by simp) (.cells Tryz.zeroCells39 39))
 have HR:=Lib.hid ((hr.alloc hB (.cells (row 74 (nodeW f (.slice A bs.length c))) 39)).alloc (by simp;omega) (.cells Tryz.zeroCells39 39))
 clear hr
 generalize((w.alloc (.cells (row 74 (nodeW f (.slice A bs.length c))) 39)).alloc (.cells Tryz.zeroCells39 39))=W at*
 have hsz:w.heap.size+1<W.heap.size:=D2.out.lt
 have x73: W.cell? ⟨w.heap.size,73,none⟩=some (.slice A bs.length c):=by rw [D1.out.cell,row_at (by omega)];rfl
 have f73:=D1.out.thaw 73
 go_upto_region 2 with(at_builtin;refine wpList_append_rd _ rfl (.const (.slice none 0 0)) (.tmp 5) 35 rfl (base:=W.heap.size) elemBools rfl (World.ownsRow_nil _ _ _ _) rfl (fun h=>⟨by have:=hA h;omega,hA h⟩) HR.out (boolsV_one bs) (by unfold maxLen;omega) (by omega) (Nat.le_refl _) ?_;intro A' c' w1 hA' hown hg;(try simp only [List.nil_append,Nat.zero_add]at hown);have E1:=Lib.hid (D1.out.grown hg (by simp [Value.ownBlock,Act.eval]));have E2:=Lib.hid (D2.out.grown hg (by simp [Value.ownBlock,Act.eval]));have HB1:=Lib.hid (HB.out.grown hg HB.out.size (by intro g e;cases e));have y73: w1.cell? ⟨w.heap.size,73,none⟩=some (.slice A bs.length c):=(by rw [E1.out.cell,row_at (by omega)];rfl);have g73:=E1.out.thaw 73;have HW:=Lib.hid hown;clear x73 f73 hown hg hA';have F1:=Lib.hid (E1.out.set 73 (.slice A' bs.length c'));rw [row_last]at F1;have F2:=Lib.hid (E2.out.other (p:=⟨w.heap.size,73,none⟩) (by show w.heap.size+1≠w.heap.size;omega) (.slice A' bs.length c'));have hi74:(Tryz.prog.info? 39).map (·.size)=some (row 74 (nodeW f (.slice A' bs.length c'))).size:=(by rw [row_size];kernel_rfl);have hz:(Tryz.zeroCells39).size=(row 74 (nodeW f (.slice A' bs.length c'))).size:=(by rw [row_size];kernel_rfl);have h174:=HO.out A' bs.length c';obtain⟨R,hRR⟩:∃R,row 74 (nodeW f (.slice A' bs.length c'))=R:=⟨_,rfl⟩;have HRR:=Lib.hid hRR;rw [hRR]at F1 hi74 hz h174;clear hRR)
 go_wp2_with(first
  |(refine wpList_whole rfl 39 _ rfl w.heap.size rfl F1.out _ Tryz.underlying39 rfl hi74 ?_)
  |(refine wpList_store_row rfl 39 _ _ rfl (w.heap.size+1) R rfl rfl 39 _ F2.out hi74 hz h174 ?_))
 refine ret_row rfl rfl (F2.out.setRow R) Tryz.underlying39 rfl hi74 rfl ⟨A',c',by rw [HRR.out],?_,?_⟩
 · exact own_weaken (own_setRow (ownsRow_setCell_below HW.out (by show w.heap.size<W.heap.size;omega) _) (by omega) R) (by omega)
 · exact below_setRow (HB1.out.setCell (by show w.heap.size≤w.heap.size;omega) _) (by omega) R
def badId (id:Int):Bool:=decide (id<0)||decide (4≤id)
set_option maxRecDepth 100000 in
set_option maxHeartbeats 400000 in
theorem strange_any (R:Array Value) (id:Int) (h0:R[0]?=some (.int .i64 id)) (w:World):
  Calls Tryz.prog 31 #[.agg R] w fun e w'=>e=.returned (.bool (badId id))∧Below w.heap.size w w':=by
 have x0:(w.alloc (.cells R 39)).cell? ⟨w.heap.size,0,none⟩=some (.int .i64 id):=by rw [(Blk.new (g:=w.heap.size) rfl).cell,h0]
 by_cases h1:id<0
 ·
  have HE:=Lib.hid (show badId id=true by simp [badId,h1])
  go_enter Tryz.func31,Tryz.ntmps31
  go_wp2_with fail
  go_ret
  exact⟨by rw [HE.out];rfl,(Below.refl _ _).alloc (Nat.le_refl _) _⟩
 ·
  by_cases h2:4≤id
  ·
   have HE:=Lib.hid (show badId id=true by simp [badId,h2])
   have h3:3<id:=by omega
   go_enter Tryz.func31,Tryz.ntmps31
   go_wp2_with fail
   go_ret
   exact⟨by rw [HE.out];rfl,(Below.refl _ _).alloc (Nat.le_refl _) _⟩
  ·
   have HE:=Lib.hid (show badId id=false by simp [badId,h1,h2])
   have h3:¬3<id:=by omega
   go_enter Tryz.func31,Tryz.ntmps31
   go_wp2_with fail
   go_ret
   exact⟨by rw [HE.out];(first|rfl|simp [h1,h2,h3]),(Below.refl _ _).alloc (Nat.le_refl _) _⟩
set_option maxRecDepth 100000 in
set_option maxHeartbeats 400000 in
theorem say_any (R:Array Value) (id fr kind:Int) (A:Option Addr) (l c:Nat) (h0:R[0]?=some (.int .i64 id)) (h1:R[1]?=some (.int .i64 fr)) (w:World):
  Calls Tryz.prog 32 #[.agg R,.int .i64 kind,.slice A l c] w fun e w'=>e=.returned (Ms.msgV kind id fr A l c)∧Below w.heap.size w w':=by
 have x0:(w.alloc (.cells R 39)).cell? ⟨w.heap.size,0,none⟩=some (.int .i64 id):=by rw [(Blk.new (g:=w.heap.size) rfl).cell,h0]
 have x1:(w.alloc (.cells R 39)).cell? ⟨w.heap.size,1,none⟩=some (.int .i64 fr):=by rw [(Blk.new (g:=w.heap.size) rfl).cell,h1]
 have y0:=(World.cell?_alloc_lt (w.alloc (.cells R 39)) (.cells #[.int .i64 0,.int .i64 0,.int .i64 0,.slice none 0 0] 72) ⟨w.heap.size,0,none⟩ (by simp)).trans x0
 have y1:=(World.cell?_alloc_lt (w.alloc (.cells R 39)) (.cells #[.int .i64 0,.int .i64 0,.int .i64 0,.slice none 0 0] 72) ⟨w.heap.size,1,none⟩ (by simp)).trans x1
 unfold Ms.msgV
 go_enter Tryz.func32,Tryz.ntmps32
 go_wp2_with fail
 exact ret_row rfl rfl (Blk.new (by simp)) Tryz.underlying72 rfl (by kernel_rfl) rfl ⟨rfl,((Below.refl _ _).alloc (Nat.le_refl _) _).alloc (by simp) _⟩
end Nd
namespace Nd
open Go.RowKit Mem Rws Flat
def NodeMsg (w w':World) (f:Nat→Value) (bs:List Bool) (k i fr:Int) (zs:List Int) (e:Ending):Prop:=
 ∃A c A2 c2,e=.returned (.tuple #[.agg (row 74 (nodeW f (.slice A bs.length c))),Ms.msgV k i fr A2 zs.length c2])∧Rd w' w'.heap.size 1 A bs.length (boolsV bs)∧Rd w' w'.heap.size 1 A2 zs.length (Ms.intsV zs)∧Below w.heap.size w w'∧(∀a,A=some a→w.heap.size≤a.block)∧(∀a,A2=some a→w.heap.size≤a.block)∧(A=none→c=0)∧bs.length≤c
def rd3 (r0 r1 r2:Int) (j:Nat):Value:=if j=0 then .int .i64 r0 else if j=1 then .int .i64 r1 else .int .i64 r2
def lit12:Array Value:=#[.int .i64 0,.int .i64 0,.int .i64 0,.int .i64 0,.int .i64 0,.int .i64 0,.int .i64 0,.int .i64 0,.int .i64 0,.int .i64 0,.int .i64 0,.int .i64 0]
def lit4:Array Value:=#[.int .i64 0,.int .i64 0,.int .i64 0,.int .i64 0]
def lit3 (r0 r1 r2:Int):Array Value:=#[.int .i64 r0,.int .i64 r1,.int .i64 r2]
def zero (j:Nat):Value:=.int .i64 0
def senseF (f:Nat→Value) (fr:Int) (k:Nat) (r0 r1 r2:Int):Nat→Value:=
 over (39+k*3) 3 (rd3 r0 r1 r2) (over 51 4 zero (over 39 12 zero (fun i=>if i=1 then .int .i64 fr else f i)))
theorem lit12_row:lit12=row 12 zero:=rfl
theorem lit4_row:lit4=row 4 zero:=rfl
theorem lit3_row (r0 r1 r2:Int):lit3 r0 r1 r2=row 3 (rd3 r0 r1 r2):=rfl
theorem blk_lit {w:World} {b:Nat} {t:TypeId} {n m:Nat} {f g:Nat→Value} {L:Array Value} (hL:L=row m g) (h:Blk w b t (row n f)) (o:Nat):Blk (w.setCells b o L.toList) b t (row n (over o m g f)):=by subst hL;exact blk_mid h o m g
theorem own_setCells {base:Nat} {e:TypeId} {size:Nat} {v:Value} {n:Nat} {xs:List Value} {g:Nat} (hg:g<base):∀(vs:List Value) (o:Nat) {w:World},w.ownsRow base e size v n xs→(w.setCells g o vs).ownsRow base e size v n xs
 |[],_,_,h=>h
 |u::r,o,w,h=>by
  rw [World.setCells]
  exact own_setCells hg r (o+1) (ownsRow_setCell_below h (a:=⟨g,o,none⟩) hg u)
theorem rd_of_blk {w:World} {g:Nat} {t:TypeId} {cs:Array Value} (h:Blk w g t cs):Rd w (g+1) 1 (some ⟨g,0,none⟩) cs.size cs.toList:=
 ⟨by simp,fun _=>⟨g,0,rfl,by omega,fun j u hu=>by rw [Nat.zero_add,h.cell];simpa using hu⟩⟩
theorem exec_load_row {P:Program} {op:Oper} {a:Act} {w:World} (ty:TypeId) (x:Operand) (ho:op.op=.load ty x) (b:Nat) (hx:a.eval x=.pointer (some ⟨b,0,none⟩)) {t:TypeId} {cs:Array Value} (h:Blk w b t cs)
  {d:TypeDesc} (hu:P.underlying ty=some d) (hd:(match d with| .struct _| .array _ _=>true|_=>false)=true) (hi:(P.info? ty).map (·.size)=some cs.size):(execOp a.eval op).run P w=.ok (.value (.agg cs)) w:=by
 unfold execOp
 simp only [ho,hx,Instr.loadAt,Instr.sureAddr,Sem.run_bind,Sem.run_pure,Result.andThen_ok,run_loadVar_row w b t ty cs _ d h hu hd hi]
theorem sense0 (f:Nat→Value) (fr:Int) (k:Nat) (hk:k<4) (r0 r1 r2:Int):senseF f fr k r0 r1 r2 0=f 0:=by
 unfold senseF
 rw [over_out (by omega),over_out (by omega),over_out (by omega),if_neg (by omega)]
theorem sense1 (f:Nat→Value) (fr:Int) (k:Nat) (hk:k<4) (r0 r1 r2:Int):senseF f fr k r0 r1 r2 1=.int .i64 fr:=by
 unfold senseF
 rw [over_out (by omega),over_out (by omega),over_out (by omega),if_pos rfl]
theorem sense_row (f:Nat→Value) (fr:Int) (k:Nat) (hk:k<4) (r0 r1 r2:Int) (S:Value):
  row 74 (over (39+k*3) 3 (rd3 r0 r1 r2) (over 51 4 zero (over 39 12 zero (fun i=>if i=1 then .int .i64 fr else nodeW f S i))))=row 74 (nodeW (senseF f fr k r0 r1 r2) S):=
 row_congr fun i hi=>by
  by_cases h:i=73
  ·
   subst h
   rw [over_out (by omega),over_out (by omega),over_out (by omega),if_neg (by omega)]
   rfl
  ·
   unfold nodeW senseF
   rw [if_neg h]
   unfold over
   simp only [if_neg h]
theorem ok_sense {f:Nat→Value} (hf:∀i,i<73→okT (nodeT i) (f i)) (fr:Int) (k:Nat) (hk:k<4) (r0 r1 r2:Int):∀i,i<73→okT (nodeT i) (senseF f fr k r0 r1 r2 i):=fun i hi=>by
 unfold senseF
 by_cases h1:39≤i∧i<55
 ·
  have e:nodeT i=true:=by
   obtain⟨a,b⟩:=h1
   unfold nodeT
   simp
   omega
  rw [e]
  unfold over
  split
  ·
   unfold rd3;split
   · exact⟨_,rfl⟩
   · split<;>exact⟨_,rfl⟩
  ·
   split
   · exact⟨_,rfl⟩
   ·
    split
    · exact⟨_,rfl⟩
    · omega
 ·
  rw [over_out (by omega),over_out (by omega),over_out (by omega)]
  by_cases h2:i=1
  · subst h2;rw [if_pos rfl];exact⟨_,rfl⟩
  · rw [if_neg h2];exact hf i hi
set_option maxRecDepth 100000 in
set_option maxHeartbeats 2000000 in
theorem sense_any (f:Nat→Value) (hf:∀i,i<73→okT (nodeT i) (f i)) (k:Nat) (hk:k<4) (hid:f 0=.int .i64 (k:Int)) (fr r0 r1 r2:Int) (A:Option Addr) (c:Nat) (bs:List Bool) (B:Nat) (w:World) (hB:B≤w.heap.size) (hA:A=none→c=0) (hnc:bs.length≤c) (hl:bs.length≤140737488351232) (hr:Rd w B 1 A bs.length (boolsV bs)):
  Calls Tryz.prog 15 #[.agg (row 74 (nodeW f (.slice A bs.length c))),.int .i64 fr,.agg #[.int .i64 r0,.int .i64 r1,.int .i64 r2]] w fun e w'=>NodeMsg w w' (senseF f fr k r0 r1 r2) bs 1 (k:Int) fr [r0,r1,r2] e:=by
 obtain⟨ifr,hfr⟩:=hf 1 (by omega)
 have hone:∀(A:Option Addr) (n c:Nat),(row 74 (nodeW f (.slice A n c))).all (·.oneCell')=true:=fun A n c=>one_of hf
 have HSF:=Lib.hid (ok_sense hf fr k hk r0 r1 r2)
 have HS0:=Lib.hid ((sense0 f fr k hk r0 r1 r2).trans hid)
 have HS1:=Lib.hid (sense1 f fr k hk r0 r1 r2)
 have HO:=Lib.hid hone
 have HF:=Lib.hid hf
 have HID:=Lib.hid hid
 have HFR:=Lib.hid hfr
 clear hf hone hid hfr
 go_enter Tryz.func15,Tryz.ntmps15
 go_upto_region 1 with fail
 have D3:Hid (Blk ((((w.alloc (.cells (row 74 (nodeW f (.slice A bs.length c))) 39)).alloc (.cells #[.int .i64 r0,.int .i64 r1,.int .i64 r2] 33)).alloc (.cells Tryz.zeroCells39 39)).alloc (.cells #[.int .i64 0,.int .i64 0,.int .i64 0,.slice none 0 0] 72)) w.heap.size 39 (row 74 (nodeW f (.slice A bs.length c)))):=Lib.hid ((((Blk.new rfl).alloc _).alloc _).alloc _)
 have D5:Hid (Blk ((((w.alloc (.cells (row 74 (nodeW f (.slice A bs.length c))) 39)).alloc (.cells #[.int .i64 r0,.int .i64 r1,.int .i64 r2] 33)).alloc (.cells Tryz.zeroCells39 39)).alloc (.cells #[.int .i64 0,.int .i64 0,.int .i64 0,.slice none 0 0] 72)) (w.heap.size+1) 33 #[.int .i64 r0,.int .i64 r1,.int .i64 r2]):=Lib.hid (((Blk.new (by simp)).alloc _).alloc _)
 have D6:Hid (Blk ((((w.alloc (.cells (row 74 (nodeW f (.slice A bs.length c))) 39)).alloc (.cells #[.int .i64 r0,.int .i64 r1,.int .i64 r2] 33)).alloc (.cells Tryz.zeroCells39 39)).alloc (.cells #[.int .i64 0,.int .i64 0,.int .i64 0,.slice none 0 0] 72)) (w.heap.size+1+1) 39 Tryz.zeroCells39):=Lib.hid ((Blk.new (by simp)).alloc _)
 have D7:Hid (Blk ((((w.alloc (.cells (row 74 (nodeW f (.slice A bs.length c))) 39)).alloc (.cells #[.int .i64 r0,.int .i64 r1,.int .i64 r2] 33)).alloc (.cells Tryz.zeroCells39 39)).alloc (.cells #[.int .i64 0,.int .i64 0,.int .i64 0,.slice none 0 0] 72)) (w.heap.size+1+1+1) 72 #[.int .i64 0,.int .i64 0,.int .i64 0,.slice none 0 0]):=Lib.hid (Blk.new (by simp))
 have HB:=Lib.hid ((((((Below.refl w.heap.size w).alloc (Nat.le_refl _) (.cells (row 74 (nodeW f (.slice A bs.length c))) 39)).alloc (by simp) (.cells #[.int .i64 r0,.int .i64 r1,.int .i64 r2] 33)).alloc (by simp;omega) (.cells Tryz.zeroCells39 39)).alloc (by simp;omega) (.cells #[.int .i64 0,.int .i64 0,.int .i64 0,.slice none 0 0] 72)))
 have HR:=Lib.hid hr
 clear hr
 generalize((((w.alloc (.cells (row 74 (nodeW f (.slice A bs.length c))) 39)).alloc (.cells #[.int .i64 r0,.int .i64 r1,.int .i64 r2] 33)).alloc (.cells Tryz.zeroCells39 39)).alloc (.cells #[.int .i64 0,.int .i64 0,.int .i64 0,.slice none 0 0] 72))=W at*
 have hi74:∀A (n:Nat) c,(Tryz.prog.info? 39).map (·.size)=some (row 74 (nodeW f (.slice A n c))).size:=fun A n c=>by rw [row_size];kernel_rfl
 have HI:=Lib.hid hi74
 clear hi74
 have hwz:w.heap.size+1+1+1<W.heap.size:=D7.out.lt
 have hia:=HI.out A bs.length c
 obtain⟨R1,hR1⟩:∃R1,row 74 (nodeW f (.slice A bs.length c))=R1:=⟨_,rfl⟩
 have HR1:=Lib.hid hR1
 rw [hR1]at D3 hia
 clear hR1
 go_wp2_with(refine wpList_whole rfl 39 _ rfl w.heap.size rfl D3.out _ Tryz.underlying39 rfl hia ?_)
 rw [←HR1.out]
 refine(copied_any f HF.out A c bs B _ (Nat.le_trans hB HB.out.size) hA hnc hl (HR.out.below (HB.out.mono hB))).mono ?_
 rintro e w1 ⟨A2,c2,rfl,hown,hb1⟩
 rw [HR1.out]
 have HW1:=Lib.hid hown
 have HB1:=Lib.hid (onward HB.out (Nat.le_refl _) hb1)
 have hsz:=hb1.size
 have hi2:=HI.out A2 bs.length c2
 have h12:=HO.out A2 bs.length c2
 have h20:(row 74 (nodeW f (.slice A2 bs.length c2)))[0]?=some (.int .i64 (k:Int)):=by rw [row_at (by omega)];exact congrArg some HID.out
 have h21:(row 74 (nodeW f (.slice A2 bs.length c2)))[1]?=some (.int .i64 ifr):=by rw [row_at (by omega)];exact congrArg some HFR.out
 have hs2:R1.size=(row 74 (nodeW f (.slice A2 bs.length c2))).size:=by rw [←HR1.out,row_size,row_size]
 obtain⟨R2,hR2⟩:∃R2,row 74 (nodeW f (.slice A2 bs.length c2))=R2:=⟨_,rfl⟩
 have HR2:=Lib.hid hR2
 rw [hR2]at hi2 h12 h20 h21 hs2 ⊢
 clear hR2
 have E3:=Lib.hid (D3.out.below hb1 D3.out.lt)
 have F3:=Lib.hid (E3.out.setRow R2)
 have F5:=Lib.hid ((D5.out.below hb1 D5.out.lt).setRow_other (g':=w.heap.size) (by omega) R2)
 have F6:=Lib.hid ((D6.out.below hb1 D6.out.lt).setRow_other (g':=w.heap.size) (by omega) R2)
 have F7:=Lib.hid ((D7.out.below hb1 D7.out.lt).setRow_other (g':=w.heap.size) (by omega) R2)
 have HB2:=Lib.hid (below_setRow HB1.out (Nat.le_refl _) R2)
 have HW2:=Lib.hid (own_setRow HW1.out (show w.heap.size<W.heap.size by omega) R2)
 have hk0:¬((k:Int)<0):=by omega
 have hbk:badId (k:Int)=false:=by unfold badId;simp;omega
 have cT:=fun w=>strange_any R2 (k:Int) h20 w
 rw [hbk]at cT
 clear hb1 hown hbk
 go_upto_region 4 with(first
  |(refine wpList_store_row rfl 39 _ _ rfl w.heap.size R2 rfl rfl 39 _ E3.out hi2 hs2 h12 ?_)
  |(refine wpList_whole rfl 39 _ rfl w.heap.size rfl F3.out _ Tryz.underlying39 rfl hi2 ?_)
  |(go_at_call 31;refine(cT _).mono ?_;rintro e w3 ⟨rfl,hb3⟩;have G3:=Lib.hid (F3.out.below hb3 F3.out.lt);have G5:=Lib.hid (F5.out.below hb3 F5.out.lt);have G6:=Lib.hid (F6.out.below hb3 F6.out.lt);have G7:=Lib.hid (F7.out.below hb3 F7.out.lt);have HB3:=Lib.hid (onward HB2.out (Nat.le_refl _) hb3);have HW3:=Lib.hid (ownsRow_below HW2.out hb3);clear hb3))
 rw [←HR2.out]at G3
 have H4:=Lib.hid (G3.out.set 1 (.int .i64 fr))
 rw [row_set]at H4
 have x1: w3.cell? ⟨w.heap.size,1,none⟩=some (.int .i64 ifr):=by rw [G3.out.cell,row_at (by omega)];exact congrArg some HFR.out
 have f1:=G3.out.thaw 1
 have H5:=Lib.hid (blk_lit lit12_row H4.out 39)
 have H6:=Lib.hid (blk_lit lit4_row H5.out 51)
 have H7:=Lib.hid (blk_lit (lit3_row r0 r1 r2) H6.out (39+k*3))
 rw [sense_row f fr k hk]at H7
 have y0:(((w3.setCell ⟨w.heap.size,1,none⟩ (.int .i64 fr)).setCells w.heap.size 39 lit12.toList).setCells w.heap.size 51 lit4.toList).cell? ⟨w.heap.size,0,none⟩=some (.int .i64 (k:Int)):=by
  rw [H6.out.cell,row_at (by omega),over_out (by omega),over_out (by omega),if_neg (by omega)];exact congrArg some HID.out
 have A5:=Lib.hid (G5.out.other (p:=⟨w.heap.size,1,none⟩) (by show w.heap.size+1≠w.heap.size;omega) (.int .i64 fr))
 have A5:=Lib.hid (blk_mid_other (w:=w3) (b':=w.heap.size) (by omega) lit12.toList 39 _ A5.out)
 have A5:=Lib.hid (blk_mid_other (w:=w3) (b':=w.heap.size) (by omega) lit4.toList 51 _ A5.out)
 have y1:=A5.out.cell 0
 have y2:=A5.out.cell 1
 have y3:=A5.out.cell 2
 simp only [List.getElem?_toArray,List.getElem?_cons_zero,List.getElem?_cons_succ]at y1 y2 y3
 have HY0:=Lib.hid y0
 have HY1:=Lib.hid y1
 have HY2:=Lib.hid y2
 have HY3:=Lib.hid y3
 clear y0 y1 y2 y3
 have A5:=Lib.hid (blk_mid_other (w:=w3) (b':=w.heap.size) (by omega) (lit3 r0 r1 r2).toList (39+k*3) _ A5.out)
 have A6:=Lib.hid (blk_mid_other (w:=w3) (b':=w.heap.size) (by omega) (lit3 r0 r1 r2).toList (39+k*3) _ (blk_mid_other (w:=w3) (b':=w.heap.size) (by omega) lit4.toList 51 _ (blk_mid_other (w:=w3) (b':=w.heap.size) (by omega) lit12.toList 39 _ (G6.out.other (p:=⟨w.heap.size,1,none⟩) (by show w.heap.size+1+1≠w.heap.size;omega) (.int .i64 fr)))))
 have A7:=Lib.hid (blk_mid_other (w:=w3) (b':=w.heap.size) (by omega) (lit3 r0 r1 r2).toList (39+k*3) _ (blk_mid_other (w:=w3) (b':=w.heap.size) (by omega) lit4.toList 51 _ (blk_mid_other (w:=w3) (b':=w.heap.size) (by omega) lit12.toList 39 _ (G7.out.other (p:=⟨w.heap.size,1,none⟩) (by show w.heap.size+1+1+1≠w.heap.size;omega) (.int .i64 fr)))))
 have HB7:=Lib.hid (below_setCells (Nat.le_refl _) (lit3 r0 r1 r2).toList (39+k*3) (below_setCells (Nat.le_refl _) lit4.toList 51 (below_setCells (Nat.le_refl _) lit12.toList 39 (HB3.out.setCell (p:=⟨w.heap.size,1,none⟩) (Nat.le_refl _) (.int .i64 fr)))))
 have HW7:=Lib.hid (own_setCells (show w.heap.size<W.heap.size by omega) (lit3 r0 r1 r2).toList (39+k*3) (own_setCells (show w.heap.size<W.heap.size by omega) lit4.toList 51 (own_setCells (show w.heap.size<W.heap.size by omega) lit12.toList 39 (ownsRow_setCell_below HW3.out (a:=⟨w.heap.size,1,none⟩) (show w.heap.size<W.heap.size by omega) (.int .i64 fr)))))
 have q5:(w3.setCell ⟨w.heap.size,1,none⟩ (.int .i64 fr)).there w.heap.size 39 lit12.size:=row_there H4.out 39 12 (by omega)
 have Hq5:=Lib.hid q5
 clear q5
 have q6:((w3.setCell ⟨w.heap.size,1,none⟩ (.int .i64 fr)).setCells w.heap.size 39 lit12.toList).there w.heap.size 51 lit4.size:=row_there H5.out 51 4 (by omega)
 have Hq6:=Lib.hid q6
 clear q6
 have q7:(((w3.setCell ⟨w.heap.size,1,none⟩ (.int .i64 fr)).setCells w.heap.size 39 lit12.toList).setCells w.heap.size 51 lit4.toList).there w.heap.size (39+k*3) (lit3 r0 r1 r2).size:=row_there H6.out (39+k*3) 3 (by omega)
 have Hq7:=Lib.hid q7
 clear q7
 have i5:(Tryz.prog.info? 34).map (·.size)=some lit12.size:=by kernel_rfl
 have Hi5:=Lib.hid i5
 clear i5
 have i6:(Tryz.prog.info? 30).map (·.size)=some lit4.size:=by kernel_rfl
 have Hi6:=Lib.hid i6
 clear i6
 have i7:(Tryz.prog.info? 33).map (·.size)=some (lit3 r0 r1 r2).size:=by kernel_rfl
 have Hi7:=Lib.hid i7
 clear i7
 have o5:lit12.all (·.oneCell')=true:=by simp [lit12,Value.oneCell']
 have Ho5:=Lib.hid o5
 clear o5
 have o6:lit4.all (·.oneCell')=true:=by simp [lit4,Value.oneCell']
 have Ho6:=Lib.hid o6
 clear o6
 have o7:(lit3 r0 r1 r2).all (·.oneCell')=true:=by simp [lit3,Value.oneCell']
 have Ho7:=Lib.hid o7
 clear o7
 clear HB HB1 HB2 HB3 HW1 HW2 HW3 D3 D5 D6 D7 E3 F3 F5 F6 F7 G5 G6 G7 cT h20 h21 h12 hi2 hs2
 go_upto_region 5 with fail
 refine wp_region_list ?_
 refine wpList_plain rfl (fun K hK=>?_)
 go_simp
 refine hK _ _ ?_
 clear hK K
 try simp only [Rg.lp]
 refine wpList_plain rfl (fun K hK=>?_)
 go_simp
 refine hK _ _ ?_
 clear hK K
 try simp only [Rg.lp]
 refine wpList_plain rfl (fun K hK=>?_)
 refine wp_store_mid 34 (.tmp 17) (.tmp 16) rfl w.heap.size 39 lit12 rfl rfl Hq5.out Hi5.out Ho5.out (hK _ _ ?_)
 clear hK K
 try simp only [Rg.lp]
 clear x1 f1
 generalize((w3.setCell ⟨w.heap.size,1,none⟩ (.int .i64 fr)).setCells w.heap.size 39 lit12.toList)=W5 at*
 go_upto_region 6 with fail
 refine wp_region_list ?_
 refine wpList_plain rfl (fun K hK=>?_)
 go_simp
 refine hK _ _ ?_
 clear hK K
 try simp only [Rg.lp]
 refine wpList_plain rfl (fun K hK=>?_)
 go_simp
 refine hK _ _ ?_
 clear hK K
 try simp only [Rg.lp]
 refine wpList_plain rfl (fun K hK=>?_)
 refine wp_store_mid 30 (.tmp 19) (.tmp 18) rfl w.heap.size 51 lit4 rfl rfl Hq6.out Hi6.out Ho6.out (hK _ _ ?_)
 clear hK K
 try simp only [Rg.lp]
 go_upto_region 7 with fail
 generalize(W5.setCells w.heap.size 51 lit4.toList)=W6 at*
 have y0:=HY0.out
 have y1:=HY1.out
 have y2:=HY2.out
 have y3:=HY3.out
 have hk4:(k:Int)<4:=by omega
 have hk5:(0:Int)≤(k:Int):=by omega
 refine wp_region_list ?_
 refine wpList_plain rfl (fun K hK=>?_)
 go_simp
 refine hK _ _ ?_
 clear hK K
 try simp only [Rg.lp]
 refine wpList_plain rfl (fun K hK=>?_)
 go_simp
 refine hK _ _ ?_
 clear hK K
 try simp only [Rg.lp]
 refine wpList_plain rfl (fun K hK=>?_)
 go_simp
 refine hK _ _ ?_
 clear hK K
 try simp only [Rg.lp]
 refine wpList_plain rfl (fun K hK=>?_)
 go_simp
 refine hK _ _ ?_
 clear hK K
 try simp only [Rg.lp]
 refine wpList_plain rfl (fun K hK=>?_)
 go_simp
 refine hK _ _ ?_
 clear hK K
 try simp only [Rg.lp]
 refine wpList_plain rfl (fun K hK=>?_)
 refine wp_store_mid 33 (.tmp 24) (.tmp 22) rfl w.heap.size (39+k*3) (lit3 r0 r1 r2) rfl rfl Hq7.out Hi7.out Ho7.out (hK _ _ ?_)
 clear hK K
 try simp only [Rg.lp]
 clear y0 y1 y2 y3
 go_upto_region 8 with fail
 generalize(W6.setCells w.heap.size (39+k*3) (lit3 r0 r1 r2).toList)=W7 at*
 have i3:=HI.out A2 bs.length c2
 have sF:=HSF.out
 have s3:=fun(A:Option Addr) (n c:Nat)=>(one_of sF:(row 74 (nodeW (senseF f fr k r0 r1 r2) (.slice A n c))).all (·.oneCell')=true)
 have o3:=s3 A2 bs.length c2
 have z3:(Tryz.zeroCells39).size=(row 74 (nodeW (senseF f fr k r0 r1 r2) (.slice A2 bs.length c2))).size:=by rw [row_size];kernel_rfl
 have j0:(row 74 (nodeW (senseF f fr k r0 r1 r2) (.slice A2 bs.length c2)))[0]?=some (.int .i64 (k:Int)):=by rw [row_at (by omega)];exact congrArg some HS0.out
 have j1:(row 74 (nodeW (senseF f fr k r0 r1 r2) (.slice A2 bs.length c2)))[1]?=some (.int .i64 fr):=by rw [row_at (by omega)];exact congrArg some HS1.out
 have i3:(Tryz.prog.info? 39).map (·.size)=some (row 74 (nodeW (senseF f fr k r0 r1 r2) (.slice A2 bs.length c2))).size:=by rw [row_size];kernel_rfl
 obtain⟨R3,hR3⟩:∃R3,row 74 (nodeW (senseF f fr k r0 r1 r2) (.slice A2 bs.length c2))=R3:=⟨_,rfl⟩
 have HR3:=Lib.hid hR3
 rw [hR3]at H7 o3 z3 j0 j1 i3
 clear hR3 sF s3
 have cY:=fun u=>say_any R3 (k:Int) fr 1 (some ⟨w.heap.size+1,0,none⟩) 3 3 j0 j1 u
 refine wp_region_noPanic ?_
 have hHS:Blk W7.drew w.heap.size 39 R3:=H7.out.drew
 have H7:=Lib.hid H7.out.drew
 have A5:=Lib.hid A5.out.drew
 have A6:=Lib.hid A6.out.drew
 have A7:=Lib.hid A7.out.drew
 have HB7:=Lib.hid HB7.out.drew
 have HW7:=Lib.hid (ownsRow_below HW7.out ((Below.refl W7.heap.size W7).drew))
 have HS:=hHS
 clear hHS
 refine Rg.beginR [0,1] (fun w'=>Blk w' w.heap.size 39 R3) (by kernel_rfl) ?_
 refine Rg.stp_s 0 (.agg R3) HS (hy:=?_) (h:=?_)
 · (intro w' hSw;exact exec_load_row 39 _ rfl _ rfl hSw Tryz.underlying39 rfl i3)
 try simp only [Rg.lp]
 refine Rg.stp_s 1 (.agg R3) HS (hy:=?_) (h:=?_)
 · (intro w' hSw;exact exec_load_row 39 _ rfl _ rfl hSw Tryz.underlying39 rfl i3)
 try simp only [Rg.lp]
 refine Rg.tp 2 ⟨some 27,.slice 33 (.tmp 5) none none none,_,_,_,none⟩ (v:=?_) rfl ?_ ?_
 rotate_left 1
 · (intro w;go_simp;(try with_reducible rfl))
 try simp only [Rg.lp]
 refine Rg.stp_o 3 ?_
 refine Rg.stepS ?_
 intro K hK
 rw [if_pos (by rfl)]
 go_simp
 go_at_call 32
 refine(cY _).mono ?_
 rintro e w8 ⟨rfl,hb8⟩
 have H8:=Lib.hid (H7.out.below hb8 H7.out.lt)
 have HS:=H8.out
 have A5:=Lib.hid (A5.out.below hb8 A5.out.lt)
 have A6:=Lib.hid (A6.out.below hb8 A6.out.lt)
 have A7:=Lib.hid (A7.out.below hb8 A7.out.lt)
 have HB8:=Lib.hid (onward HB7.out (Nat.le_refl _) hb8)
 have HW8:=Lib.hid (ownsRow_below HW7.out hb8)
 clear hb8
 go_wp2_with fail
 refine hK.out _ _ HS ?_
 clear hK K
 try simp only [Rg.lp]
 refine Rg.stp_o 4 ?_
 refine Rg.stepF ?_ ?_
 · kernel_rfl
 intro K hK
 rw [if_pos (by rfl)]
 refine wp_store_row 39 _ _ rfl (w.heap.size+1+1) R3 rfl rfl 39 _ A6.out i3 z3 o3 ?_
 have A5:=Lib.hid (A5.out.setRow_other (g':=w.heap.size+1+1) (by omega) R3)
 have A6:=Lib.hid (A6.out.setRow R3)
 have A7:=Lib.hid (A7.out.setRow_other (g':=w.heap.size+1+1) (by omega) R3)
 have HB8:=Lib.hid (below_setRow HB8.out (show w.heap.size≤w.heap.size+1+1 by omega) R3)
 have HW8:=Lib.hid (own_setRow HW8.out (show w.heap.size+1+1<W.heap.size by omega) R3)
 generalize(w8.setRow (w.heap.size+1+1) R3)=W8 at*
 refine hK.out _ _ ?_
 clear hK K
 try simp only [Rg.lp]
 refine Rg.stp_o 5 ?_
 refine Rg.stepF ?_ ?_
 · kernel_rfl
 intro K hK
 rw [if_pos (by rfl)]
 refine wp_store_row 72 _ _ rfl (w.heap.size+1+1+1) (Ms.msgC 1 (k:Int) fr (some ⟨w.heap.size+1,0,none⟩) 3 3) rfl rfl 72 _ A7.out (by kernel_rfl) rfl (by simp [Ms.msgC,Value.oneCell']) ?_
 have A5:=Lib.hid (A5.out.setRow_other (g':=w.heap.size+1+1+1) (by omega) (Ms.msgC 1 (k:Int) fr (some ⟨w.heap.size+1,0,none⟩) 3 3))
 have A6:=Lib.hid (A6.out.setRow_other (g':=w.heap.size+1+1+1) (by omega) (Ms.msgC 1 (k:Int) fr (some ⟨w.heap.size+1,0,none⟩) 3 3))
 have A7:=Lib.hid (A7.out.setRow (Ms.msgC 1 (k:Int) fr (some ⟨w.heap.size+1,0,none⟩) 3 3))
 have HB8:=Lib.hid (below_setRow HB8.out (show w.heap.size≤w.heap.size+1+1+1 by omega) (Ms.msgC 1 (k:Int) fr (some ⟨w.heap.size+1,0,none⟩) 3 3))
 have HW8:=Lib.hid (own_setRow HW8.out (show w.heap.size+1+1+1<W.heap.size by omega) (Ms.msgC 1 (k:Int) fr (some ⟨w.heap.size+1,0,none⟩) 3 3))
 generalize(W8.setRow (w.heap.size+1+1+1) (Ms.msgC 1 (k:Int) fr (some ⟨w.heap.size+1,0,none⟩) 3 3))=W9 at*
 refine hK.out _ _ ?_
 clear hK K
 try simp only [Rg.lp]
 refine Rg.doneR (by kernel_rfl) ?_ _
 refine NoPanic.normal ?_
 clear H7 H8 HS HB7 HW7
 go_wp2_with fail
 have hi4:(Tryz.prog.info? 72).map (·.size)=some (Ms.msgC 1 (k:Int) fr (some ⟨w.heap.size+1,0,none⟩) 3 3).size:=by kernel_rfl
 refine ret_rows2 rfl rfl rfl A6.out ⟨by rw [Tryz.underlying39],i3⟩ A7.out ⟨by rw [Tryz.underlying72],hi4⟩ rfl ⟨A2,c2,some ⟨w.heap.size+1,0,none⟩,3,by rw [HR3.out];rfl,Rd.of_own HW8.out,(rd_of_blk A5.out).more (by have:=A6.out.lt;omega),HB8.out,fun a h=>Nat.le_trans (by omega) (own_lo HW8.out a h),fun a h=>by cases h;exact Nat.le_succ _,own_cap HW8.out⟩
end Nd
end Go.Proofs.YtljpoibnkkcjdaaGreatDoor
