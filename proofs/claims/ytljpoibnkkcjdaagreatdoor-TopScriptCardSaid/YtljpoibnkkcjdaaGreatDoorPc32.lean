import Derived.Test.YtljpoibnkkcjdaaGreatDoorPc31
set_option linter.unusedVariables false
set_option linter.unusedSimpArgs false
namespace Go.Proofs.YtljpoibnkkcjdaaGreatDoor
namespace Cf
open Go.ChangeShapes Go.WideShapes Go.ChangeAt Go.RowKit Mem Rws Nd Cl
theorem clu_over (fr:Int) (F:Nat→Nat→Value) (S:Nat→Value) (i:Nat) (hi:i<4) (f:Nat→Value) (s:Value):row 297 (over (1+i*74) 74 (nodeW f s) (cluCell fr F S))=row 297 (cluCell fr (setAt F i f) (setAt S i s)):=row_congr fun j hj=>by
 by_cases h:1+i*74≤j∧j<1+i*74+74
 ·
  rw [over_in h.1 h.2]
  unfold cluCell
  rw [if_neg (by omega),show(j-1)/74=i by omega,show(j-1)%74=j-(1+i*74)by omega,setAt_self,setAt_self]
 ·
  rw [over_out (by omega)]
  unfold cluCell
  by_cases h0:j=0
  · rw [if_pos h0,if_pos h0]
  · rw [if_neg h0,if_neg h0,setAt_ne _ _ (show(j-1)/74≠i by omega),setAt_ne _ _ (show(j-1)/74≠i by omega)]
theorem ver_set (VA:Nat→Option Addr) (V:Nat→List Bool) (VC:Nat→Nat) (i:Nat) (A:Option Addr) (L:List Bool) (c:Nat):verOf (setAt VA i A) (setAt V i L) (setAt VC i c)=setAt (verOf VA V VC) i (.slice A L.length c):=funext fun j=>by
 unfold verOf
 by_cases e:j=i
 · subst e;rw [setAt_self,setAt_self,setAt_self,setAt_self]
 · rw [setAt_ne _ _ e,setAt_ne _ _ e,setAt_ne _ _ e,setAt_ne _ _ e]
theorem cells_same (g:Nat):∀(vs:List Value) (o:Nat) (w:World),(w.setCells g o vs).heap.size=w.heap.size∧∀b,b≠g→(w.setCells g o vs).heap[b]?=w.heap[b]?
 |[],_,_=>⟨rfl,fun _ _=>rfl⟩
 |v::r,o,w=>by
  rw [World.setCells]
  have h:=cells_same g r (o+1) (w.setCell ⟨g,o,none⟩ v)
  exact⟨h.1.trans (by simp),fun b hb=>(h.2 b hb).trans (Below.heap_setCell w ⟨g,o,none⟩ v b hb)⟩
def OldA (RC:Array Value) (b:Nat):Prop:=∃fr F VA V VC,RC=row 297 (cluCell fr F (verOf VA V VC))∧∃j a,j<4∧0<(V j).length∧VA j=some a∧a.block=b
theorem clu_ver (fr:Int) (F:Nat→Nat→Value) (S:Nat→Value) {j:Nat} (hj:j<4):(row 297 (cluCell fr F S))[1+j*74+73]?=some (S j):=by
 rw [row_at (by omega)]
 unfold cluCell nodeW
 rw [if_neg (by omega),show(1+j*74+73-1)/74=j by omega,show(1+j*74+73-1)%74=73 by omega,if_pos rfl]
theorem OldA.of {fr:Int} {F:Nat→Nat→Value} {VA:Nat→Option Addr} {V:Nat→List Bool} {VC:Nat→Nat} {b:Nat} (h:OldA (row 297 (cluCell fr F (verOf VA V VC))) b):∃j a,j<4∧0<(V j).length∧VA j=some a∧a.block=b:=by
 obtain⟨fr',F',VA',V',VC',e,j,a,hj,hl,ha,hb⟩:=h
 have h1:=clu_ver fr F (verOf VA V VC) hj
 rw [e,clu_ver fr' F' (verOf VA' V' VC') hj]at h1
 injection h1 with h1
 unfold verOf at h1
 injection h1 with h1 h2 h3
 exact⟨j,a,hj,by omega,h1.symm.trans ha,hb⟩
structure RfAt (w wr:World) (fr:Int) (RC RI:Array Value) (F:Nat→Nat→Value) (VA:Nat→Option Addr) (V:Nat→List Bool) (VC:Nat→Nat):Prop where
 bC:Blk wr w.heap.size 42 RC
 bI:Blk wr (w.heap.size+1) 48 RI
 bO:Blk wr (w.heap.size+2) 42 Tryz.zeroCells42
 bD:Blk wr (w.heap.size+3) 42 (row 297 (cluCell fr F (verOf VA V VC)))
 v:∀j,j<4→(VA j=none→VC j=0)∧(V j).length≤VC j∧Rd wr wr.heap.size 1 (VA j) (V j).length (boolsV (V j))∧(0<(V j).length→∀a,VA j=some a→(a.block<w.heap.size∧OldA RC a.block)∨w.heap.size+5≤a.block)
 b:Below w.heap.size w wr
section
variable {w wr w' : World} {fr : Int} {RC RI : Array Value} {F : Nat → Nat → Value} {VA : Nat → Option Addr} {V : Nat → List Bool} {VC : Nat → Nat}
theorem RfAt.below (h:RfAt w wr fr RC RI F VA V VC) (hb:Below wr.heap.size wr w'):RfAt w w' fr RC RI F VA V VC:=
 ⟨h.bC.below hb h.bC.lt,h.bI.below hb h.bI.lt,h.bO.below hb h.bO.lt,h.bD.below hb h.bD.lt,fun j hj=>⟨(h.v j hj).1,(h.v j hj).2.1,((h.v j hj).2.2.1.below hb).more hb.size,(h.v j hj).2.2.2⟩,onward h.b (Nat.le_refl _) hb⟩
theorem RfAt.drew (h:RfAt w wr fr RC RI F VA V VC):RfAt w wr.drew fr RC RI F VA V VC:=⟨h.bC.drew,h.bI.drew,h.bO.drew,h.bD.drew,h.v,h.b.drew⟩
theorem rd_keep' {B size n:Nat} {A:Option Addr} {xs:List Value} (h:Rd w B size A n xs) (hs:0<size) (hk:∀b,b<B→(0<n→∀a,A=some a→a.block=b→w'.heap[b]?=w.heap[b]?)):Rd w' B size A n xs:=
 ⟨h.1,fun hn=>let ⟨b,o,e,hb,hc⟩:=h.2 hn;⟨b,o,e,hb,fun j u hu=>(World.cell?_of_block (hk b hb hn _ e rfl)).trans (hc j u hu)⟩⟩
theorem RfAt.other (h:RfAt w wr fr RC RI F VA V VC) {g:Nat} (hg:wr.grownBy w' (some g)) (hsz:w'.heap.size=wr.heap.size) (hlo:w.heap.size+4≤g) (hne:∀j,j<4→0<(V j).length→∀a,VA j=some a→a.block≠g):RfAt w w' fr RC RI F VA V VC:=by
 have hb:∀ {b:Nat} {T:TypeId} {C:Array Value},Blk wr b T C→b<g→Blk w' b T C:=fun h hlt=>h.grown hg (fun e=>by injection e with e;omega)
 refine⟨hb h.bC (by omega),hb h.bI (by omega),hb h.bO (by omega),hb h.bD (by omega),fun j hj=>?_,h.b.grown hg h.b.size (fun x e=>by injection e with e;omega)⟩
 obtain⟨h1,h2,h3,h4⟩:=h.v j hj
 refine⟨h1,h2,?_,h4⟩
 rw [hsz]
 exact rd_keep' h3 (by omega) fun b hb hn a e eb=>hg.block b hb (fun e2=>by injection e2 with e2;exact hne j hj hn a e (by omega))
theorem RfAt.node (h:RfAt w wr fr RC RI F VA V VC) {i:Nat} (hi:i<4) (f:Nat→Value) (A:Option Addr) (L:List Bool) (c:Nat) (hr:Rd wr wr.heap.size 1 A L.length (boolsV L)) (hA:A=none→c=0) (hL:L.length≤c) (hlo:0<L.length→∀a,A=some a→(a.block<w.heap.size∧OldA RC a.block)∨w.heap.size+5≤a.block):
  RfAt w (wr.setCells (w.heap.size+3) (1+i*74) (row 74 (nodeW f (.slice A L.length c))).toList) fr RC RI (setAt F i f) (setAt VA i A) (setAt V i L) (setAt VC i c):=by
 obtain⟨hsz,hbk⟩:=cells_same (w.heap.size+3) (row 74 (nodeW f (.slice A L.length c))).toList (1+i*74) wr
 refine⟨blk_mid_other (w:=wr) (by omega) _ _ _ h.bC,blk_mid_other (w:=wr) (by omega) _ _ _ h.bI,blk_mid_other (w:=wr) (by omega) _ _ _ h.bO,?_,fun j hj=>?_,below_setCells (by omega) _ _ h.b⟩
 ·
  have:=blk_mid h.bD (1+i*74) 74 (nodeW f (.slice A L.length c))
  rw [clu_over fr F _ i hi]at this
  rw [ver_set]
  exact this
 ·
  rw [hsz]
  by_cases e:j=i
  ·
   subst e
   rw [setAt_self,setAt_self,setAt_self]
   exact⟨hA,hL,rd_keep' hr (by omega) fun b _ hn a ea eb=>hbk b (by have:=hlo hn a ea;omega),hlo⟩
  ·
   rw [setAt_ne _ _ e,setAt_ne _ _ e,setAt_ne _ _ e]
   obtain⟨h1,h2,h3,h4⟩:=h.v j hj
   exact⟨h1,h2,rd_keep' h3 (by omega) fun b _ hn a ea eb=>hbk b (by have:=h4 hn a ea;omega),h4⟩
end
def SaidIn (w:World) (lo B:Nat) (v:Value) (k f n:Int) (zs:List Int):Prop:=∃b A c,v=.pointer (some ⟨b,0,none⟩)∧Blk w b 72 #[.int .i64 k,.int .i64 f,.int .i64 n,.slice A zs.length c]∧lo≤b∧b<B∧zs.length*8≤140737488351232∧Rd w B 1 A zs.length (Ms.intsV zs)∧(∀a,A=some a→lo≤a.block)∧∀z∈zs,-9223372036854775808≤z∧z<9223372036854775808
theorem SaidIn.keep {w w':World} {lo B lo' B':Nat} {v:Value} {k f n:Int} {zs:List Int} (h:SaidIn w lo B v k f n zs) (hk:∀b,lo≤b→b<B→w'.heap[b]?=w.heap[b]?) (hB:B≤B') (hlo:lo'≤lo):SaidIn w' lo' B' v k f n zs:=by
 obtain⟨b,A,c,h1,h2,h3,h4,h7,h8,h9,h10⟩:=h
 have h2:w.heap[b]?=_:=h2
 exact⟨b,A,c,h1,(hk b h3 h4).trans h2,by omega,by omega,h7,⟨h8.1,fun hn=>let ⟨b,o,e,hb,hc⟩:=h8.2 hn;⟨b,o,e,by omega,fun j u hu=>(World.cell?_of_block (hk b (h9 _ e) hb)).trans (hc j u hu)⟩⟩,fun a e=>Nat.le_trans hlo (h9 a e),h10⟩
theorem SaidIn.more {w:World} {lo B lo' B':Nat} {v:Value} {k f n:Int} {zs:List Int} (h:SaidIn w lo B v k f n zs) (hB:B≤B') (hlo:lo'≤lo):SaidIn w lo' B' v k f n zs:=h.keep (fun _ _ _=>rfl) hB hlo
end Cf
namespace Dr
open Go.RowKit Mem Rws Sm Nd Cl Cf ReadLaw
def RepLn (R:Array Value) (l:List Nat):Prop:=∃(nd fr:Nat) (u p:Nat→Int) (d:Int) (st:Bool) (i:Nat→Bool),nd<100∧fr<100∧(∀k,k<3→ -9223372036854775808≤u k∧u k≤9223372036854775807)∧(∀k,k<3→ -9223372036854775808≤p k∧p k≤9223372036854775807)∧R=repA nd fr u p d st i∧l=lineOf nd fr u p (d%4294967296).toNat st i∧l.length≤400∧(∀x∈l,x<256)∧l≠[]
def lnsK (ln:Nat→List Nat):Nat→List Nat
 |0=>[]
 |n+1=>lnsK ln n++ln n
theorem lnsK_len {ln:Nat→List Nat} (h:∀k,k<4→(ln k).length≤400):∀n,n≤4→(lnsK ln n).length≤400*n
 |0,_=>Nat.le_refl _
 |n+1,hn=>by
  have:=lnsK_len h n (by omega)
  have:=h n (by omega)
  show(lnsK ln n++ln n).length≤_
  rw [List.length_append];omega
theorem reps4 (F:Nat→Nat→Value) (k j:Nat) (hk:k<4) (hj:j<14):(([0,1,2,3]:List Nat).flatMap fun i=>(row 14 (repF (F i))).toList)[k*14+j]?=some (repF (F k) j):=by
 have h:=reps_get F [0,1,2,3] k j hk hj
 rcases(show k=0∨k=1∨k=2∨k=3 by omega)with rfl|rfl|rfl|rfl<;>exact h
set_option maxRecDepth 100000 in
set_option maxHeartbeats 8000000 in
theorem deskframe_any (c:CluS) (rd:Nat→Int) (hn:Sane (next c ⟨rd,-1,[]⟩)) (ln:Nat→List Nat) (hln:∀k,k<4→RepLn (row 14 (repF (G6 c ⟨rd,-1,[]⟩ k))) (ln k)) (g:Nat) (out:List Nat) (hout:out.length≤1000000) (bits:Value) (w:World) (h:Desk w g c rd out bits) (hz:TzAt w) (h5:7<g):
  Calls Tryz.prog 48 #[.pointer (some ⟨g,0,none⟩)] w fun e w'=>e=.returned (.bool true)∧Desk w' g (next c ⟨rd,-1,[]⟩) rd (out++lnsK ln 4) bits∧Below g w w':=by
 obtain⟨VA,VC,ba,bv,hd⟩:=h
 have hgl:=hd.blk.lt
 have HD0:=Lib.hid hd
 have HSN:=Lib.hid hn
 have HLN:=Lib.hid hln
 have HZ:=Lib.hid hz
 clear hd hn hln hz
 obtain⟨RJ,hRJ⟩:∃R,(row 297 (cluCell c.fr c.F (verOf VA c.V VC)))=R:=⟨_,rfl⟩
 have HRJ:=Lib.hid hRJ
 clear hRJ
 go_enter Tryz.func48,Tryz.ntmps48
 go_upto_region 1 with fail
 go_cut [3,4,5] (fun p q r wx=>∃gd VA2 VC2 RA RC,p=.pointer (some ⟨gd,0,none⟩)∧q=.slice RA 4 RC∧r=.int .i64 0∧BeAt w wx (next c ⟨rd,-1,[]⟩) gd VA2 VC2 RA RC 4 (reps c ⟨rd,-1,[]⟩ 4))
 case first=>
  have HBR:=Lib.hid (show Below w.heap.size w w.drew from(Below.refl _ _).drew)
  have HD:=Lib.hid (HD0.out.below HBR.out)
  refine wp_region_noPanic ?_
  have HSS:=And.intro (dk_clu HD.out.blk) (dk_in HD.out.blk)
  refine Rg.beginR [3,7] (fun w'=>w'.rangeAt g 0 ((List.range 297).map (cluCell c.fr c.F (verOf VA c.V VC)))∧w'.rangeAt g 297 ((List.range 14).map (inCell rd (-1) (.slice none 0 0)))) (by kernel_rfl) ?_
  generalize w.drew=wv at*
  refine Rg.tp 0 ⟨some 9,.move (.tmp 0),_,_,_,none⟩ (v:=?_) rfl ?_ ?_
  rotate_left 1
  · (intro w;go_simp;(try with_reducible rfl))
  try simp only [Rg.lp]
  refine Rg.tp 1 ⟨some 10,.nilCheck (.tmp 9),_,_,_,none⟩ (v:=?_) rfl ?_ ?_
  rotate_left 1
  · (intro w;go_simp;(try with_reducible rfl))
  try simp only [Rg.lp]
  refine Rg.tp 2 ⟨some 11,.fieldAddr 85 (.tmp 10) 0,_,_,_,none⟩ (v:=?_) rfl ?_ ?_
  rotate_left 1
  · (intro w;go_simp;(try with_reducible rfl))
  try simp only [Rg.lp]
  refine Rg.stp_s 3 (.agg RJ) HSS (hy:=?_) (h:=?_)
  · (intro w' hSw;rw [←HRJ.out];exact exec_load_mid 42 _ rfl g 0 297 rfl _ _ hSw.1 Tryz.underlying42 rfl (by kernel_rfl))
  try simp only [Rg.lp]
  refine Rg.tp 4 ⟨some 13,.move (.tmp 0),_,_,_,none⟩ (v:=?_) rfl ?_ ?_
  rotate_left 1
  · (intro w;go_simp;(try with_reducible rfl))
  try simp only [Rg.lp]
  refine Rg.tp 5 ⟨some 14,.nilCheck (.tmp 13),_,_,_,none⟩ (v:=?_) rfl ?_ ?_
  rotate_left 1
  · (intro w;go_simp;(try with_reducible rfl))
  try simp only [Rg.lp]
  refine Rg.tp 6 ⟨some 15,.fieldAddr 85 (.tmp 14) 1,_,_,_,none⟩ (v:=?_) rfl ?_ ?_
  rotate_left 1
  · (intro w;go_simp;(try with_reducible rfl))
  try simp only [Rg.lp]
  refine Rg.stp_s 7 (.agg (row 14 (inCell rd (-1) (.slice none 0 0)))) HSS (hy:=?_) (h:=?_)
  · (intro w' hSw;exact exec_load_mid 48 _ rfl g 297 14 rfl _ _ hSw.2 Tryz.underlying48 rfl (by kernel_rfl))
  try simp only [Rg.lp]
  refine Rg.twoR (i:=8) (j:=13) (oi:=⟨some 17,.call { callee:=.value (.func 7),args:=#[.tmp 12,.tmp 16],argTypes:=_ },_,_,_,none⟩) (oj:=⟨some 3,.alloc 42,_,_,_,none⟩) (by kernel_rfl) rfl rfl ?_ ?_
  ·
   refine Rg.stepF ?_ ?_
   · kernel_rfl
   intro K hK
   rw [if_pos (by rfl)]
   clear HSS
   rw [←HRJ.out]
   go_simp
   refine(frame_any c ⟨rd,-1,[]⟩ HD.out.sane (show(-1:Int)≤ -1∧(-1:Int)≤3 by omega) HD.out.rwf (show([]:List Lie).length≤400 by simp) VA VC none 0 wv (fun j hj=>⟨(HD.out.ver j hj).1,(HD.out.ver j hj).2.1,(HD.out.ver j hj).2.2.1⟩) (LiesAt.nil _ _ _)).mono ?_
   rintro e w4 ⟨VA2,VC2,RA,RC,rfl,hv2,hown,hb⟩
   rw [show(goods (-1:Int) 4).length=4 from rfl]at hown ⊢
   have iN:(Tryz.prog.info? 42).map (·.size)=some (row 297 (cluCell (next c ⟨rd,-1,[]⟩).fr (next c ⟨rd,-1,[]⟩).F (verOf VA2 (next c ⟨rd,-1,[]⟩).V VC2))).size:=by rw [row_size];kernel_rfl
   have zN:(Tryz.zeroCells42).size=(row 297 (cluCell (next c ⟨rd,-1,[]⟩).fr (next c ⟨rd,-1,[]⟩).F (verOf VA2 (next c ⟨rd,-1,[]⟩).V VC2))).size:=by rw [row_size];kernel_rfl
   have oN:=row_one (cluCell_one HSN.out.ok (next c ⟨rd,-1,[]⟩).fr (next c ⟨rd,-1,[]⟩).V VA2 VC2)
   obtain⟨RN,hRN⟩:∃R,(row 297 (cluCell (next c ⟨rd,-1,[]⟩).fr (next c ⟨rd,-1,[]⟩).F (verOf VA2 (next c ⟨rd,-1,[]⟩).V VC2)))=R:=⟨_,rfl⟩
   rw [hRN]at iN zN oN ⊢
   have HRN:=Lib.hid hRN
   clear hRN
   have HV2:=Lib.hid (show ∀j,j<4→(VA2 j=none→VC2 j=0)∧((next c ⟨rd,-1,[]⟩).V j).length≤VC2 j∧Rd w4 w4.heap.size 1 (VA2 j) ((next c ⟨rd,-1,[]⟩).V j).length (boolsV ((next c ⟨rd,-1,[]⟩).V j))∧(0<((next c ⟨rd,-1,[]⟩).V j).length→∀a,VA2 j=some a→w.heap.size≤a.block)from fun j hj=>⟨(hv2 j hj).1,(hv2 j hj).2.1,(hv2 j hj).2.2.1,fun hn a e=>Nat.le_trans HBR.out.size ((hv2 j hj).2.2.2 hn a e)⟩)
   have HOW:=Lib.hid (own_weaken hown (show w.heap.size≤wv.heap.size from HBR.out.size))
   have HBR:=Lib.hid (onward HBR.out (Nat.le_refl _) hb)
   have HD:=Lib.hid (HD.out.below hb)
   clear hv2 hown hb
   generalize wv=wq at*
   generalize w4=wv at*
   have HSS:=And.intro (dk_clu HD.out.blk) (dk_in HD.out.blk)
   refine hK.out _ _ ?_
   clear hK K
   try simp only [Rg.lp]
   refine Rg.tp 9 ⟨some 8,.move (.tmp 17),_,_,_,none⟩ (v:=?_) rfl ?_ ?_
   rotate_left 1
   · (intro w;go_simp;(try with_reducible rfl))
   try simp only [Rg.lp]
   refine Rg.tp 10 ⟨some 18,.extract (.tmp 8) 0,_,_,_,none⟩ (v:=?_) rfl ?_ ?_
   rotate_left 1
   · (intro w;go_simp;(try with_reducible rfl))
   try simp only [Rg.lp]
   refine Rg.tp 11 ⟨some 19,.extract (.tmp 8) 1,_,_,_,none⟩ (v:=?_) rfl ?_ ?_
   rotate_left 1
   · (intro w;go_simp;(try with_reducible rfl))
   try simp only [Rg.lp]
   refine Rg.tp 12 ⟨some 20,.extract (.tmp 8) 2,_,_,_,none⟩ (v:=?_) rfl ?_ ?_
   rotate_left 1
   · (intro w;go_simp;(try with_reducible rfl))
   try simp only [Rg.lp]
   refine Rg.stp_o 13 ?_
   refine Rg.stepS ?_
   intro K hK
   go_simp
   clear HSS
   have hb:Below wv.heap.size wv (wv.alloc (.cells Tryz.zeroCells42 42)):=(Below.refl _ _).alloc (Nat.le_refl _) _
   have BD:=Lib.hid (show Blk (wv.alloc (.cells Tryz.zeroCells42 42)) wv.heap.size 42 Tryz.zeroCells42 from Blk.fresh _ _ _)
   have HDN:=Lib.hid (show ∀j,j<4→0<((next c ⟨rd,-1,[]⟩).V j).length→∀a,VA2 j=some a→a.block≠wv.heap.size from fun j hj hn a e=>Nat.ne_of_lt (rd_lt (HV2.out j hj).2.2.1 hn e))
   have HDO:=Lib.hid (show(Value.slice RA 4 RC).ownBlock≠some wv.heap.size from fun e=>Nat.lt_irrefl _ (HOW.out.lt _ e).2)
   have HV2:=Lib.hid (fun j (hj:j<4)=>(⟨(HV2.out j hj).1,(HV2.out j hj).2.1,((HV2.out j hj).2.2.1.below hb).more hb.size,(HV2.out j hj).2.2.2⟩:(VA2 j=none→VC2 j=0)∧((next c ⟨rd,-1,[]⟩).V j).length≤VC2 j∧Rd (wv.alloc (.cells Tryz.zeroCells42 42)) (wv.alloc (.cells Tryz.zeroCells42 42)).heap.size 1 (VA2 j) ((next c ⟨rd,-1,[]⟩).V j).length (boolsV ((next c ⟨rd,-1,[]⟩).V j))∧(0<((next c ⟨rd,-1,[]⟩).V j).length→∀a,VA2 j=some a→w.heap.size≤a.block)))
   have HOW:=Lib.hid (Nd.ownsRow_below HOW.out hb)
   have HD:=Lib.hid (HD.out.below hb)
   have HDG:=Lib.hid (show w.heap.size≤wv.heap.size from HBR.out.size)
   have HBR:=Lib.hid (onward HBR.out (Nat.le_refl _) hb)
   have HDL:=Lib.hid (show wv.heap.size<((wv.alloc (.cells Tryz.zeroCells42 42))).heap.size by simp)
   have HGD:=Lib.hid (show g≠wv.heap.size from fun e=>by have h1:=hgl;have h2:=HDG.out;omega)
   clear hb
   obtain⟨gd,hgd⟩:∃g,wv.heap.size=g:=⟨_,rfl⟩
   rw [hgd]at BD HDG HDL HGD HDN HDO ⊢
   clear hgd
   generalize(wv.alloc (.cells Tryz.zeroCells42 42))=wv at*
   have HSS:=And.intro (dk_clu HD.out.blk) (dk_in HD.out.blk)
   refine hK.out _ _ HSS ?_
   clear hK K
   try simp only [Rg.lp]
   refine Rg.stp_o 14 ?_
   refine Rg.stepF ?_ ?_
   · kernel_rfl
   intro K hK
   rw [if_pos (by rfl)]
   clear HSS
   refine wp_store_row 42 _ _ rfl gd RN rfl rfl 42 _ BD.out iN zN oN ?_
   have hgr:=gr_setRowR wv gd RN
   have BD:=Lib.hid (BD.out.setRow RN)
   have HV2:=Lib.hid (fun j (hj:j<4)=>(⟨(HV2.out j hj).1,(HV2.out j hj).2.1,rd_kept (HV2.out j hj).2.2.1 hgr.size (fun hn a e=>setRow_other wv gd a.block RN (HDN.out j hj hn a e)),(HV2.out j hj).2.2.2⟩:(VA2 j=none→VC2 j=0)∧((next c ⟨rd,-1,[]⟩).V j).length≤VC2 j∧Rd (wv.setRow gd RN) (wv.setRow gd RN).heap.size 1 (VA2 j) ((next c ⟨rd,-1,[]⟩).V j).length (boolsV ((next c ⟨rd,-1,[]⟩).V j))∧(0<((next c ⟨rd,-1,[]⟩).V j).length→∀a,VA2 j=some a→w.heap.size≤a.block)))
   have HOW:=Lib.hid (HOW.out.kept hgr (.inr HDO.out))
   have HBR:=Lib.hid (below_setRow HBR.out HDG.out RN)
   clear hgr HD
   generalize(wv.setRow gd RN)=wv at*
   have HSS:True:=trivial
   refine hK.out _ _ ?_
   clear hK K
   try simp only [Rg.lp]
   refine Rg.tp 15 ⟨some 4,.assign (.tmp 19),_,_,_,none⟩ (v:=?_) rfl ?_ ?_
   rotate_left 1
   · (intro w;go_simp;(try with_reducible rfl))
   try simp only [Rg.lp]
   refine Rg.tp 16 ⟨some 5,.assign (.tmp 20),_,_,_,none⟩ (v:=?_) rfl ?_ ?_
   rotate_left 1
   · (intro w;go_simp;(try with_reducible rfl))
   try simp only [Rg.lp]
   refine Rg.doneR (by kernel_rfl) ?_ _
   refine NoPanic.normal ?_
   go_wp2_with fail
   go_meet
   exact⟨gd,VA2,VC2,RA,RC,rfl,rfl,rfl,⟨by rw [HRN.out];exact BD.out,HV2.out,HOW.out,HBR.out,HDG.out⟩⟩
  ·
   refine Rg.stepS ?_
   intro K hK
   go_simp
   clear HSS
   have hb:Below wv.heap.size wv (wv.alloc (.cells Tryz.zeroCells42 42)):=(Below.refl _ _).alloc (Nat.le_refl _) _
   have BD:=Lib.hid (show Blk (wv.alloc (.cells Tryz.zeroCells42 42)) wv.heap.size 42 Tryz.zeroCells42 from Blk.fresh _ _ _)
   have HD:=Lib.hid (HD.out.below hb)
   have HDG:=Lib.hid (show w.heap.size≤wv.heap.size from HBR.out.size)
   have HBR:=Lib.hid (onward HBR.out (Nat.le_refl _) hb)
   have HDL:=Lib.hid (show wv.heap.size<((wv.alloc (.cells Tryz.zeroCells42 42))).heap.size by simp)
   have HGD:=Lib.hid (show g≠wv.heap.size from fun e=>by have h1:=hgl;have h2:=HDG.out;omega)
   clear hb
   obtain⟨gd,hgd⟩:∃g,wv.heap.size=g:=⟨_,rfl⟩
   rw [hgd]at BD HDG HDL HGD ⊢
   clear hgd
   generalize(wv.alloc (.cells Tryz.zeroCells42 42))=wv at*
   have HSS:=And.intro (dk_clu HD.out.blk) (dk_in HD.out.blk)
   refine hK.out _ _ HSS ?_
   clear hK K
   try simp only [Rg.lp]
   refine Rg.stp_o 8 ?_
   refine Rg.stepF ?_ ?_
   · kernel_rfl
   intro K hK
   rw [if_pos (by rfl)]
   clear HSS
   rw [←HRJ.out]
   go_simp
   refine(frame_any c ⟨rd,-1,[]⟩ HD.out.sane (show(-1:Int)≤ -1∧(-1:Int)≤3 by omega) HD.out.rwf (show([]:List Lie).length≤400 by simp) VA VC none 0 wv (fun j hj=>⟨(HD.out.ver j hj).1,(HD.out.ver j hj).2.1,(HD.out.ver j hj).2.2.1⟩) (LiesAt.nil _ _ _)).mono ?_
   rintro e w4 ⟨VA2,VC2,RA,RC,rfl,hv2,hown,hb⟩
   rw [show(goods (-1:Int) 4).length=4 from rfl]at hown ⊢
   have iN:(Tryz.prog.info? 42).map (·.size)=some (row 297 (cluCell (next c ⟨rd,-1,[]⟩).fr (next c ⟨rd,-1,[]⟩).F (verOf VA2 (next c ⟨rd,-1,[]⟩).V VC2))).size:=by rw [row_size];kernel_rfl
   have zN:(Tryz.zeroCells42).size=(row 297 (cluCell (next c ⟨rd,-1,[]⟩).fr (next c ⟨rd,-1,[]⟩).F (verOf VA2 (next c ⟨rd,-1,[]⟩).V VC2))).size:=by rw [row_size];kernel_rfl
   have oN:=row_one (cluCell_one HSN.out.ok (next c ⟨rd,-1,[]⟩).fr (next c ⟨rd,-1,[]⟩).V VA2 VC2)
   obtain⟨RN,hRN⟩:∃R,(row 297 (cluCell (next c ⟨rd,-1,[]⟩).fr (next c ⟨rd,-1,[]⟩).F (verOf VA2 (next c ⟨rd,-1,[]⟩).V VC2)))=R:=⟨_,rfl⟩
   rw [hRN]at iN zN oN ⊢
   have HRN:=Lib.hid hRN
   clear hRN
   have BD:=Lib.hid (BD.out.below hb BD.out.lt)
   have HDN:=Lib.hid (show ∀j,j<4→0<((next c ⟨rd,-1,[]⟩).V j).length→∀a,VA2 j=some a→a.block≠gd from fun j hj hn a e=>by have:=(hv2 j hj).2.2.2 hn a e;have:=HDL.out;omega)
   have HDO:=Lib.hid (show(Value.slice RA 4 RC).ownBlock≠some gd from fun e=>by have:=(hown.lt _ e).1;have:=HDL.out;omega)
   have HV2:=Lib.hid (show ∀j,j<4→(VA2 j=none→VC2 j=0)∧((next c ⟨rd,-1,[]⟩).V j).length≤VC2 j∧Rd w4 w4.heap.size 1 (VA2 j) ((next c ⟨rd,-1,[]⟩).V j).length (boolsV ((next c ⟨rd,-1,[]⟩).V j))∧(0<((next c ⟨rd,-1,[]⟩).V j).length→∀a,VA2 j=some a→w.heap.size≤a.block)from fun j hj=>⟨(hv2 j hj).1,(hv2 j hj).2.1,(hv2 j hj).2.2.1,fun hn a e=>Nat.le_trans HBR.out.size ((hv2 j hj).2.2.2 hn a e)⟩)
   have HOW:=Lib.hid (own_weaken hown (show w.heap.size≤wv.heap.size from HBR.out.size))
   have HBR:=Lib.hid (onward HBR.out (Nat.le_refl _) hb)
   have HD:=Lib.hid (HD.out.below hb)
   clear hv2 hown hb
   generalize wv=wq at*
   generalize w4=wv at*
   have HSS:=And.intro (dk_clu HD.out.blk) (dk_in HD.out.blk)
   refine hK.out _ _ ?_
   clear hK K
   try simp only [Rg.lp]
   refine Rg.tp 9 ⟨some 8,.move (.tmp 17),_,_,_,none⟩ (v:=?_) rfl ?_ ?_
   rotate_left 1
   · (intro w;go_simp;(try with_reducible rfl))
   try simp only [Rg.lp]
   refine Rg.tp 10 ⟨some 18,.extract (.tmp 8) 0,_,_,_,none⟩ (v:=?_) rfl ?_ ?_
   rotate_left 1
   · (intro w;go_simp;(try with_reducible rfl))
   try simp only [Rg.lp]
   refine Rg.tp 11 ⟨some 19,.extract (.tmp 8) 1,_,_,_,none⟩ (v:=?_) rfl ?_ ?_
   rotate_left 1
   · (intro w;go_simp;(try with_reducible rfl))
   try simp only [Rg.lp]
   refine Rg.tp 12 ⟨some 20,.extract (.tmp 8) 2,_,_,_,none⟩ (v:=?_) rfl ?_ ?_
   rotate_left 1
   · (intro w;go_simp;(try with_reducible rfl))
   try simp only [Rg.lp]
   refine Rg.stp_o 14 ?_
   refine Rg.stepF ?_ ?_
   · kernel_rfl
   intro K hK
   rw [if_pos (by rfl)]
   clear HSS
   refine wp_store_row 42 _ _ rfl gd RN rfl rfl 42 _ BD.out iN zN oN ?_
   have hgr:=gr_setRowR wv gd RN
   have BD:=Lib.hid (BD.out.setRow RN)
   have HV2:=Lib.hid (fun j (hj:j<4)=>(⟨(HV2.out j hj).1,(HV2.out j hj).2.1,rd_kept (HV2.out j hj).2.2.1 hgr.size (fun hn a e=>setRow_other wv gd a.block RN (HDN.out j hj hn a e)),(HV2.out j hj).2.2.2⟩:(VA2 j=none→VC2 j=0)∧((next c ⟨rd,-1,[]⟩).V j).length≤VC2 j∧Rd (wv.setRow gd RN) (wv.setRow gd RN).heap.size 1 (VA2 j) ((next c ⟨rd,-1,[]⟩).V j).length (boolsV ((next c ⟨rd,-1,[]⟩).V j))∧(0<((next c ⟨rd,-1,[]⟩).V j).length→∀a,VA2 j=some a→w.heap.size≤a.block)))
   have HOW:=Lib.hid (HOW.out.kept hgr (.inr HDO.out))
   have HBR:=Lib.hid (below_setRow HBR.out HDG.out RN)
   clear hgr HD
   generalize(wv.setRow gd RN)=wv at*
   have HSS:True:=trivial
   refine hK.out _ _ ?_
   clear hK K
   try simp only [Rg.lp]
   refine Rg.tp 15 ⟨some 4,.assign (.tmp 19),_,_,_,none⟩ (v:=?_) rfl ?_ ?_
   rotate_left 1
   · (intro w;go_simp;(try with_reducible rfl))
   try simp only [Rg.lp]
   refine Rg.tp 16 ⟨some 5,.assign (.tmp 20),_,_,_,none⟩ (v:=?_) rfl ?_ ?_
   rotate_left 1
   · (intro w;go_simp;(try with_reducible rfl))
   try simp only [Rg.lp]
   refine Rg.doneR (by kernel_rfl) ?_ _
   refine NoPanic.normal ?_
   go_wp2_with fail
   go_meet
   exact⟨gd,VA2,VC2,RA,RC,rfl,rfl,rfl,⟨by rw [HRN.out];exact BD.out,HV2.out,HOW.out,HBR.out,HDG.out⟩⟩
 case rest=>
  obtain⟨gd,VA2,VC2,RA,RC,rfl,rfl,rfl,hbe⟩:=hcut
  have HE:=Lib.hid hbe
  clear hbe
  have HD:=Lib.hid (HD0.out.below HE.out.b)
  have HB:=Lib.hid (HE.out.b.mono (Nat.le_of_lt hgl))
  have HVN:=Lib.hid (show VerOk wc (next c ⟨rd,-1,[]⟩) VA2 VC2 (DkX g bv)from fun j hj=>⟨(HE.out.v j hj).1,(HE.out.v j hj).2.1,(HE.out.v j hj).2.2.1,fun hn a e hx=>by
   have h1:=(HE.out.v j hj).2.2.2 hn a e
   rcases hx with hx|hx
   · omega
   · have h2:=(HD0.out.own.lt _ hx).2;omega⟩)
  have HRO:=Lib.hid HE.out.r
  have BD:=Lib.hid HE.out.d
  have HDG:=Lib.hid HE.out.g
  have iN:(Tryz.prog.info? 42).map (·.size)=some (row 297 (cluCell (next c ⟨rd,-1,[]⟩).fr (next c ⟨rd,-1,[]⟩).F (verOf VA2 (next c ⟨rd,-1,[]⟩).V VC2))).size:=by rw [row_size];kernel_rfl
  have oN:=row_one (cluCell_one HSN.out.ok (next c ⟨rd,-1,[]⟩).fr (next c ⟨rd,-1,[]⟩).V VA2 VC2)
  have sN:(row 297 (cluCell (next c ⟨rd,-1,[]⟩).fr (next c ⟨rd,-1,[]⟩).F (verOf VA2 (next c ⟨rd,-1,[]⟩).V VC2))).size=297:=row_size _ _
  have HTH:=Lib.hid (show wc.there g 0 (row 297 (cluCell (next c ⟨rd,-1,[]⟩).fr (next c ⟨rd,-1,[]⟩).F (verOf VA2 (next c ⟨rd,-1,[]⟩).V VC2))).size from by rw [sN];exact row_there HD.out.blk 0 297 (by omega))
  have HDN:=Lib.hid (HD.out.setC HVN.out HSN.out)
  have hgr:=gr_setCells wc g (row 297 (cluCell (next c ⟨rd,-1,[]⟩).fr (next c ⟨rd,-1,[]⟩).F (verOf VA2 (next c ⟨rd,-1,[]⟩).V VC2))).toList 0
  have HROs:=Lib.hid (HRO.out.kept hgr (.inr (fun e=>by have h1:=(HRO.out.lt g e).1;omega)))
  have HBN:=Lib.hid (show Below g w (wc.setCells g 0 (row 297 (cluCell (next c ⟨rd,-1,[]⟩).fr (next c ⟨rd,-1,[]⟩).F (verOf VA2 (next c ⟨rd,-1,[]⟩).V VC2))).toList)from below_setCells (Nat.le_refl _) _ _ HB.out)
  have HSZ:=Lib.hid (show w.heap.size≤(wc.setCells g 0 (row 297 (cluCell (next c ⟨rd,-1,[]⟩).fr (next c ⟨rd,-1,[]⟩).F (verOf VA2 (next c ⟨rd,-1,[]⟩).V VC2))).toList).heap.size from Nat.le_trans HE.out.b.size hgr.size)
  clear hgr HE HVN HB
  obtain⟨RN,hRN⟩:∃R,(row 297 (cluCell (next c ⟨rd,-1,[]⟩).fr (next c ⟨rd,-1,[]⟩).F (verOf VA2 (next c ⟨rd,-1,[]⟩).V VC2)))=R:=⟨_,rfl⟩
  rw [hRN]at BD iN oN sN HTH HDN HROs HBN HSZ
  clear hRN
  go_upto_region 4 with fail
  go_upto_region 5 with(first
   |(refine wpList_whole rfl 42 _ rfl gd rfl BD.out _ Tryz.underlying42 rfl iN ?_)
   |(refine wpList_store_mid rfl 42 _ _ rfl g 0 RN rfl rfl HTH.out iN oN ?_))
  generalize(wc.setCells g 0 RN.toList)=w5 at*
  clear BD iN oN sN HTH HD HRO
  obtain⟨br,orr,e2,hlb,hce⟩:=(Rd.of_own HROs.out).2 (by omega)
  subst e2
  have HRG:=Lib.hid (show ∀k,k<4→w5.rangeAt br (orr+k*14) ((List.range 14).map (repF (G6 c ⟨rd,-1,[]⟩ k)))from fun k hk j v hv=>by
   have hj:j<14:=by have:=(List.getElem?_eq_some_iff.1 hv).1;simpa using this
   have e:((List.range 14).map (repF (G6 c ⟨rd,-1,[]⟩ k)))[j]?=some (repF (G6 c ⟨rd,-1,[]⟩ k) j):=by rw [List.getElem?_map,List.getElem?_range hj];rfl
   rw [e]at hv
   injection hv with hv
   subst hv
   rw [show orr+k*14+j=orr+(k*14+j)by omega]
   exact hce _ _ (reps4 _ k j hk hj))
  have HNB:=Lib.hid (show bv.ownBlock≠some br from fun e=>by
   have h1:=(HD0.out.own.lt _ e).2
   have h2:=(HROs.out.lt br (by rfl)).1
   omega)
  have HBG:=Lib.hid (show br≠g from fun e=>by have h2:=(HROs.out.lt br (by rfl)).1;omega)
  have HSL:=Lib.hid (fun k hk=>lnsK_len (fun k hk=>by obtain⟨_,_,_,_,_,_,_,_,_,_,_,_,_,h,_⟩:=HLN.out k hk;exact h) k hk)
  clear hce HROs HD0
  go_wp2_with fail
  go_loopw [29] (fun v wr=>∃(k:Nat) (ba2 bv2:Value),k≤4∧v=.int .i64 (k:Int)∧DeskAt wr g (next c ⟨rd,-1,[]⟩) rd (out++lnsK ln k) bits VA2 VC2 ba2 bv2∧(∀k,k<4→wr.rangeAt br (orr+k*14) ((List.range 14).map (repF (G6 c ⟨rd,-1,[]⟩ k))))∧bv2.ownBlock≠some br∧br<wr.heap.size∧Below g w wr) (fun v _=>4-(intOf v).toNat)
  case atStart=>exact⟨0,ba,bv,by omega,rfl,by rw [show out++lnsK ln 0=out from List.append_nil _];exact HDN.out,HRG.out,HNB.out,hlb,HBN.out⟩
  case round=>
   clear HRG HNB HDN HBN hlb
   obtain⟨k,ba2,bv2,hk,rfl,hda,hrg,hnb,hlb,hb⟩:=hrel
   have HDA:=Lib.hid hda
   have HRG:=Lib.hid hrg
   have HNB:=Lib.hid hnb
   have HB:=Lib.hid hb
   clear hda hrg hnb hb
   by_cases hlt:k<4
   ·
    obtain⟨nd,fr,u,p,d,st,i,hnd,hfr,hu,hp,hR,hl,hll,hlb2,hl0⟩:=HLN.out k hlt
    have j4:(0:Int)≤(k:Int):=by omega
    have j5:(k:Int)<4:=by omega
    have j1:((k:Int)).toNat=k:=Int.toNat_natCast k
    have HRR:=Lib.hid (HRG.out k hlt)
    have oN:(repA nd fr u p d st i).all (·.oneCell')=true:=by simp [repA,Value.oneCell']
    have iN:(Tryz.prog.info? 56).map (·.size)=some (repA nd fr u p d st i).size:=by kernel_rfl
    have zN:rep0.size=(repA nd fr u p d st i).size:=by rfl
    obtain⟨RR,hRR⟩:∃R,repA nd fr u p d st i=R:=⟨_,rfl⟩
    rw [hRR]at iN zN oN hR
    have HX:=Lib.hid hRR
    have HLK:=Lib.hid hl
    have HU:=Lib.hid hu
    have HP:=Lib.hid hp
    have HLB:=Lib.hid hlb2
    have HL0:=Lib.hid hl0
    have F1:Hid (Blk (wr.alloc (.cells rep0 56)) wr.heap.size 56 rep0):=Lib.hid (Blk.fresh _ _ _)
    have hbn:=below_setRow ((Below.refl wr.heap.size wr).alloc (Nat.le_refl _) (.cells rep0 56)) (Nat.le_refl _) RR
    unfold rep0 at F1 zN hbn
    clear hRR hl hu hp hlb2 hl0 HRR
    have HRR:=Lib.hid (HRG.out k hlt)
    go_upto_region 8 with(first
     |(refine wpList_rng rfl 56 _ rfl br (orr+k*14) 14 rfl (repF (G6 c ⟨rd,-1,[]⟩ k)) HRR.out _ Tryz.underlying56 rfl (by kernel_rfl) ?_;rw [hR])
     |(refine wpList_store_row rfl 56 _ _ rfl wr.heap.size RR rfl rfl 56 _ F1.out iN zN oN ?_))
    have BR:=Lib.hid (F1.out.setRow RR)
    have HGG:=Lib.hid (show wr.heap.size≠g from fun e=>by have:=HDA.out.blk.lt;omega)
    have HDA:=Lib.hid (HDA.out.below hbn)
    have HRG:=Lib.hid (show ∀k,k<4→_ from fun k hk j v hv=>(hbn.cell (p:=⟨br,orr+k*14+j,none⟩) hlb).trans (HRG.out k hk j v hv))
    have HB:=Lib.hid (onward HB.out (Nat.le_of_lt hgl) hbn)
    have HLT:=Lib.hid (Nat.lt_of_lt_of_le hlb hbn.size)
    clear F1 hbn hR HRR zN oN hlb
    generalize((wr.alloc _).setRow wr.heap.size RR)=wp at*
    obtain⟨lr,hlr⟩:∃g,wr.heap.size=g:=⟨_,rfl⟩
    rw [hlr]at BR HGG ⊢
    clear hlr
    go_upto_region 8 with fail
    have HSS:Blk wp.drew lr 56 RR:=BR.out
    have HDA:=Lib.hid (HDA.out.below (Below.refl wp.heap.size wp).drew)
    have HB:=Lib.hid (show Below g w wp.drew from onward HB.out (Nat.le_of_lt hgl) (Below.refl wp.heap.size wp).drew)
    have HRG:=Lib.hid (show ∀k,k<4→wp.drew.rangeAt br (orr+k*14) ((List.range 14).map (repF (G6 c ⟨rd,-1,[]⟩ k)))from HRG.out)
    have HLT:=Lib.hid (show br<wp.drew.heap.size from HLT.out)
    refine wp_region_noPanic ?_
    refine Rg.beginR [3] (fun w'=>Blk w' lr 56 RR) (by kernel_rfl) ?_
    generalize wp.drew=wv at*
    refine Rg.tp 0 ⟨some 33,.move (.tmp 0),_,_,_,none⟩ (v:=?_) rfl ?_ ?_
    rotate_left 1
    · (intro w;go_simp;(try with_reducible rfl))
    try simp only [Rg.lp]
    refine Rg.tp 1 ⟨some 34,.nilCheck (.tmp 33),_,_,_,none⟩ (v:=?_) rfl ?_ ?_
    rotate_left 1
    · (intro w;go_simp;(try with_reducible rfl))
    try simp only [Rg.lp]
    refine Rg.tp 2 ⟨some 35,.fieldAddr 85 (.tmp 34) 2,_,_,_,none⟩ (v:=?_) rfl ?_ ?_
    rotate_left 1
    · (intro w;go_simp;(try with_reducible rfl))
    try simp only [Rg.lp]
    refine Rg.stp_s 3 (.agg RR) HSS (hy:=?_) (h:=?_)
    · (intro w' hSw;exact exec_load_row 56 _ rfl _ rfl hSw Tryz.underlying56 rfl iN)
    try simp only [Rg.lp]
    refine Rg.stp_o 4 ?_
    refine Rg.stepF ?_ ?_
    · kernel_rfl
    intro K hK
    rw [if_pos (by rfl)]
    clear HSS
    go_simp
    rw [←HX.out]
    refine(line_any nd fr hnd hfr u p HU.out HP.out d st i wv (show TzAt wv from(HB.out.cell (p:=⟨7,15,none⟩) h5).trans HZ.out) (by have:=HB.out.size;omega)).mono ?_
    rintro e w9 ⟨rfl,hb⟩
    rw [←HLK.out]
    have HDA:=Lib.hid (HDA.out.below hb)
    have HRG:=Lib.hid (show ∀k,k<4→w9.rangeAt br (orr+k*14) ((List.range 14).map (repF (G6 c ⟨rd,-1,[]⟩ k)))from fun k hk j v hv=>(hb.cell (p:=⟨br,orr+k*14+j,none⟩) HLT.out).trans (HRG.out k hk j v hv))
    have HLT:=Lib.hid (Nat.lt_of_lt_of_le HLT.out hb.size)
    have HB:=Lib.hid (onward HB.out (Nat.le_of_lt hgl) hb)
    clear hb
    generalize wv=wo at*
    generalize w9=wv at*
    have HSS:True:=trivial
    refine hK.out _ _ ?_
    clear hK K
    try simp only [Rg.lp]
    refine Rg.stp_o 5 ?_
    refine Rg.stepF ?_ ?_
    · kernel_rfl
    intro K hK
    rw [if_pos (by rfl)]
    clear HSS
    go_simp
    refine(writeStr_any g 311 314 85 (dkF (cluCell (next c ⟨rd,-1,[]⟩).fr (next c ⟨rd,-1,[]⟩).F (verOf VA2 (next c ⟨rd,-1,[]⟩).V VC2)) rd ba2 bv2 bits) (by omega) (by decide) g (out++lnsK ln k) (ln k) HLB.out wv HDA.out.blk HDA.out.adr HDA.out.own HDA.out.ne (by rw [List.length_append];have:=HSL.out k (by omega);omega) (Nat.le_of_lt HDA.out.blk.lt) (by kernel_rfl)).mono ?_
    rintro e wz ⟨v',rfl,hblk,hown,hv,hkp⟩
    have HDB:=Lib.hid (HDA.out.write hblk hown hv hkp HL0.out)
    have HRG:=Lib.hid (show ∀k,k<4→wz.rangeAt br (orr+k*14) ((List.range 14).map (repF (G6 c ⟨rd,-1,[]⟩ k)))from fun k hk j v hw=>(cell_same (hkp.block br HLT.out (fun hx=>hx.elim HBG.out HNB.out)) _).trans (HRG.out k hk j v hw))
    have HNB:=Lib.hid (show v'.ownBlock≠some br from fun e=>by
       rcases hv with hv|⟨b,hv,hb2⟩
       · exact HNB.out (hv.symm.trans e)
       · rw [hv]at e;injection e with e;have:=HLT.out;omega)
    have HB:=Lib.hid (HB.out.trans (HDA.out.kpB hkp))
    have HLT:=Lib.hid (Nat.lt_of_lt_of_le HLT.out hkp.size)
    clear hblk hown hv hkp HDA
    have HSS:True:=trivial
    refine hK.out _ _ ?_
    clear hK K
    try simp only [Rg.lp]
    refine Rg.doneR (by kernel_rfl) ?_ _
    refine NoPanic.normal ?_
    go_wp2_with fail
    exact⟨⟨k+1,_,v',by omega,by go_num,by rw [show out++lnsK ln (k+1)=(out++lnsK ln k)++ln k from(List.append_assoc _ _ _).symm];exact HDB.out,HRG.out,HNB.out,HLT.out,HB.out⟩,by simp [intOf];omega⟩
   ·
    obtain rfl:k=4:=by omega
    have f310:=HDA.out.blk.thaw 310
    have c310:=HDA.out.blk.cell 310
    rw [row_at (by omega)]at c310
    go_wp2_with fail
    go_ret
    exact⟨rfl,⟨_,_,_,_,HDA.out.setL⟩,Below.grown HB.out (gr_set _ _ _) (Nat.le_trans (Nat.le_of_lt hgl) (Nat.le_trans (Nat.le_refl _) HB.out.size)) (fun g' e=>by injection e with e;exact Nat.le_of_eq e)⟩
end Dr
namespace Dr
open Go.RowKit Mem Rws Sm Nd Cl Cf ReadLaw
theorem words_at {w:World} {b o n B:Nat} {ws:List (List Nat)} (h:Rd w B 1 (some ⟨b,o,none⟩) n (strsV ws)) (hn:0<n) {j:Nat} (hj:j<ws.length): w.cell? ⟨b,o+j,none⟩=some (.string (strB (ws.getD j []))):=by
 obtain⟨b',o',e,_,h⟩:=h.2 hn
 injection e with e
 injection e with e1 e2
 subst e1 e2
 exact h j _ (strsV_at ws j hj)
set_option maxRecDepth 100000 in
set_option maxHeartbeats 4000000 in
theorem do_tune (l0 l1 l2 l3:List Nat) (hws:∀l∈[[116,117,110,101],l0,l1,l2,l3],Byt l) (hok:okN [[116,117,110,101],l0,l1,l2,l3] 4=true) (t0 t1 t2 t3:Int) (ht:numW [l0,l1,l2,l3]=[t0,t1,t2,t3]) (hwf:Wf t0∧Wf t1∧Wf t2∧Wf t3)
  (g:Nat) (c:CluS) (rd:Nat→Int) (out:List Nat) (b o cc:Nat) (hc:5≤cc) (w:World) (h:Desk w g c rd out (.slice (some ⟨b,o,none⟩) 5 cc)) (hrd:Rd w w.heap.size 1 (some ⟨b,o,none⟩) 5 (strsV [[116,117,110,101],l0,l1,l2,l3])):
  Calls Tryz.prog 22 #[.pointer (some ⟨g,0,none⟩)] w fun e w'=>e=.returned (.bool true)∧(∃b2,Desk w' g (beginS t0 t1 t2 t3) rd out b2)∧Below g w w':=by
 have HC:=Lib.hid (tune_any _ hws rfl hok t0 t1 t2 t3 ht hwf g c rd out b o cc hc w h hrd)
 have c313: w.cell? ⟨g,313,none⟩=some (.slice (some ⟨b,o,none⟩) 5 cc):=by
  obtain⟨VA,VC,ba,bv,hd⟩:=h
  rw [hd.blk.cell,row_at (by omega)];rfl
 have c0: w.cell? ⟨b,o,none⟩=some (.string ⟨#[116,117,110,101]⟩):=words_at hrd (by omega) (j:=0) (by simp)
 clear h hrd hws hok ht hwf
 go_enter Tryz.func22,Tryz.ntmps22
 go_wp2_with fail
 refine HC.out.mono ?_
 rintro e w2 ⟨rfl,hd,hb⟩
 go_wp2_with fail
 go_ret
 exact⟨rfl,⟨_,hd⟩,hb⟩
set_option maxRecDepth 100000 in
set_option maxHeartbeats 4000000 in
theorem do_read (lk l0 l1 l2:List Nat) (hws:∀l∈[[114,101,97,100],lk,l0,l1,l2],Byt l) (k:Nat) (hk:k<4) (hsm:smallOf lk 4=some k) (hok:[l0,l1,l2].all okW=true) (r:Nat→Int) (ht:numW [l0,l1,l2]=[r 0,r 1,r 2]) (hwf:∀i,i<3→Wf (r i))
  (g:Nat) (c:CluS) (rd:Nat→Int) (out:List Nat) (b o cc:Nat) (hc:5≤cc) (w:World) (h:Desk w g c rd out (.slice (some ⟨b,o,none⟩) 5 cc)) (hrd:Rd w w.heap.size 1 (some ⟨b,o,none⟩) 5 (strsV [[114,101,97,100],lk,l0,l1,l2])):
  Calls Tryz.prog 22 #[.pointer (some ⟨g,0,none⟩)] w fun e w'=>e=.returned (.bool true)∧(∃b2,Desk w' g c (rdK rd k r) out b2)∧Below g w w':=by
 have HC:=Lib.hid (read_any _ hws rfl k hk hsm hok r ht hwf g c rd out b o cc hc w h hrd)
 have c313: w.cell? ⟨g,313,none⟩=some (.slice (some ⟨b,o,none⟩) 5 cc):=by
  obtain⟨VA,VC,ba,bv,hd⟩:=h
  rw [hd.blk.cell,row_at (by omega)];rfl
 have c0: w.cell? ⟨b,o,none⟩=some (.string ⟨#[114,101,97,100]⟩):=words_at hrd (by omega) (j:=0) (by simp)
 clear h hrd hws hok ht hwf hsm
 go_enter Tryz.func22,Tryz.ntmps22
 go_wp2_with fail
 refine HC.out.mono ?_
 rintro e w2 ⟨rfl,hd,hb⟩
 go_wp2_with fail
 go_ret
 exact⟨rfl,hd,hb⟩
set_option maxRecDepth 100000 in
set_option maxHeartbeats 4000000 in
theorem do_frame (c:CluS) (rd:Nat→Int) (hn:Sane (next c ⟨rd,-1,[]⟩)) (ln:Nat→List Nat) (hln:∀k,k<4→RepLn (row 14 (repF (G6 c ⟨rd,-1,[]⟩ k))) (ln k)) (g:Nat) (out:List Nat) (hout:out.length≤1000000) (b o cc:Nat) (w:World) (h:Desk w g c rd out (.slice (some ⟨b,o,none⟩) 1 cc)) (hz:TzAt w) (h5:7<g)
  (hrd:Rd w w.heap.size 1 (some ⟨b,o,none⟩) 1 (strsV [[102,114,97,109,101]])):
  Calls Tryz.prog 22 #[.pointer (some ⟨g,0,none⟩)] w fun e w'=>e=.returned (.bool true)∧(∃b2,Desk w' g (next c ⟨rd,-1,[]⟩) rd (out++lnsK ln 4) b2)∧Below g w w':=by
 have HC:=Lib.hid (deskframe_any c rd hn ln hln g out hout _ w h hz h5)
 have c313: w.cell? ⟨g,313,none⟩=some (.slice (some ⟨b,o,none⟩) 1 cc):=by
  obtain⟨VA,VC,ba,bv,hd⟩:=h
  rw [hd.blk.cell,row_at (by omega)];rfl
 have c0: w.cell? ⟨b,o,none⟩=some (.string ⟨#[102,114,97,109,101]⟩):=words_at hrd (by omega) (j:=0) (by simp)
 clear h hrd hn hln hz
 go_enter Tryz.func22,Tryz.ntmps22
 go_wp2_with fail
 refine HC.out.mono ?_
 rintro e w2 ⟨rfl,hd,hb⟩
 go_wp2_with fail
 go_ret
 exact⟨rfl,⟨_,hd⟩,hb⟩
end Dr
end Go.Proofs.YtljpoibnkkcjdaaGreatDoor
