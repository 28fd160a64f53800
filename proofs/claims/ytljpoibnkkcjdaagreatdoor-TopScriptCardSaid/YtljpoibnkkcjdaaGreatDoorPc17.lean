import Derived.Great.BuildSlice
import Derived.Test.YtljpoibnkkcjdaaGreatDoorPc11
set_option linter.unusedVariables false
set_option linter.unusedSimpArgs false
namespace Go.Proofs.YtljpoibnkkcjdaaGreatDoor
namespace Cl
open Go.RowKit Mem Rws Nd
def RunC.setNode (s:RunC) (i:Nat) (F:Nat→Value) (A:Option Addr) (V:List Bool) (c:Nat):RunC:={ s with F:=setAt s.F i F,VA:=setAt s.VA i A,VL:=setAt s.VL i V,VC:=setAt s.VC i c }
theorem RunC.setNode_ver (s:RunC) (i:Nat) (F:Nat→Value) (A:Option Addr) (V:List Bool) (c:Nat):(s.setNode i F A V c).verV i=.slice A V.length c:=by
 unfold RunC.verV RunC.setNode
 dsimp only
 rw [setAt_self,setAt_self,setAt_self]
theorem RunC.setNode_ne (s:RunC) {i k:Nat} (F:Nat→Value) (A:Option Addr) (V:List Bool) (c:Nat) (h:k≠i):(s.setNode i F A V c).verV k=s.verV k:=by
 unfold RunC.verV RunC.setNode
 dsimp only
 rw [setAt_ne _ _ h,setAt_ne _ _ h,setAt_ne _ _ h]
theorem RunC.setNode_cell (s:RunC) (i:Nat) (hi:i<4) (F:Nat→Value) (A:Option Addr) (V:List Bool) (c:Nat) (j:Nat):(s.setNode i F A V c).cell j=over (1+74*i) 74 (nodeW F (.slice A V.length c)) s.cell j:=by
 by_cases h0:j=0
 ·
  rw [over_out (by omega)]
  subst h0
  rfl
 by_cases h1:j<297
 ·
  by_cases hq:(j-1)/74=i
  ·
   rw [over_in (by omega) (by omega)]
   unfold RunC.cell
   rw [if_neg h0,if_pos h1,hq,s.setNode_ver]
   rw [show(s.setNode i F A V c).F i=F from setAt_self _ _ _,show(j-1)%74=j-(1+74*i)by omega]
  ·
   rw [over_out (by omega)]
   unfold RunC.cell
   rw [if_neg h0,if_pos h1,if_neg h0,if_pos h1,s.setNode_ne F A V c hq]
   rw [show(s.setNode i F A V c).F ((j-1)/74)=s.F ((j-1)/74)from setAt_ne _ _ hq]
 ·
  rw [over_out (by omega)]
  unfold RunC.cell
  rw [if_neg h0,if_neg h1,if_neg h0,if_neg h1]
  rfl
theorem RunC.node_at (s:RunC) {i:Nat} (hi:i<4) {j:Nat} (hj:j<74):s.cell (1+74*i+j)=nodeW (s.F i) (s.verV i) j:=by
 unfold RunC.cell
 rw [if_neg (by omega),if_pos (by omega),show(1+74*i+j-1)/74=i by omega,show(1+74*i+j-1)%74=j by omega]
theorem gr_setCellsR (w:World) (g:Nat):∀(vs:List Value) (o:Nat),w.grownBy (w.setCells g o vs) (some g)
 |[],_=>grown_same w _
 |v::r,o=>by
  rw [World.setCells]
  have h1:=gr_setCell w g o v
  have h2:=gr_setCellsR (w.setCell ⟨g,o,none⟩ v) g r (o+1)
  exact⟨h2.os.trans h1.os,h2.tape.trans h1.tape,h2.output.trans h1.output,Nat.le_trans h1.size h2.size,fun k hk hne=>(h2.block k (Nat.lt_of_lt_of_le hk h1.size) hne).trans (h1.block k hk hne)⟩
theorem RunAt.patch {w w':World} {R b0:Nat} {s s':RunC} (h:RunAt w R b0 s) (hg:w.grownBy w' (some R)) (hb:Blk w' R 68 (row 315 s'.cell)) (e1:s'.bA=s.bA) (e2:s'.bX=s.bX) (e3:s'.bC=s.bC)
  (hv:∀i,i<4→(s'.VA i=none→s'.VC i=0)∧(s'.VL i).length≤s'.VC i∧(s'.VL i).length≤140737488351232∧Rd w w.heap.size 1 (s'.VA i) (s'.VL i).length (boolsV (s'.VL i))∧(0<(s'.VL i).length→∀a,s'.VA i=some a→a.block<w.heap.size∧a.block≠R∧∀j,j<4→s.own j≠some a.block)):
  RunAt w' R b0 s'∧Keep w w' R s s':=by
 have hown:∀i,s'.own i=s.own i:=fun i=>by unfold RunC.own RunC.boxV;rw [e1,e2,e3]
 have hblk:∀b,b<w.heap.size→b≠R→w'.heap[b]?=w.heap[b]?:=fun b hb hR=>hg.block b hb fun e=>by injection e with e;exact hR e
 have hrun:∀g,some R=some g→∃cur t,w.heap[g]?=some (.cells cur t (0,0))∧t≠3:=fun g e=>by injection e with e;subst e;exact⟨_,_,h.blk,by decide⟩
 refine⟨⟨hb,h.low,fun i hi=>?_,fun i hi=>?_,fun i j hi hj hij=>?_⟩,⟨hg.os,hg.tape,hg.output,hg.size,fun i _=>.inl (hown i),fun b hb hR _=>hblk b hb hR⟩⟩
 ·
  obtain⟨h1,h2,h3,h4,h5⟩:=hv i hi
  refine⟨h1,h2,h3,rd_kept h4 hg.size (fun hn0 a e=>hblk _ (h5 hn0 a e).1 (h5 hn0 a e).2.1),fun hn0 a e=>⟨Nat.lt_of_lt_of_le (h5 hn0 a e).1 hg.size,(h5 hn0 a e).2.1,fun j hj=>by rw [hown];exact(h5 hn0 a e).2.2 j hj⟩⟩
 ·
  rw [e1,e2,e3]
  refine own_msgs_grown (h.box i hi) hg ?_ hrun
  have:=h.own_ne hi
  unfold RunC.own RunC.boxV at this
  exact .inr this
 · rw [hown,hown];exact h.apart i j hi hj hij
theorem RunAt.setNode {w:World} {R b0:Nat} {s:RunC} (h:RunAt w R b0 s) {i:Nat} (hi:i<4) (F:Nat→Value) (A:Option Addr) (V:List Bool) (c:Nat)
  (hv:(A=none→c=0)∧V.length≤c∧V.length≤140737488351232∧Rd w w.heap.size 1 A V.length (boolsV V)∧(0<V.length→∀a,A=some a→a.block<w.heap.size∧a.block≠R∧∀j,j<4→s.own j≠some a.block)):
  RunAt (w.setCells R (1+74*i) (row 74 (nodeW F (.slice A V.length c))).toList) R b0 (s.setNode i F A V c)∧Keep w (w.setCells R (1+74*i) (row 74 (nodeW F (.slice A V.length c))).toList) R s (s.setNode i F A V c):=by
 refine h.patch (gr_setCellsR _ _ _ _) ?_ rfl rfl rfl fun k hk=>?_
 ·
  have:=blk_mid h.blk (1+74*i) 74 (nodeW F (.slice A V.length c))
  rw [show row 315 (over (1+74*i) 74 (nodeW F (.slice A V.length c)) s.cell)=row 315 (s.setNode i F A V c).cell from row_congr fun j hj=>(s.setNode_cell i hi F A V c j).symm]at this
  exact this
 ·
  show(setAt s.VA i A k=none→setAt s.VC i c k=0)∧(setAt s.VL i V k).length≤setAt s.VC i c k∧(setAt s.VL i V k).length≤140737488351232∧Rd w w.heap.size 1 (setAt s.VA i A k) (setAt s.VL i V k).length (boolsV (setAt s.VL i V k))∧(0<(setAt s.VL i V k).length→∀a,setAt s.VA i A k=some a→a.block<w.heap.size∧a.block≠R∧∀j,j<4→s.own j≠some a.block)
  by_cases e:k=i
  ·
   subst e
   rw [setAt_self,setAt_self,setAt_self]
   exact hv
  ·
   rw [setAt_ne _ _ e,setAt_ne _ _ e,setAt_ne _ _ e]
   exact h.ver k hk
def RunC.bare (s:RunC):RunC:=s.boxes (fun _=>none) (fun _=>[]) (fun _=>0)
theorem RunC.bare_cell (s:RunC) (j:Nat) (hj:j<315):s.bare.cell j=over 311 4 (fun _=>.slice none 0 0) s.cell j:=by
 unfold over
 by_cases h:311≤j
 ·
  rw [if_pos ⟨h,by omega⟩]
  unfold RunC.cell
  rw [if_neg (by omega),if_neg (by omega),if_neg (by omega),if_neg (by omega),if_neg (by omega)]
  rfl
 ·
  rw [if_neg (by omega)]
  unfold RunC.cell
  by_cases h0:j=0
  · rw [if_pos h0,if_pos h0];rfl
  rw [if_neg h0,if_neg h0]
  by_cases h1:j<297
  · rw [if_pos h1,if_pos h1];rfl
  rw [if_neg h1,if_neg h1]
  by_cases h2:j<309
  · rw [if_pos h2,if_pos h2];rfl
  rw [if_neg h2,if_neg h2]
  by_cases h3:j=309
  · rw [if_pos h3,if_pos h3];rfl
  rw [if_neg h3,if_neg h3,if_pos (by omega),if_pos (by omega)]
  rfl
theorem RunAt.bare {w:World} {R b0:Nat} {s:RunC} (h:RunAt w R b0 s):RunAt (w.setCells R 311 (row 4 fun _=>.slice none 0 0).toList) R b0 s.bare∧w.grownBy (w.setCells R 311 (row 4 fun _=>.slice none 0 0).toList) (some R):=by
 have hg:=gr_setCellsR w R (row 4 fun _=>.slice none 0 0).toList 311
 have hblk:∀b,b<w.heap.size→b≠R→(w.setCells R 311 (row 4 fun _=>.slice none 0 0).toList).heap[b]?=w.heap[b]?:=fun b hb hR=>hg.block b hb fun e=>by injection e with e;exact hR e
 refine⟨⟨?_,h.low,fun i hi=>?_,fun i hi=>Ms.OwnMsgs.nil _ _,fun i j hi hj hij=>.inl rfl⟩,hg⟩
 ·
  have:=blk_mid h.blk 311 4 (fun _=>.slice none 0 0)
  rw [show row 315 (over 311 4 (fun _=>.slice none 0 0) s.cell)=row 315 s.bare.cell from row_congr fun j hj=>(s.bare_cell j hj).symm]at this
  exact this
 ·
  obtain⟨h1,h2,h3,h4,h5⟩:=h.ver i hi
  exact⟨h1,h2,h3,rd_kept h4 hg.size (fun hn0 a e=>hblk _ (h5 hn0 a e).1 (h5 hn0 a e).2.1),fun hn0 a e=>⟨Nat.lt_of_lt_of_le (h5 hn0 a e).1 hg.size,(h5 hn0 a e).2.1,fun j hj e2=>by cases e2⟩⟩
theorem RunAt.aside {w w':World} {R b0:Nat} {s:RunC} (h:RunAt w R b0 s) {g:Nat} {t:TypeId} {cs:Array Value} (hb:Blk w g t cs) (hg:w.grownBy w' (some g)) (hR:g≠R) (hX:∀i,i<4→s.own i≠some g) (ht:t≠3) (hV:∀i,i<4→0<(s.VL i).length→∀a,s.VA i=some a→a.block≠g):RunAt w' R b0 s:=by
 have hblk:∀b,b<w.heap.size→b≠g→w'.heap[b]?=w.heap[b]?:=fun b hb hR=>hg.block b hb fun e=>by injection e with e;exact hR e
 have hrun:∀x,some g=some x→∃cur t',w.heap[x]?=some (.cells cur t' (0,0))∧t'≠3:=fun x e=>by injection e with e;subst e;exact⟨_,_,hb,ht⟩
 refine⟨(hblk R h.blk.lt (fun e=>hR e.symm)).trans h.blk,h.low,fun i hi=>?_,fun i hi=>?_,h.apart⟩
 ·
  obtain⟨h1,h2,h3,h4,h5⟩:=h.ver i hi
  exact⟨h1,h2,h3,rd_kept h4 hg.size (fun hn0 a e=>hblk _ (h5 hn0 a e).1 (hV i hi hn0 a e)),fun hn0 a e=>⟨Nat.lt_of_lt_of_le (h5 hn0 a e).1 hg.size,(h5 hn0 a e).2⟩⟩
 ·
  refine own_msgs_grown (h.box i hi) hg ?_ hrun
  have:=hX i hi
  unfold RunC.own RunC.boxV at this
  exact .inr this
theorem gr_setRowR (w:World) (g:Nat) (R:Array Value):w.grownBy (w.setRow g R) (some g):=
 have hb:=below_setRow (Below.refl 0 w) (Nat.zero_le g) R
 ⟨hb.os,hb.tape,hb.output,hb.size,fun k _ hne=>setRow_other w g k R (fun e=>hne (by rw [e]))⟩
theorem Keep.aside {w2 w w':World} {R:Nat} {s s':RunC} (k:Keep w2 w R s s') {g:Nat} (hg:w.grownBy w' (some g)) (hn:w2.heap.size≤g):Keep w2 w' R s s':=
 ⟨hg.os.trans k.os,hg.tape.trans k.tape,hg.output.trans k.output,Nat.le_trans k.size hg.size,k.own,fun b hb hR hX=>(hg.block b (Nat.lt_of_lt_of_le hb k.size) (fun e=>by injection e with e;omega)).trans (k.block b hb hR hX)⟩
theorem own_old {w W:World} {R:Nat} {cs:Array Value} (hb:Blk w R 68 cs) (hs:w.heap.size≤W.heap.size) (ho:∀b,b<w.heap.size→b≠R→W.heap[b]?=w.heap[b]?) {base:Nat} {e:TypeId} {size n:Nat} {v:Value} {xs:List Value} (h:w.ownsRow base e size v n xs) (he:e≠68):W.ownsRow base e size v n xs:=by
 obtain⟨hl,h|⟨b,cap,cur,hv,hb1,hh,hc⟩⟩:=h
 · exact⟨hl,.inl h⟩
 ·
  refine⟨hl,.inr ⟨b,cap,cur,hv,hb1,(ho b (Array.getElem?_eq_some_iff.1 hh).1 fun e=>?_).trans hh,hc⟩⟩
  subst e
  unfold Blk at hb
  rw [hb]at hh
  injection hh with hh
  injection hh with _ g1 _
  exact he g1.symm
theorem msgs_old {w W:World} {R:Nat} {cs:Array Value} (hb:Blk w R 68 cs) (hs:w.heap.size≤W.heap.size) (ho:∀b,b<w.heap.size→b≠R→W.heap[b]?=w.heap[b]?) {base:Nat} {A:Option Addr} {c:Nat} {ms:List Ms.Msg} (h:Ms.OwnMsgs w base A c ms):Ms.OwnMsgs W base A c ms:=by
 obtain⟨xs,h1,hx⟩:=h
 refine⟨xs,own_old hb hs ho h1 (by decide),fun i m hm=>?_⟩
 obtain⟨a,c',g1,g2,g3⟩:=hx i m hm
 exact⟨a,c',g1,own_old hb hs ho g2 (by decide),g3⟩
theorem rd_lt {w:World} {B size n:Nat} {A:Option Addr} {xs:List Value} (h:Rd w B size A n xs) (hn:0<n) {a:Addr} (e:A=some a):a.block<B:=by
 obtain⟨b,o,e2,hb,_⟩:=h.2 hn
 rw [e]at e2
 injection e2 with e2
 subst e2
 exact hb
end Cl
namespace Rws
open Go.RowKit Mem
section
variable {P : Program} {ops : Array Oper} {rest : List Oper} {o : Oper} {a : Act} {w : World} {Q : Exit → Act → World → Prop}
theorem wpList_slice1 (hg:o.guard=none) (t e:TypeId) (x:Operand) (ho:o.op=.buildSlice t 1 #[(0,x)]) (v:Value) (hx:a.eval x=v) (n:Nat)
  (hu:P.underlying t=some (.slice e)) (hs:(P.info? e).map (·.size)=some n) (hz:((P.info? e).bind (·.zero)).map (·.cells.size)=some n) (hpos:0<n) (hsm:n≤16777216) (hv:v.cells.size=n)
  (h:wpList P ops Q rest (a.put o.dst (.slice (some ⟨w.heap.size,0,none⟩) 1 1)) (w.alloc (.cells v.cells e))):wpList P ops Q (o::rest) a w:=by
 cases hie: P.info? e with
 |none=>simp [hie]at hs
 |some ie=>
  simp only [hie,Option.map_some,Option.some.injEq,Option.bind_some]at hs hz
  cases hzz:ie.zero with
  |none=>simp [hzz]at hz
  |some z=>
   refine wpList_buildSlice hg t e 1 #[(0,x)] ho v.cells ie z hu hie hzz (by rw [hs];omega) (by rw [hs];omega) ?_ h
   have h2:=Great.fill_whole (s:=n) hpos [v] ((Array.range (1*ie.size)).map (z.cells[· %z.cells.size]!)) (fun u hu=>by simp at hu;subst hu;exact hv) (by simp [hs])
   simp only [List.flatMap_cons,List.flatMap_nil,List.append_nil,Array.toArray_toList]at h2
   rw [hs]at h2 ⊢
   simp only [List.map_toArray,List.map_cons,List.map_nil,hx]
   exact h2
theorem wpList_rng (hw:Region.wanted o (yielded ops a.tmps)=true) (ty:TypeId) (x:Operand) (ho:o.op=.load ty x)
  (b off m:Nat) (hx:a.eval x=.pointer (some ⟨b,off,none⟩)) (g:Nat→Value) (hb:w.rangeAt b off ((List.range m).map g)) (d:TypeDesc)
  (hu:P.underlying ty=some d) (hd:d.isRow=true) (hi:(P.info? ty).map (·.size)=some m)
  (h:wpList P ops Q rest (a.put o.dst (.agg (row m g))) w):wpList P ops Q (o::rest) a w:=
 wpList_wanted hw fun _ hK=>wp_load_mid ty x ho b off hx _ d hb hu hd (by rw [hi];simp) (hK _ _ h)
end
theorem chunk_snoc {n i:Nat} {cs new:List Value} (hl:cs.length=i*n) (j:Nat) (hj:j<i):((cs++new).drop (j*n)).take n=(cs.drop (j*n)).take n:=by
 have h1:j*n+n≤i*n:=by
  have:=Nat.mul_le_mul_right n hj
  rw [Nat.succ_mul]at this
  exact this
 rw [List.drop_append_of_le_length (by omega),List.take_append_of_le_length (by rw [List.length_drop];omega)]
theorem chunk_last {n i:Nat} {cs new:List Value} (hl:cs.length=i*n) (hn:new.length=n):((cs++new).drop (i*n)).take n=new:=by
 rw [←hl,List.drop_left]
 exact List.take_of_length_le (Nat.le_of_eq hn)
end Rws
namespace Rg
theorem wp_alloc0 {P:Program} {o:Oper} {a:Act} {w:World} {K:Act→World→Prop} {Q:Exit→Act→World→Prop} (t:TypeId) (z:Array Value) (ho:o.op=.alloc t) (hz:(Instr.alloc t true (.tuple #[])).run P w=.ok (.pointer (some ⟨w.heap.size,0,none⟩)) (w.alloc (.cells z t)))
  (h:K (a.put o.dst (.pointer (some ⟨w.heap.size,0,none⟩))) (w.alloc (.cells z t))):Oper.wp P o a w K Q:=by
 unfold Oper.wp execOp
 simp only [ho,Sem.run_bind,hz,Result.andThen_ok,Sem.run_pure]
 exact h
end Rg
namespace Cl
open Go.ChangeShapes Go.WideShapes Go.ChangeAt Go.RowKit Mem Rws Nd
def Old (w W:World) (R:Nat):Prop:=w.heap.size≤W.heap.size∧∀b,b<w.heap.size→b≠R→W.heap[b]?=w.heap[b]?
def Rest (s s':RunC):Prop:=s'.fr=s.fr∧s'.rd=s.rd∧s'.bad=s.bad∧s'.LA=s.LA∧s'.LL=s.LL∧s'.LC=s.LC
theorem Old.keep {w w2 wr:World} {R:Nat} {s s':RunC} (h:Old w w2 R) (k:Keep w2 wr R s s') (hb:∀i,i<4→s.own i=none):Old w wr R:=
 ⟨Nat.le_trans h.1 k.size,fun b hb1 hR=>(k.block b (Nat.lt_of_lt_of_le hb1 h.1) hR fun i hi e=>by rw [hb i hi]at e;cases e).trans (h.2 b hb1 hR)⟩
theorem RunC.boxes_range {w:World} {R b0:Nat} {s:RunC} (h:RunAt w R b0 s):(row 4 fun j=>s.cell (311+j))=row 4 s.boxV:=row_congr fun j hj=>s.cell_box hj
structure PhAt (w2 wx:World) (R b0:Nat) (s s':RunC) (gn gm:Nat) (F:Nat→Value) (V:List Bool) (k f n:Int) (zs:List Int) (AN:Option Addr) (cn:Nat) (AM:Option Addr) (cm:Nat):Prop where
 node:Blk wx gn 39 (row 74 (nodeW F (.slice AN V.length cn)))
 msg:Blk wx gm 72 (Ms.msgC k f n AM zs.length cm)
 run:RunAt wx R b0 s'
 keep:Keep w2 wx R s.bare s'
 ra:Rd wx wx.heap.size 1 AN V.length (boolsV V)
 rm:Rd wx wx.heap.size 1 AM zs.length (Ms.intsV zs)
 an:(AN=none→cn=0)∧V.length≤cn
 lo:0<V.length→∀a,AN=some a→a.block<wx.heap.size∧a.block≠R∧∀j,j<4→s'.own j≠some a.block
 lm:0<zs.length→∀a,AM=some a→a.block<wx.heap.size∧a.block≠R
 nn:gn≠R
 nm:gm≠R
 ge:∀a,AN=some a→w2.heap.size≤a.block
set_option maxRecDepth 100000 in
set_option maxHeartbeats 4000000 in
theorem phase_any (R b0:Nat) (s:RunC) (ph:Int) (g:Nat) (lb:Array Value) (eg:∀args w,(callFunc g args).run Tryz.prog w=.ok (.enter g args) w) (ls:List Lie) (hll:s.LL=ls.length) (hn:ls.length≤400) (w:World) (h:RunAt w R b0 s) (hls:LiesAt w b0 s.LA ls)
  (G:Nat→Nat→Value) (V:Nat→List Bool) (mk mf mn:Nat→Int) (mz:Nat→List Int) (hV:∀i,i<4→(V i).length≤140737488351232) (hz:∀i,i<4→(mz i).length*8≤140737488351232) (hG:∀i,i<4→∀j,j<73→okT (nodeT j) (G i j))
  (hf:∀i:Nat,i<4→(i:Int)≠s.bad→∀(W:World) (A:Option Addr) (c:Nat) (AI:Option Addr) (ci:Nat),Old w W R→(A=none→c=0)→(s.VL i).length≤c→(s.VL i).length≤140737488351232→Rd W W.heap.size 1 A (s.VL i).length (boolsV (s.VL i))→Ms.MsgsAt W W.heap.size AI (s.bX i)→
   Calls Tryz.prog g (#[.agg (row 74 (nodeW (s.F i) (.slice A (s.VL i).length c))),.slice AI (s.bX i).length ci]++lb) W fun e w'=>NodeMsg W w' (G i) (V i) (mk i) (mf i) (mn i) (mz i) e):
  Calls Tryz.prog 13 #[.pointer (some ⟨R,0,none⟩),.int .i64 ph,.func (.func g) #[] lb] w fun e w'=>e=.returned (.tuple #[])∧Old w w' R∧w'.os=w.os∧w'.tape=w.tape∧w'.output=w.output∧∃s',RunAt w' R b0 s'∧Rest s s'∧s'.F=newK s.bad G s.F 4∧s'.VL=newK s.bad V s.VL 4∧s'.bX=phX s.bad ph ls mk mf mn mz 4∧∀j,j<4→s'.VA j=s.VA j∨∀a,s'.VA j=some a→w.heap.size≤a.block:=by
 have HRA:=Lib.hid h
 have HR0:=Lib.hid h
 have hRw:=h.blk.lt
 have HLS:=Lib.hid hls
 have HF:=Lib.hid hf
 have HG:=Lib.hid hG
 clear h hls hf hG
 have i4:(Tryz.prog.info? 66).map (·.size)=some 4:=by kernel_rfl
 have hbr:=RunC.boxes_range HRA.out
 have i4r:(Tryz.prog.info? 66).map (·.size)=some (row 4 s.boxV).size:=by rw [row_size];exact i4
 have z4r:(#[.slice none 0 0,.slice none 0 0,.slice none 0 0,.slice none 0 0]:Array Value).size=(row 4 s.boxV).size:=by rw [row_size];rfl
 have o4r:(row 4 s.boxV).all (·.oneCell')=true:=row_one fun j hj=>rfl
 obtain⟨RB,hRB⟩:∃x,row 4 s.boxV=x:=⟨_,rfl⟩
 rw [hRB]at i4r z4r o4r hbr
 have HRB:=Lib.hid hRB
 clear hRB
 have D6:=Lib.hid (show Blk (w.alloc (.cells #[.slice none 0 0,.slice none 0 0,.slice none 0 0,.slice none 0 0] 66)) w.heap.size 66 #[.slice none 0 0,.slice none 0 0,.slice none 0 0,.slice none 0 0]from Blk.fresh _ _ _)
 have hb:Below w.heap.size w (w.alloc (.cells #[.slice none 0 0,.slice none 0 0,.slice none 0 0,.slice none 0 0] 66)):=(Below.refl _ _).alloc (Nat.le_refl _) _
 have HRA1:=Lib.hid (HRA.out.below hb)
 have HB:=Lib.hid (below_setRow hb (Nat.le_refl _) RB)
 have hsz:=hb.size
 clear hb
 go_enter Tryz.func13,Tryz.ntmps13
 go_upto_region 1 with(first
  |(refine wpList_mid rfl 66 _ rfl R 311 4 rfl HRA.out.blk (by omega) _ Tryz.underlying66 rfl i4 ?_;rw [hbr])
  |(refine wpList_mid rfl 66 _ rfl R 311 4 rfl HRA1.out.blk (by omega) _ Tryz.underlying66 rfl i4 ?_;rw [hbr])
  |(refine wpList_store_row rfl 66 _ _ rfl w.heap.size RB rfl rfl 66 _ D6.out i4r z4r o4r ?_))
 have D6:=Lib.hid (D6.out.setRow RB)
 have HRA:=Lib.hid (HRA.out.below HB.out)
 generalize((w.alloc (.cells #[.slice none 0 0,.slice none 0 0,.slice none 0 0,.slice none 0 0] 66)).setRow w.heap.size RB)=w1 at*
 obtain⟨gl,hgl⟩:∃g,w.heap.size=g:=⟨_,rfl⟩
 rw [hgl]at D6 ⊢
 have HGL:=Lib.hid hgl
 clear hgl i4r z4r o4r hbr HRA1
 go_upto_region 2 with(refine wpList_put rfl 66 _ _ rfl R 311 4 (fun _=>.slice none 0 0) rfl rfl HRA.out.blk (by omega) i4 (fun _ _=>rfl) ?_)
 obtain⟨hba,hgr⟩:=HRA.out.bare
 have HBA:=Lib.hid hba
 have HGR:=Lib.hid hgr
 have hRl:=HRA.out.blk.lt
 have DL:=Lib.hid (show Blk (w1.setCells R 311 (row 4 fun _=>.slice none 0 0).toList) gl 66 RB from blk_mid_other (w:=w1) (by have:=HGL.out;omega) _ _ _ D6.out)
 have HOW:=Lib.hid (show Old w (w1.setCells R 311 (row 4 fun _=>.slice none 0 0).toList) R from⟨Nat.le_trans HB.out.size hgr.size,fun b hb hR=>(hgr.block b (Nat.lt_of_lt_of_le hb HB.out.size) fun e=>by injection e with e;exact hR e).trans (HB.out.block b hb)⟩)
 have HOS:=Lib.hid (And.intro (hgr.os.trans HB.out.os) (And.intro (hgr.tape.trans HB.out.tape) (hgr.output.trans HB.out.output)))
 clear hba hgr HGR D6 HRA
 generalize(w1.setCells R 311 (row 4 fun _=>.slice none 0 0).toList)=w2 at*
 go_wp2_with fail
 go_loopw [18] (fun x wr=>∃i:Nat,i≤4∧x=.int .i64 i∧∃s',RunAt wr R b0 s'∧Rest s s'∧s'.F=newK s.bad G s.F i∧s'.VL=newK s.bad V s.VL i∧s'.bX=phX s.bad ph ls mk mf mn mz i∧Keep w2 wr R s.bare s'∧∀j,j<4→s'.VA j=s.VA j∨∀a,s'.VA j=some a→w.heap.size≤a.block) (fun x _=>4-(intOf x).toNat)
 case atStart=>exact⟨0,by omega,rfl,s.bare,HBA.out,⟨rfl,rfl,rfl,rfl,rfl,rfl⟩,(newK_zero _ _ _).symm,(newK_zero _ _ _).symm,rfl,Keep.refl _ _ _,fun _ _=>.inl rfl⟩
 case round=>
  obtain⟨i,hi,rfl,s',hra,hre,hF,hVL,hbX,hkp,hva⟩:=hrel
  have HRJ:=Lib.hid hra
  have HRE:=Lib.hid hre
  have HFE:=Lib.hid hF
  have HVE:=Lib.hid hVL
  have HXE:=Lib.hid hbX
  have HKJ:=Lib.hid hkp
  have HVA:=Lib.hid hva
  have HOJ:=Lib.hid (HOW.out.keep hkp fun _ _=>rfl)
  have y9:=hra.bad_at
  rw [hre.2.2.1]at y9
  clear hra hre hF hVL hbX hkp hva
  by_cases hlt:i<4
  ·
   have hj0:(0:Int)≤(i:Int):=by omega
   have hj4:(i:Int)<4:=by omega
   by_cases hbd:(i:Int)=s.bad
   ·
    have hbb:((i:Int)==s.bad)=true:=by simp [hbd]
    have HPX:=Lib.hid (show phX s.bad ph ls mk mf mn mz (i+1)=lieX (phX s.bad ph ls mk mf mn mz i) s.bad ph ls from if_pos hbd)
    have HG1:=Lib.hid (newK_bad s.bad G s.F i hbd)
    have HV1:=Lib.hid (newK_bad s.bad V s.VL i hbd)
    have HLJ:=Lib.hid (show LiesAt wr b0 s'.LA ls from by
     rw [HRE.out.2.2.2.1]
     have hlow:=HR0.out.low
     exact HLS.out.keep fun b o hb=>cell_same (HOJ.out.2 b (by omega) (by omega)) o)
    have HLN:=Lib.hid (show ∀k,k<4→(s'.bX k).length≤100000 from fun k hk=>by
     rw [HXE.out]
     have:=phX_len s.bad ph ls mk mf mn mz hn k i
     omega)
    clear hbd
    go_wp2_with fail
    refine(lie_any R b0 s' ph ls (HRE.out.2.2.2.2.1.trans hll) wr HRJ.out HLJ.out hn HLN.out).mono ?_
    rintro e w4 ⟨rfl,bA,bC,hra,hkp⟩
    have HRJ2:=Lib.hid hra
    have HKJ2:=Lib.hid (HKJ.out.trans hkp)
    clear hra hkp
    go_wp2_with fail
    exact⟨⟨i+1,by omega,by go_num,_,HRJ2.out,HRE.out,HFE.out.trans HG1.out.symm,HVE.out.trans HV1.out.symm,(show lieX s'.bX s'.bad ph ls=_ from by rw [HPX.out,HXE.out,HRE.out.2.2.1]),HKJ2.out,HVA.out⟩,by simp [intOf];omega⟩
   ·
    have hbb:((i:Int)==s.bad)=false:=by simp [hbd]
    have HPX:=Lib.hid (show phX s.bad ph ls mk mf mn mz (i+1)=postX (phX s.bad ph ls mk mf mn mz i) (mk i) (mf i) (mn i) (mz i)from if_neg hbd)
    have HG1:=Lib.hid (newK_good s.bad G s.F i hbd)
    have HV1:=Lib.hid (newK_good s.bad V s.VL i hbd)
    have HBD:=Lib.hid hbd
    clear hbd
    go_upto_region 7 with fail
    go_cut [8,9] (fun p q wx=>∃gn gm AN cn AM cm,p=.pointer (some ⟨gn,0,none⟩)∧q=.pointer (some ⟨gm,0,none⟩)∧PhAt w2 wx R b0 s s' gn gm (G i) (V i) (mk i) (mf i) (mn i) (mz i) AN cn AM cm)
    case first=>
     have y6:True:=trivial
     have HVI:=Lib.hid (show s'.VL i=s.VL i from by rw [HVE.out,newK_at])
     have YB:=Lib.hid (show ∀W,Keep w2 W R s.bare s'→ W.cell? ⟨gl,i,none⟩=some (s.boxV i)from fun W hk=>by
      have hgR:gl≠R:=by have:=HGL.out;omega
      have hb:=hk.kept DL.out hgR (fun j hj e=>by cases e)
      have hc:=hb.cell i
      rw [←HRB.out,row_at (by omega)]at hc
      exact hc)
     have YN:=Lib.hid (show ∀W,RunAt W R b0 s'→W.rangeAt R (1+i*74) ((List.range 74).map (nodeW (s.F i) (.slice (s'.VA i) (s.VL i).length (s'.VC i))))from fun W hr=>by
      rw [show 1+i*74=1+74*i by omega]
      have h1:=row_range hr.blk (1+74*i) 74 (by omega)
      rw [List.map_congr_left (g:=nodeW (s.F i) (.slice (s'.VA i) (s.VL i).length (s'.VC i))) (fun j hj=>by
       have hj':=List.mem_range.1 hj
       rw [s'.node_at hlt hj',HFE.out,newK_at]
       unfold RunC.verV
       rw [HVE.out,newK_at])]at h1
      exact h1)
     have hb:Below wr.heap.size wr wr.drew:=(Below.refl _ _).drew
     have HRJ:=Lib.hid (HRJ.out.below hb)
     have HKJ:=Lib.hid (HKJ.out.trans (Keep.of_below (R:=R) (s:=s') hb))
     clear hb y9 hbb y6
     refine wp_region_noPanic ?_
     have HS:=(show wr.drew.cell? ⟨gl,i,none⟩=some (s.boxV i)∧wr.drew.rangeAt R (1+i*74) ((List.range 74).map (nodeW (s.F i) (.slice (s'.VA i) (s.VL i).length (s'.VC i))))from⟨YB.out wr.drew HKJ.out,YN.out wr.drew HRJ.out⟩)
     refine Rg.beginR [7,10] (fun w'=> w'.cell? ⟨gl,i,none⟩=some (s.boxV i)∧w'.rangeAt R (1+i*74) ((List.range 74).map (nodeW (s.F i) (.slice (s'.VA i) (s.VL i).length (s'.VC i))))) (by kernel_rfl) ?_
     generalize wr.drew=wv at*
     repeat' (first
      |(refine Rg.stp_sK 7 (.agg (row 74 (nodeW (s.F i) (.slice (s'.VA i) (s.VL i).length (s'.VC i))))) HS (hy:=?_) (h:=?_);· (intro w' hSw;exact exec_load_mid 39 _ rfl R (1+i*74) 74 rfl _ _ hSw.2 Tryz.underlying39 rfl (by kernel_rfl)))
      |(refine Rg.stp_rK 10 HS ?_)
      |(refine Rg.stp_qK 0 ?_)|(refine Rg.stp_qK 1 ?_)|(refine Rg.stp_qK 2 ?_)|(refine Rg.stp_qK 3 ?_)|(refine Rg.stp_qK 4 ?_)|(refine Rg.stp_qK 5 ?_)|(refine Rg.stp_qK 6 ?_)|(refine Rg.stp_qK 8 ?_)|(refine Rg.stp_qK 9 ?_)|(refine Rg.stp_qK 12 ?_)|(refine Rg.stp_qK 13 ?_)|(refine Rg.stp_qK 14 ?_)
      |(refine Rg.stp_oK 11 ?_)
      |(refine Rg.stp_t2K 11 15 ?_ ?_)
      |(refine Rg.stp_t3K 11 15 16 ?_ ?_ ?_)
      |(refine Rg.stp_t2K 11 16 ?_ ?_)
      |(refine Rg.stp_oK 15 ?_)
      |(refine Rg.stp_t2K 15 16 ?_ ?_)
      |(refine Rg.stp_oK 16 ?_)
      |(refine Rg.stp_oK 17 ?_)
      |(refine Rg.stp_oK 18 ?_)
      |(refine Rg.stepS ?_;intro K hK;rw [if_pos (by rfl)];(first
       |(clear HS;refine wp_store_row 39 _ _ rfl gn RN rfl rfl 39 _ BN.out iN zN oN ?_;have hgr:=gr_setRowR wv gn RN;have HRJ:=Lib.hid (HRJ.out.aside BN.out hgr HON.out.1 HON.out.2 (by decide) HVN.out);have HKJ:=Lib.hid (HKJ.out.aside hgr HSN.out);have HAN:=Lib.hid (rd_kept HAN.out hgr.size fun hn0 a e=>setRow_other wv gn a.block RN (HQN.out.1 hn0 a e));have HAM:=Lib.hid (rd_kept HAM.out hgr.size fun hn0 a e=>setRow_other wv gn a.block RN (HQN.out.2 hn0 a e));have BM:=Lib.hid (BM.out.setRow_other (g':=gn) (fun e=>HNM.out e.symm) RN);have BN:=Lib.hid (BN.out.setRow RN);clear hgr;generalize(wv.setRow gn RN)=wv at*;have HS:=(show wv.cell? ⟨gl,i,none⟩=some (s.boxV i)∧wv.rangeAt R (1+i*74) ((List.range 74).map (nodeW (s.F i) (.slice (s'.VA i) (s.VL i).length (s'.VC i))))from⟨YB.out wv HKJ.out,YN.out wv HRJ.out⟩))
       |(clear HS;refine wp_store_row 72 _ _ rfl gm (Ms.msgC (mk i) (mf i) (mn i) AM (mz i).length cm) rfl rfl 72 _ BM.out (by kernel_rfl) rfl (by simp [Ms.msgC,Value.oneCell']) ?_;have hgr:=gr_setRowR wv gm (Ms.msgC (mk i) (mf i) (mn i) AM (mz i).length cm);have HRJ:=Lib.hid (HRJ.out.aside BM.out hgr HOM.out.1 HOM.out.2 (by decide) HVM.out);have HKJ:=Lib.hid (HKJ.out.aside hgr HSM.out);have HAN:=Lib.hid (rd_kept HAN.out hgr.size fun hn0 a e=>setRow_other wv gm a.block (Ms.msgC (mk i) (mf i) (mn i) AM (mz i).length cm) (HQM.out.1 hn0 a e));have HAM:=Lib.hid (rd_kept HAM.out hgr.size fun hn0 a e=>setRow_other wv gm a.block (Ms.msgC (mk i) (mf i) (mn i) AM (mz i).length cm) (HQM.out.2 hn0 a e));have BN:=Lib.hid (BN.out.setRow_other (g':=gm) HNM.out (Ms.msgC (mk i) (mf i) (mn i) AM (mz i).length cm));have BM:=Lib.hid (BM.out.setRow (Ms.msgC (mk i) (mf i) (mn i) AM (mz i).length cm));clear hgr;generalize(wv.setRow gm (Ms.msgC (mk i) (mf i) (mn i) AM (mz i).length cm))=wv at*;have HS:=(show wv.cell? ⟨gl,i,none⟩=some (s.boxV i)∧wv.rangeAt R (1+i*74) ((List.range 74).map (nodeW (s.F i) (.slice (s'.VA i) (s.VL i).length (s'.VC i))))from⟨YB.out wv HKJ.out,YN.out wv HRJ.out⟩))
       |(refine Rg.wp_alloc0 39 Tryz.zeroCells39 rfl (by kernel_rfl) ?_;clear HS;have hb:Below wv.heap.size wv (wv.alloc (.cells Tryz.zeroCells39 39)):=(Below.refl _ _).alloc (Nat.le_refl _) _;have BN':=Lib.hid (show Blk (wv.alloc (.cells Tryz.zeroCells39 39)) wv.heap.size 39 Tryz.zeroCells39 from Blk.fresh _ _ _);have HVN:=Lib.hid (show ∀j,j<4→0<(s'.VL j).length→∀a,s'.VA j=some a→a.block≠wv.heap.size from fun j hj hn0 a e=>Nat.ne_of_lt ((HRJ.out.ver j hj).2.2.2.2 hn0 a e).1);have HON:=Lib.hid (show wv.heap.size≠R∧∀j,j<4→s'.own j≠some wv.heap.size from⟨Nat.ne_of_gt HRJ.out.blk.lt,fun j hj e=>Nat.lt_irrefl _ (HRJ.out.own_ge hj e).2⟩);have HSN:=Lib.hid (show w2.heap.size≤wv.heap.size from HKJ.out.size);(try(have HNM:=Lib.hid (show wv.heap.size≠gm from Nat.ne_of_gt BM.out.lt)));(try(have HQN:=Lib.hid (show(0<(V i).length→∀a,AN=some a→a.block≠wv.heap.size)∧(0<(mz i).length→∀a,AM=some a→a.block≠wv.heap.size)from⟨fun hn0 a e=>Nat.ne_of_lt (rd_lt HAN.out hn0 e),fun hn0 a e=>Nat.ne_of_lt (rd_lt HAM.out hn0 e)⟩)));have HRJ:=Lib.hid (HRJ.out.below hb);have HKJ:=Lib.hid (HKJ.out.trans (Keep.of_below (R:=R) (s:=s') hb));(try(have BN:=Lib.hid (BN.out.below hb BN.out.lt)));(try(have BM:=Lib.hid (BM.out.below hb BM.out.lt)));(try(have HAN:=Lib.hid ((HAN.out.below hb).more hb.size)));(try(have HAM:=Lib.hid ((HAM.out.below hb).more hb.size)));have BN:=BN';clear hb BN';obtain⟨gn,hgn⟩:∃g,wv.heap.size=g:=⟨_,rfl⟩;rw [hgn]at BN HVN HON HSN ⊢;(try rw [hgn]at HNM);(try rw [hgn]at HQN);clear hgn;generalize(wv.alloc (.cells Tryz.zeroCells39 39))=wv at*;have HS:=(show wv.cell? ⟨gl,i,none⟩=some (s.boxV i)∧wv.rangeAt R (1+i*74) ((List.range 74).map (nodeW (s.F i) (.slice (s'.VA i) (s.VL i).length (s'.VC i))))from⟨YB.out wv HKJ.out,YN.out wv HRJ.out⟩))
       |(refine Rg.wp_alloc0 72 #[.int .i64 0,.int .i64 0,.int .i64 0,.slice none 0 0] rfl (by kernel_rfl) ?_;clear HS;have hb:Below wv.heap.size wv (wv.alloc (.cells #[.int .i64 0,.int .i64 0,.int .i64 0,.slice none 0 0] 72)):=(Below.refl _ _).alloc (Nat.le_refl _) _;have BM':=Lib.hid (show Blk (wv.alloc (.cells #[.int .i64 0,.int .i64 0,.int .i64 0,.slice none 0 0] 72)) wv.heap.size 72 #[.int .i64 0,.int .i64 0,.int .i64 0,.slice none 0 0]from Blk.fresh _ _ _);have HVM:=Lib.hid (show ∀j,j<4→0<(s'.VL j).length→∀a,s'.VA j=some a→a.block≠wv.heap.size from fun j hj hn0 a e=>Nat.ne_of_lt ((HRJ.out.ver j hj).2.2.2.2 hn0 a e).1);have HOM:=Lib.hid (show wv.heap.size≠R∧∀j,j<4→s'.own j≠some wv.heap.size from⟨Nat.ne_of_gt HRJ.out.blk.lt,fun j hj e=>Nat.lt_irrefl _ (HRJ.out.own_ge hj e).2⟩);have HSM:=Lib.hid (show w2.heap.size≤wv.heap.size from HKJ.out.size);(try(have HNM:=Lib.hid (show gn≠wv.heap.size from Nat.ne_of_lt BN.out.lt)));(try(have HQM:=Lib.hid (show(0<(V i).length→∀a,AN=some a→a.block≠wv.heap.size)∧(0<(mz i).length→∀a,AM=some a→a.block≠wv.heap.size)from⟨fun hn0 a e=>Nat.ne_of_lt (rd_lt HAN.out hn0 e),fun hn0 a e=>Nat.ne_of_lt (rd_lt HAM.out hn0 e)⟩)));have HRJ:=Lib.hid (HRJ.out.below hb);have HKJ:=Lib.hid (HKJ.out.trans (Keep.of_below (R:=R) (s:=s') hb));(try(have BN:=Lib.hid (BN.out.below hb BN.out.lt)));(try(have BM:=Lib.hid (BM.out.below hb BM.out.lt)));(try(have HAN:=Lib.hid ((HAN.out.below hb).more hb.size)));(try(have HAM:=Lib.hid ((HAM.out.below hb).more hb.size)));have BM:=BM';clear hb BM';obtain⟨gm,hgm⟩:∃g,wv.heap.size=g:=⟨_,rfl⟩;rw [hgm]at BM HVM HOM HSM ⊢;(try rw [hgm]at HNM);(try rw [hgm]at HQM);clear hgm;generalize(wv.alloc (.cells #[.int .i64 0,.int .i64 0,.int .i64 0,.slice none 0 0] 72))=wv at*;have HS:=(show wv.cell? ⟨gl,i,none⟩=some (s.boxV i)∧wv.rangeAt R (1+i*74) ((List.range 74).map (nodeW (s.F i) (.slice (s'.VA i) (s.VL i).length (s'.VC i))))from⟨YB.out wv HKJ.out,YN.out wv HRJ.out⟩))
       |(go_simp;clear HS;have hv:=HRJ.out.ver i hlt;rw [HVI.out]at hv;(have HOV:=HOW.out.keep HKJ.out fun _ _=>rfl);have hms:=(msgs_old HR0.out.blk HOV.1 HOV.2 (HR0.out.box i hlt)).at.1;refine(HF.out i hlt HBD.out wv (s'.VA i) (s'.VC i) (s.bA i) (s.bC i) HOV hv.1 hv.2.1 hv.2.2.1 hv.2.2.2.1 hms).mono ?_;rintro e w4 ⟨AN,cn,AM,cm,rfl,hra,hrm,hb,hlo,hlm,han,hnc⟩;(have iN:(Tryz.prog.info? 39).map (·.size)=some (row 74 (nodeW (G i) (.slice AN (V i).length cn))).size:=by rw [row_size];kernel_rfl);(have zN:(Tryz.zeroCells39).size=(row 74 (nodeW (G i) (.slice AN (V i).length cn))).size:=by rw [row_size];kernel_rfl);have oN:=one_of (HG.out i hlt) (A:=AN) (n:=(V i).length) (c:=cn);obtain⟨RN,hRN⟩:∃x,(row 74 (nodeW (G i) (.slice AN (V i).length cn)))=x:=⟨_,rfl⟩;rw [hRN]at iN zN oN ⊢;have HRN:=Lib.hid hRN;clear hRN;have HCN:=Lib.hid (And.intro han hnc);have HGE:=Lib.hid (show ∀a,AN=some a→w2.heap.size≤a.block from fun a e=>Nat.le_trans HKJ.out.size (hlo a e));have HLO:=Lib.hid (show ∀a,AN=some a→a.block≠R∧∀j,j<4→s'.own j≠some a.block from fun a e=>⟨fun e2=>by have:=hlo a e;have:=HRJ.out.blk.lt;omega,fun j hj e2=>by have:=hlo a e;have:=(HRJ.out.own_ge hj e2).2;omega⟩);have HLM:=Lib.hid (show ∀a,AM=some a→a.block≠R from fun a e e2=>by have:=hlm a e;have:=HRJ.out.blk.lt;omega);(try(have HQN:=Lib.hid (show(0<(V i).length→∀a,AN=some a→a.block≠gn)∧(0<(mz i).length→∀a,AM=some a→a.block≠gn)from⟨fun _ a e e2=>by have:=hlo a e;have:=BN.out.lt;omega,fun _ a e e2=>by have:=hlm a e;have:=BN.out.lt;omega⟩)));(try(have HQM:=Lib.hid (show(0<(V i).length→∀a,AN=some a→a.block≠gm)∧(0<(mz i).length→∀a,AM=some a→a.block≠gm)from⟨fun _ a e e2=>by have:=hlo a e;have:=BM.out.lt;omega,fun _ a e e2=>by have:=hlm a e;have:=BM.out.lt;omega⟩)));have HAN:=Lib.hid hra;have HAM:=Lib.hid hrm;have HRJ:=Lib.hid (HRJ.out.below hb);have HKJ:=Lib.hid (HKJ.out.trans (Keep.of_below (R:=R) (s:=s') hb));(try(have BN:=Lib.hid (BN.out.below hb BN.out.lt)));(try(have BM:=Lib.hid (BM.out.below hb BM.out.lt)));clear hb hv hms HOV hra hrm hlo hlm han hnc;generalize wv=wq at*;generalize w4=wv at*;have HS:=(show wv.cell? ⟨gl,i,none⟩=some (s.boxV i)∧wv.rangeAt R (1+i*74) ((List.range 74).map (nodeW (s.F i) (.slice (s'.VA i) (s.VL i).length (s'.VC i))))from⟨YB.out wv HKJ.out,YN.out wv HRJ.out⟩);unfold Ms.msgV));refine hK.out _ _ HS ?_;clear hK K;(try simp only [Rg.lp]))
      |(refine Rg.doneR (by kernel_rfl) ?_ _;refine NoPanic.normal ?_;clear HS;go_wp2_with fail;go_meet;exact⟨gn,gm,AN,cn,AM,cm,rfl,rfl,⟨by rw [HRN.out];exact BN.out,BM.out,HRJ.out,HKJ.out,HAN.out,HAM.out,HCN.out,fun hn0 a e=>⟨rd_lt HAN.out hn0 e,HLO.out a e⟩,fun hn0 a e=>⟨rd_lt HAM.out hn0 e,HLM.out a e⟩,HON.out.1,HOM.out.1,HGE.out⟩⟩))
    case rest=>
     obtain⟨gn,gm,AN,cn,AM,cm,rfl,rfl,hp⟩:=hcut
     have HP:=Lib.hid hp
     have BN:=Lib.hid hp.node
     have iN:(Tryz.prog.info? 39).map (·.size)=some (row 74 (nodeW (G i) (.slice AN (V i).length cn))).size:=by rw [row_size];kernel_rfl
     obtain⟨RN,hRN⟩:∃x,(row 74 (nodeW (G i) (.slice AN (V i).length cn)))=x:=⟨_,rfl⟩
     rw [hRN]at BN iN
     have iN':=iN
     have HRN:=Lib.hid hRN
     clear hRN hp
     go_upto_region 8 with fail
     have hb8:Below wc.heap.size wc wc.drew:=(Below.refl _ _).drew
     have HRJ:=Lib.hid (HP.out.run.below hb8)
     have BN:=Lib.hid (BN.out.below hb8 BN.out.lt)
     have HS:Blk wc.drew gn 39 RN:=BN.out
     have HAN:=Lib.hid ((HP.out.ra.below hb8).more hb8.size)
     have HAM:=Lib.hid ((HP.out.rm.below hb8).more hb8.size)
     have BM:=Lib.hid (HP.out.msg.below hb8 HP.out.msg.lt)
     have HKJ:=Lib.hid (HP.out.keep.trans (Keep.of_below (R:=R) (s:=s') hb8))
     refine wp_region_noPanic ?_
     refine Rg.beginR [2] (fun w'=>Blk w' gn 39 RN) (by kernel_rfl) ?_
     generalize wc.drew=wv at*
     refine Rg.tp 0 ⟨some 46,.move (.tmp 0),_,_,_,none⟩ (v:=?_) rfl ?_ ?_
     rotate_left 1
     · (intro w;go_simp;(try with_reducible rfl))
     try simp only [Rg.lp]
     refine Rg.tp 1 ⟨some 47,.move (.tmp 7),_,_,_,none⟩ (v:=?_) rfl ?_ ?_
     rotate_left 1
     · (intro w;go_simp;(try with_reducible rfl))
     try simp only [Rg.lp]
     refine Rg.stp_s 2 (.agg RN) HS (hy:=?_) (h:=?_)
     · (intro w' hSw;exact exec_load_row 39 _ rfl _ rfl hSw Tryz.underlying39 rfl iN')
     try simp only [Rg.lp]
     refine Rg.tp 3 ⟨some 49,.nilCheck (.tmp 46),_,_,_,none⟩ (v:=?_) rfl ?_ ?_
     rotate_left 1
     · (intro w;go_simp;(try with_reducible rfl))
     try simp only [Rg.lp]
     refine Rg.tp 4 ⟨some 50,.fieldAddr 68 (.tmp 49) 0,_,_,_,none⟩ (v:=?_) rfl ?_ ?_
     rotate_left 1
     · (intro w;go_simp;(try with_reducible rfl))
     try simp only [Rg.lp]
     refine Rg.tp 5 ⟨some 51,.fieldAddr 42 (.tmp 50) 1,_,_,_,none⟩ (v:=?_) rfl ?_ ?_
     rotate_left 1
     · (intro w;go_simp;(try with_reducible rfl))
     try simp only [Rg.lp]
     refine Rg.tp 6 ⟨some 52,.indexAddr 40 (.tmp 51) (.tmp 47),_,_,_,none⟩ (v:=?_) rfl ?_ ?_
     rotate_left 1
     · (intro w;go_simp;(try with_reducible rfl))
     try simp only [Rg.lp]
     refine Rg.stp_o 7 ?_
     refine Rg.stepF ?_ ?_
     · kernel_rfl
     intro K hK
     rw [if_pos (by rfl)]
     have oN:=one_of (HG.out i hlt) (A:=AN) (n:=(V i).length) (c:=cn)
     rw [HRN.out]at oN
     refine wp_store_mid 39 _ _ rfl R (1+i*74) RN rfl rfl (by rw [←HRN.out,row_size];exact row_there HRJ.out.blk (1+i*74) 74 (by omega)) iN oN ?_
     clear HS
     refine hK.out _ _ ?_
     clear hK K
     try simp only [Rg.lp]
     refine Rg.doneR (by kernel_rfl) ?_ _
     refine NoPanic.normal ?_
     have hset:=HRJ.out.setNode hlt (G i) AN (V i) cn ⟨HP.out.an.1,HP.out.an.2,hV i hlt,HAN.out,fun hn0 a e=>⟨rd_lt HAN.out hn0 e,(HP.out.lo hn0 a e).2⟩⟩
     rw [HRN.out,show 1+74*i=1+i*74 by omega]at hset
     have HST:=Lib.hid hset
     clear hset
     have BM:=Lib.hid (show Blk (wv.setCells R (1+i*74) RN.toList) gm 72 (Ms.msgC (mk i) (mf i) (mn i) AM (mz i).length cm)from blk_mid_other (w:=wv) HP.out.nm RN.toList (1+i*74) wv BM.out)
     have hgr:=gr_setCellsR wv R RN.toList (1+i*74)
     have HAM:=Lib.hid (rd_kept HAM.out hgr.size fun hn0 a e=>hgr.block a.block (rd_lt HAM.out hn0 e) (fun e2=>by injection e2 with e2;exact(HP.out.lm hn0 a e).2 e2))
     have HKZ:=Lib.hid (HKJ.out.trans HST.out.2)
     have HRZ:=Lib.hid HST.out.1
     clear hgr HST
     generalize(wv.setCells R (1+i*74) RN.toList)=wz at*
     have HLN:=Lib.hid (show ∀k,k<4→(((s'.setNode i (G i) AN (V i) cn).bX k).length+1)*48≤140737488351232 from fun k hk=>by
      show((s'.bX k).length+1)*48≤_
      rw [HXE.out]
      have:=phX_len s.bad ph ls mk mf mn mz hn k i
      omega)
     go_wp2_with(refine wpList_whole rfl 72 _ rfl gm rfl BM.out _ Tryz.underlying72 rfl (by kernel_rfl) ?_)
     refine(post_any R b0 (s'.setNode i (G i) AN (V i) cn) (mk i) (mf i) (mn i) AM cm (mz i) wz.heap.size wz HRZ.out HLN.out (Nat.le_refl _) (hz i hlt) HAM.out).mono ?_
     rintro e w5 ⟨rfl,bA,bC,hra,hkp⟩
     have HR5:=Lib.hid hra
     have HK5:=Lib.hid (HKZ.out.trans hkp)
     clear hra hkp
     go_wp2_with fail
     have HVN:=Lib.hid (show ∀j,j<4→setAt s'.VA i AN j=s.VA j∨∀a,setAt s'.VA i AN j=some a→w.heap.size≤a.block from fun j hj=>by
      by_cases ej:j=i
      · subst ej;rw [setAt_self];exact .inr fun a e=>Nat.le_trans HOW.out.1 (HP.out.ge a e)
      · rw [setAt_ne _ _ ej];exact HVA.out j hj)
     exact⟨⟨i+1,by omega,by go_num,_,HR5.out,HRE.out,(show setAt s'.F i (G i)=_ from by rw [HFE.out,HG1.out]),(show setAt s'.VL i (V i)=_ from by rw [HVE.out,HV1.out]),(show postX s'.bX _ _ _ _=_ from by rw [HPX.out,HXE.out]),HK5.out,HVN.out⟩,by simp [intOf];omega⟩
  ·
   obtain rfl:i=4:=by omega
   clear hlt
   go_wp2_with fail
   refine bodyPost_end (results_none rfl _ _ _) rfl ?_
   exact⟨rfl,HOJ.out,HKJ.out.os.trans HOS.out.1,HKJ.out.tape.trans HOS.out.2.1,HKJ.out.output.trans HOS.out.2.2,s',HRJ.out,HRE.out,HFE.out,HVE.out,HXE.out,HVA.out⟩
end Cl
end Go.Proofs.YtljpoibnkkcjdaaGreatDoor
