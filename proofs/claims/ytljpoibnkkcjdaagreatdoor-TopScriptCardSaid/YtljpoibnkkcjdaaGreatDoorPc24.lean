import Derived.Test.YtljpoibnkkcjdaaGreatDoorPc23
set_option linter.unusedVariables false
set_option linter.unusedSimpArgs false
namespace Go.Proofs.YtljpoibnkkcjdaaGreatDoor
namespace Cf
open Go.ChangeShapes Go.WideShapes Go.ChangeAt Go.RowKit Mem Rws Nd Cl
theorem node_part (fr:Int) (F:Nat→Nat→Value) (S:Nat→Value) (k:Nat) (hk:k<4):(row 74 fun j=>cluCell fr F S (1+(k*74+j)))=row 74 (nodeW (F k) (S k)):=row_congr fun j hj=>by
 unfold cluCell
 rw [if_neg (by omega),show(1+(k*74+j)-1)/74=k by omega,show(1+(k*74+j)-1)%74=j by omega]
theorem run_index_nodes (F:Nat→Value) (k:Nat) (hk:k<4) (w:World):(Instr.index 40 (.agg (row 296 F)) (.int .i64 (k:Int))).run Tryz.prog w=.ok (.agg (row 74 fun a=>F (k*74+a))) w:=by
 obtain rfl|rfl|rfl|rfl:k=0∨k=1∨k=2∨k=3:=by omega
 all_goals kernel_rfl
set_option maxRecDepth 100000 in
theorem run_build_run (F G:Nat→Value) (w:World):(Instr.build 68 #[(0,.agg (row 297 F)),(1,.agg (row 14 G))]).run Tryz.prog w=.ok (.agg (row 315 fun i=>if i<297 then F i else if i<311 then G (i-297)else .slice none 0 0)) w:=run_build w _ _ _ (by kernel_rfl)
theorem wpList_built {P:Program} {w:World} {ops:Array Oper} {rest:List Oper} {o:Oper} {a:Act} {Q:Exit→Act→World→Prop} (hgd:o.guard=none) (t:TypeId) (parts:Array (Nat×Operand)) (ho:o.op=.build t parts) (v:Value)
  (hrun:(Instr.build t (parts.map fun(i,x)=>(i,a.eval x))).run P w=.ok v w) (h:wpList P ops Q rest (a.put o.dst v) w):wpList P ops Q (o::rest) a w:=
 wpList_plain hgd fun _ hK=>by
  unfold Oper.wp execOp
  simp only [ho,Sem.run_bind,hrun,Result.andThen_ok]
  exact hK _ _ h
def runOf (c:CluS) (x:InS) (VA:Nat→Option Addr) (VC:Nat→Nat) (LA:Option Addr) (LC:Nat):RunC:=⟨c.fr,c.F,VA,c.V,VC,x.rd,x.bad,LA,x.ls.length,LC,fun _=>none,fun _=>[],fun _=>0⟩
theorem run_row (c:CluS) (x:InS) (VA:Nat→Option Addr) (VC:Nat→Nat) (LA:Option Addr) (LC:Nat):(row 315 fun i=>if i<297 then cluCell c.fr c.F (verOf VA c.V VC) i else if i<311 then inCell x.rd x.bad (.slice LA x.ls.length LC) (i-297)else .slice none 0 0)=row 315 (runOf c x VA VC LA LC).cell:=row_congr fun i hi=>by
 unfold RunC.cell runOf cluCell inCell verOf
 by_cases h0:i=0
 · subst h0;rfl
 rw [if_neg h0]
 by_cases h1:i<297
 · rw [if_pos h1,if_neg h0,if_pos h1];rfl
 rw [if_neg h1,if_neg h1]
 by_cases h2:i<309
 · rw [if_pos (by omega),if_pos (by omega),if_neg h0,if_pos h2]
 by_cases h3:i=309
 · rw [if_pos (by omega),if_neg (by omega),if_pos (by omega),if_neg h0,if_neg h2,if_pos h3]
 by_cases h4:i=310
 · rw [if_pos (by omega),if_neg (by omega),if_neg (by omega),if_neg h0,if_neg h2,if_neg h3,if_pos h4]
 rw [if_neg (by omega),if_neg h0,if_neg h2,if_neg h3,if_neg h4]
 rfl
theorem cluCell_one {F:Nat→Nat→Value} (h:AllOk F) (fr:Int) (V:Nat→List Bool) (VA:Nat→Option Addr) (VC:Nat→Nat):∀i,i<297→(cluCell fr F (verOf VA V VC) i).oneCell'=true:=fun i hi=>by
 unfold cluCell
 by_cases h0:i=0
 · rw [if_pos h0];rfl
 ·
  rw [if_neg h0]
  have:=one_of (h ((i-1)/74) (by omega)) (A:=VA ((i-1)/74)) (n:=(V ((i-1)/74)).length) (c:=VC ((i-1)/74))
  rw [Array.all_eq_true]at this
  have h2:=this ((i-1)%74) (by rw [row_size];omega)
  have h3:=row_at (f:=nodeW (F ((i-1)/74)) (.slice (VA ((i-1)/74)) (V ((i-1)/74)).length (VC ((i-1)/74)))) (show(i-1)%74<74 by omega)
  rw [Array.getElem?_eq_getElem (by rw [row_size];omega)]at h3
  injection h3 with h3
  rw [h3]at h2
  exact h2
theorem setAt_id {α:Type} (g:Nat→α) (i:Nat):setAt g i (g i)=g:=funext fun k=>by
 by_cases e:k=i
 · subst e;exact setAt_self _ _ _
 · exact setAt_ne _ _ e
theorem RunAt.setVer {w:World} {R b0:Nat} {s:RunC} (h:RunAt w R b0 s) {i:Nat} (hi:i<4) (A:Option Addr) (cc:Nat)
  (hv:(A=none→cc=0)∧(s.VL i).length≤cc∧(s.VL i).length≤140737488351232∧Rd w w.heap.size 1 A (s.VL i).length (boolsV (s.VL i))∧(0<(s.VL i).length→∀a,A=some a→a.block<w.heap.size∧a.block≠R∧∀j,j<4→s.own j≠some a.block)):
  RunAt (w.setCell ⟨R,1+i*74+73,none⟩ (.slice A (s.VL i).length cc)) R b0 (s.setNode i (s.F i) A (s.VL i) cc)∧Keep w (w.setCell ⟨R,1+i*74+73,none⟩ (.slice A (s.VL i).length cc)) R s (s.setNode i (s.F i) A (s.VL i) cc):=by
 refine h.patch (gr_setCell _ _ _ _) ?_ rfl rfl rfl fun k hk=>?_
 ·
  have:=h.blk.set (1+i*74+73) (.slice A (s.VL i).length cc)
  rw [row_set]at this
  rw [row_congr (g:=(s.setNode i (s.F i) A (s.VL i) cc).cell) (fun j hj=>?_)]at this
  · exact this
  ·
   rw [s.setNode_cell i hi]
   by_cases e:j=1+i*74+73
   ·
    subst e
    rw [if_pos rfl,over_in (by omega) (by omega),show 1+i*74+73-(1+74*i)=73 by omega]
    rfl
   ·
    rw [if_neg e]
    by_cases h2:1+74*i≤j∧j<1+74*i+74
    ·
     rw [over_in h2.1 h2.2]
     have:=s.node_at hi (show j-(1+74*i)<74 by omega)
     rw [show 1+74*i+(j-(1+74*i))=j by omega]at this
     rw [this]
     unfold nodeW
     rw [if_neg (by omega),if_neg (by omega)]
    · rw [over_out (by omega)]
 ·
  show(setAt s.VA i A k=none→setAt s.VC i cc k=0)∧(setAt s.VL i (s.VL i) k).length≤setAt s.VC i cc k∧(setAt s.VL i (s.VL i) k).length≤140737488351232∧Rd w w.heap.size 1 (setAt s.VA i A k) (setAt s.VL i (s.VL i) k).length (boolsV (setAt s.VL i (s.VL i) k))∧(0<(setAt s.VL i (s.VL i) k).length→∀a,setAt s.VA i A k=some a→a.block<w.heap.size∧a.block≠R∧∀j,j<4→s.own j≠some a.block)
  rw [setAt_id]
  by_cases e:k=i
  ·
   subst e
   rw [setAt_self,setAt_self]
   exact hv
  ·
   rw [setAt_ne _ _ e,setAt_ne _ _ e]
   exact h.ver k hk
theorem runOf_set (c:CluS) (x:InS) (VA:Nat→Option Addr) (VC:Nat→Nat) (LA:Option Addr) (LC i:Nat) (A:Option Addr) (cc:Nat):(runOf c x VA VC LA LC).setNode i (c.F i) A (c.V i) cc=runOf c x (setAt VA i A) (setAt VC i cc) LA LC:=by
 unfold RunC.setNode runOf
 dsimp only
 rw [setAt_id,setAt_id]
structure OldW (w w':World) (R:Nat):Prop where
 old:Old w w' R
 os:w'.os=w.os
 tape:w'.tape=w.tape
 output:w'.output=w.output
theorem OldW.size {w w':World} {R:Nat} (h:OldW w w' R):w.heap.size≤w'.heap.size:=h.old.1
theorem OldW.refl (w:World) (R:Nat):OldW w w R:=⟨⟨Nat.le_refl _,fun _ _ _=>rfl⟩,rfl,rfl,rfl⟩
theorem OldW.below {w w1 w2:World} {R:Nat} (h:OldW w w1 R) (hb:Below w1.heap.size w1 w2):OldW w w2 R:=
 ⟨⟨Nat.le_trans h.size hb.size,fun b hl hR=>(hb.block b (Nat.lt_of_lt_of_le hl h.size)).trans (h.old.2 b hl hR)⟩,hb.os.trans h.os,hb.tape.trans h.tape,hb.output.trans h.output⟩
theorem OldW.aside {w w1 w2:World} {R g:Nat} (h:OldW w w1 R) (hg:w1.grownBy w2 (some g)) (hn:w.heap.size≤g):OldW w w2 R:=
 ⟨⟨Nat.le_trans h.size hg.size,fun b hl hR=>(hg.block b (Nat.lt_of_lt_of_le hl h.size) (fun e=>by injection e with e;omega)).trans (h.old.2 b hl hR)⟩,hg.os.trans h.os,hg.tape.trans h.tape,hg.output.trans h.output⟩
theorem OldW.run {w w1 w2:World} {R:Nat} (h:OldW w w1 R) (hg:w1.grownBy w2 (some R)):OldW w w2 R:=
 ⟨⟨Nat.le_trans h.size hg.size,fun b hl hR=>(hg.block b (Nat.lt_of_lt_of_le hl h.size) (fun e=>by injection e with e;omega)).trans (h.old.2 b hl hR)⟩,hg.os.trans h.os,hg.tape.trans h.tape,hg.output.trans h.output⟩
theorem run_grown {w w':World} {R b0:Nat} {s:RunC} (h:RunAt w R b0 s) {row:Option Nat} (hg:w.grownBy w' row) (hR:row≠some R) (hX:∀i,i<4→s.own i=none∨s.own i≠row) (ht:∀g,row=some g→∃cur t,w.heap[g]?=some (.cells cur t (0,0))∧t≠3) (hV:∀i,i<4→0<(s.VL i).length→∀a,s.VA i=some a→row≠some a.block):RunAt w' R b0 s:=by
 have hblk:∀b,b<w.heap.size→row≠some b→w'.heap[b]?=w.heap[b]?:=fun b hb hR=>hg.block b hb fun e=>hR e.symm
 refine⟨(hblk R h.blk.lt hR).trans h.blk,h.low,fun i hi=>?_,fun i hi=>own_msgs_grown (h.box i hi) hg (hX i hi) ht,h.apart⟩
 obtain⟨h1,h2,h3,h4,h5⟩:=h.ver i hi
 exact⟨h1,h2,h3,rd_kept h4 hg.size (fun hn0 a e=>hblk _ (h5 hn0 a e).1 (hV i hi hn0 a e)),fun hn0 a e=>⟨Nat.lt_of_lt_of_le (h5 hn0 a e).1 hg.size,(h5 hn0 a e).2⟩⟩
theorem OldW.grown {w w1 w2:World} {R:Nat} {row:Option Nat} (h:OldW w w1 R) (hg:w1.grownBy w2 row) (hn:∀g,row=some g→w.heap.size≤g):OldW w w2 R:=
 ⟨⟨Nat.le_trans h.size hg.size,fun b hl hR=>(hg.block b (Nat.lt_of_lt_of_le hl h.size) (fun e=>by have:=hn b e.symm;omega)).trans (h.old.2 b hl hR)⟩,hg.os.trans h.os,hg.tape.trans h.tape,hg.output.trans h.output⟩
theorem wpList_append_at {P:Program} (w:World) {ops:Array Oper} {rest:List Oper} {o:Oper} {a:Act} {Q:Exit→Act→World→Prop} (hgd:o.guard=none) (s x:Operand) (t:TypeId)
  (ho:o.op=.call { callee:=.builtin .append,args:=#[s,x],argTypes:=#[t,t] })
  {base:Nat} {e:TypeId} {z:Value} {size bytes:Nat} (E:Elem P t e z size bytes)
  {v:Value} {n:Nat} {xs:List Value} (hs:a.eval s=v) (hown:w.ownsRow base e size v n xs) {ad:Addr} {m c:Nat} {news:List Value} (hx:a.eval x=.slice (some ad) m c) (hl:news.length=m*size) (hc:∀j u,news[j]?=some u→ w.cell? (ad.add j)=some u) (h1:∀u∈news,u.oneCell'=true) (h63:n+m≤maxLen) (hbytes:(n+m)*bytes≤140737488355328) (hbase:base≤w.heap.size)
  (h:∀A' c' w',w'.ownsRow base e size (.slice A' (n+m) c') (n+m) (xs++news)→w.grownBy w' v.ownBlock→((Value.slice A' (n+m) c').ownBlock=v.ownBlock∨(Value.slice A' (n+m) c').ownBlock=some w.heap.size)→wpList P ops Q rest (a.put o.dst (.slice A' (n+m) c')) w'):wpList P ops Q (o::rest) a w:=
 wpList_plain hgd fun _ hK=>wp_append_at w s x t ho E hs hown hx hl hc h1 h63 hbytes hbase fun A' c' w' h2 h3 h4=>hK _ _ (h A' c' w' h2 h3 h4)
theorem cells_fresh (w:World) (cs:List Value) (e:TypeId):∀j u,cs[j]?=some u→(w.alloc (.cells cs.toArray e)).cell? (Addr.add ⟨w.heap.size,0,none⟩ j)=some u:=fun j u hu=>by
 have h:=(Blk.fresh w e cs.toArray).cell j
 rw [Addr.add_lit,Nat.zero_add,h]
 simpa using hu
theorem goods_len (bad:Int):∀n,(goods bad n).length≤n
 |0=>Nat.le_refl _
 |n+1=>by
  have:=goods_len bad n
  show(goods bad n++if(n:Int)=bad then []else [n]).length≤_
  rw [List.length_append]
  split<;>simp<;>omega
theorem own_not {w:World} {R b0:Nat} {s:RunC} (h:RunAt w R b0 s) {j g:Nat} (hj:j<4) (e:s.own j=some g):¬ ∃cur t,w.heap[g]?=some (.cells cur t (0,0))∧t≠72:=fun⟨cur,t,h1,h2⟩=>by
 obtain⟨xs,ho,_⟩:=h.box j hj
 obtain⟨cur',t',g1,g2⟩:=Ms.own_is (t':=t) ho (fun e=>h2 e.symm) g e
 rw [h1]at g1
 injection g1 with g1
 injection g1 with _ g1 _
 exact g2 g1.symm
structure ClAt (w7 wx:World) (R b0:Nat) (s':RunC) (gn gm:Nat) (F:Nat→Value) (V:List Bool) (rp:Array Value) (AN:Option Addr) (cn:Nat) (RA:Option Addr) (RC n:Nat) (xs:List Value):Prop where
 node:Blk wx gn 39 (row 74 (nodeW F (.slice AN V.length cn)))
 rep:Blk wx gm 56 rp
 run:RunAt wx R b0 s'
 old:OldW w7 wx R
 ra:Rd wx wx.heap.size 1 AN V.length (boolsV V)
 own:wx.ownsRow w7.heap.size 56 14 (.slice RA n RC) n xs
 an:(AN=none→cn=0)∧V.length≤cn
 lo:0<V.length→∀a,AN=some a→a.block<wx.heap.size∧a.block≠R∧∀j,j<4→s'.own j≠some a.block
 nn:gn≠R
 nm:gm≠R
 er:∀a,AN=some a→(Value.slice RA n RC).ownBlock≠some a.block∧R<a.block
theorem rep_one {f:Nat→Value} (hf:∀i,i<73→okT (nodeT i) (f i)):(row 14 (repF f)).all (·.oneCell')=true:=by
 obtain⟨a,b,u0,u1,u2,x0,x1,x2,d,s,i0,i1,i2,i3,h0,h1,h2,h3,h4,h5,h6,h7,h8,h9,h10,h11,h12,h13⟩:=rep_cells hf
 rw [repF_row,h0,h1,h2,h3,h4,h5,h6,h7,h8,h9,h10,h11,h12,h13]
 simp [Value.oneCell']
theorem elemReps:Elem Tryz.prog 44 56 (.agg #[.int .i64 0,.int .i64 0,.int .i64 0,.int .i64 0,.int .i64 0,.int .i64 0,.int .i64 0,.int .i64 0,.int .i64 0,.bool false,.bool false,.bool false,.bool false,.bool false]) 14 80:=⟨Tryz.underlying44,by kernel_rfl,rfl,by omega⟩
set_option maxRecDepth 100000 in
set_option maxHeartbeats 4000000 in
theorem frame_any (c:CluS) (x:InS) (hs:Sane c) (hbad: -1≤x.bad∧x.bad≤3) (hrd:∀i,i<12→Wf (x.rd i)) (hll:x.ls.length≤400) (VA:Nat→Option Addr) (VC:Nat→Nat) (LA:Option Addr) (LC:Nat) (w:World)
  (hv:∀i,i<4→(VA i=none→VC i=0)∧(c.V i).length≤VC i∧Rd w w.heap.size 1 (VA i) (c.V i).length (boolsV (c.V i))) (hls:LiesAt w w.heap.size LA x.ls):
  Calls Tryz.prog 7 #[.agg (row 297 (cluCell c.fr c.F (verOf VA c.V VC))),.agg (row 14 (inCell x.rd x.bad (.slice LA x.ls.length LC)))] w fun e w'=>∃VA' VC' RA RC,e=.returned (.tuple #[.agg (row 297 (cluCell (next c x).fr (next c x).F (verOf VA' (next c x).V VC'))),.slice RA (goods x.bad 4).length RC,.int .i64 0])
   ∧(∀i,i<4→(VA' i=none→VC' i=0)∧((next c x).V i).length≤VC' i∧Rd w' w'.heap.size 1 (VA' i) ((next c x).V i).length (boolsV ((next c x).V i))∧(0<((next c x).V i).length→∀a,VA' i=some a→w.heap.size≤a.block))∧w'.ownsRow w.heap.size 56 14 (.slice RA (goods x.bad 4).length RC) (goods x.bad 4).length (reps c x 4)∧Below w.heap.size w w':=by
 have HV:=Lib.hid hv
 have HLS:=Lib.hid hls
 have HS:=Lib.hid hs
 have HWR:=Lib.hid hrd
 clear hv hls hrd
 obtain⟨RC,hRC⟩:∃R,row 297 (cluCell c.fr c.F (verOf VA c.V VC))=R:=⟨_,rfl⟩
 obtain⟨RI,hRI⟩:∃R,row 14 (inCell x.rd x.bad (.slice LA x.ls.length LC))=R:=⟨_,rfl⟩
 rw [hRC,hRI]
 have B1:=Lib.hid (show Blk (((w.alloc (.cells RC 42)).alloc (.cells RI 48)).alloc (.cells Tryz.zeroCells42 42)) w.heap.size 42 RC from((Blk.fresh _ _ _).alloc _).alloc _)
 have B2:=Lib.hid (show Blk (((w.alloc (.cells RC 42)).alloc (.cells RI 48)).alloc (.cells Tryz.zeroCells42 42)) (w.heap.size+1) 48 RI from(Blk.new (by simp)).alloc _)
 have B3:=Lib.hid (show Blk (((w.alloc (.cells RC 42)).alloc (.cells RI 48)).alloc (.cells Tryz.zeroCells42 42)) (w.heap.size+1+1) 42 Tryz.zeroCells42 from Blk.new (by simp))
 have HB:=Lib.hid (((((Below.refl w.heap.size w).alloc (Nat.le_refl _) (.cells RC 42)).alloc (by simp) (.cells RI 48)).alloc (by simp;omega) (.cells Tryz.zeroCells42 42)))
 have iC:(Tryz.prog.info? 42).map (·.size)=some RC.size:=by rw [←hRC,row_size];kernel_rfl
 go_enter Tryz.func7,Tryz.ntmps7
 go_upto_region 1 with fail
 generalize(((w.alloc (.cells RC 42)).alloc (.cells RI 48)).alloc (.cells Tryz.zeroCells42 42))=w1 at*
 obtain⟨gC,hgC⟩:∃g,w.heap.size=g:=⟨_,rfl⟩
 have HGC:=Lib.hid hgC
 rw [hgC]at B1 B2 B3 HB ⊢
 clear hgC
 have hsz:=HB.out.size
 have y12:=B2.out.cell 12
 have y13:=B2.out.cell 13
 have y0:=B1.out.cell 0
 rw [←hRI,row_at (by omega)]at y12 y13
 rw [←hRC,row_at (by omega)]at y0
 rw [show inCell x.rd x.bad (.slice LA x.ls.length LC) 12=.int .i64 x.bad from rfl]at y12
 rw [show inCell x.rd x.bad (.slice LA x.ls.length LC) 13=.slice LA x.ls.length LC from rfl]at y13
 rw [show cluCell c.fr c.F (verOf VA c.V VC) 0=.int .i64 c.fr from rfl]at y0
 have b1:decide (x.bad< -1)=false:=decide_eq_false (by omega)
 have b2:decide (4≤x.bad)=false:=decide_eq_false (by omega)
 have b3:decide (c.fr<0)=false:=decide_eq_false (by have:=hs.fr;omega)
 have b4:decide (1073741824≤c.fr)=false:=decide_eq_false (by have:=hs.fr;omega)
 have b5:decide ((400:Int)<(x.ls.length:Int))=false:=decide_eq_false (by omega)
 go_upto_region 5 with fail
 have B1r:=Lib.hid (show Blk w1 gC 42 (row 297 (cluCell c.fr c.F (verOf VA c.V VC)))from by rw [hRC];exact B1.out)
 have HRI:=Lib.hid hRI
 have iI:(Tryz.prog.info? 48).map (·.size)=some RI.size:=by rw [←hRI,row_size];kernel_rfl
 go_upto_region 6 with(refine wpList_mid rfl 40 _ rfl gC 1 296 rfl B1r.out (by omega) _ Tryz.underlying40 rfl (by kernel_rfl) ?_)
 have HIX:=Lib.hid (fun(k:Nat) (hk:k<4) (w:World)=>run_index_nodes (fun j=>cluCell c.fr c.F (verOf VA c.V VC) (1+j)) k hk w)
 obtain⟨R4,hR4⟩:∃R,(row 296 fun j=>cluCell c.fr c.F (verOf VA c.V VC) (1+j))=R:=⟨_,rfl⟩
 rw [hR4]at HIX ⊢
 clear hR4 b1 b2 b3 b4 b5 y12 y13
 go_loopw [43] (fun i wr=>∃k:Nat,k≤4∧i=.int .i64 k∧Below w1.heap.size w1 wr) (fun i _=>4-(intOf i).toNat)
 case atStart=>exact⟨0,by omega,rfl,Below.refl _ _⟩
 case round=>
  obtain⟨k,hk,rfl,hb⟩:=hrel
  have HBR:=Lib.hid hb
  clear hb
  by_cases hlt:k<4
  ·
   have hk4:(k:Int)<4:=by omega
   have hix:=HIX.out k hlt
   rw [node_part c.fr c.F (verOf VA c.V VC) k hlt]at hix
   have iN:(Tryz.prog.info? 39).map (·.size)=some (row 74 (nodeW (c.F k) (verOf VA c.V VC k))).size:=by rw [row_size];kernel_rfl
   have zN:(Tryz.zeroCells39).size=(row 74 (nodeW (c.F k) (verOf VA c.V VC k))).size:=by rw [row_size];kernel_rfl
   have oN:=one_of (HS.out.ok k hlt) (A:=VA k) (n:=(c.V k).length) (c:=VC k)
   have cN:(row 74 (nodeW (c.F k) (verOf VA c.V VC k)))[0]?=some (.int .i64 (k:Int)):=by rw [row_at (by omega)];unfold nodeW;rw [if_neg (by omega),HS.out.id k hlt]
   rw [show(.slice (VA k) (c.V k).length (VC k):Value)=verOf VA c.V VC k from rfl]at oN
   obtain⟨RN,hRN⟩:∃R,row 74 (nodeW (c.F k) (verOf VA c.V VC k))=R:=⟨_,rfl⟩
   rw [hRN]at hix iN zN oN cN
   clear hRN
   have F1:Hid (Blk (wr.alloc (.cells Tryz.zeroCells39 39)) wr.heap.size 39 Tryz.zeroCells39):=Lib.hid (Blk.fresh _ _ _)
   go_upto_region 8 with(refine wpList_store_row rfl 39 _ _ rfl wr.heap.size RN rfl rfl 39 _ F1.out iN zN oN ?_)
   have hbn:=below_setRow ((Below.refl wr.heap.size wr).alloc (Nat.le_refl _) (.cells Tryz.zeroCells39 39)) (Nat.le_refl _) RN
   have HBN:=Lib.hid (onward HBR.out (Nat.le_refl _) hbn)
   have yn:=(F1.out.setRow RN).cell 0
   rw [cN]at yn
   have hnk:((k:Int)!=(k:Int))=false:=by simp
   clear F1 hbn hix iN zN oN cN
   generalize((wr.alloc (.cells Tryz.zeroCells39 39)).setRow wr.heap.size RN)=wn at*
   go_wp2_with fail
   exact⟨⟨k+1,by omega,by go_num,HBN.out⟩,by simp [intOf];omega⟩
  ·
   obtain rfl:k=4:=by omega
   clear hlt HIX
   have B1:=Lib.hid (B1.out.below HBR.out B1.out.lt)
   have B1r:=Lib.hid (B1r.out.below HBR.out B1r.out.lt)
   have B2:=Lib.hid (B2.out.below HBR.out B2.out.lt)
   have B3:=Lib.hid (B3.out.below HBR.out B3.out.lt)
   have HB:=Lib.hid (onward HB.out (Nat.le_of_eq HGC.out.symm) HBR.out)
   clear HBR y0
   generalize wr=wq at*
   have hbuild:=fun w=>run_build_run (cluCell c.fr c.F (verOf VA c.V VC)) (inCell x.rd x.bad (.slice LA x.ls.length LC)) w
   rw [run_row]at hbuild
   rw [hRC,hRI]at hbuild
   obtain⟨s0,hs0⟩:∃s,runOf c x VA VC LA LC=s:=⟨_,rfl⟩
   have HS0:=Lib.hid hs0
   rw [hs0]at hbuild
   obtain⟨RR,hRR⟩:∃R,row 315 s0.cell=R:=⟨_,rfl⟩
   rw [hRR]at hbuild
   have HRR:=Lib.hid hRR
   have HRC:=Lib.hid hRC
   clear hs0 hRR hRC hRI
   go_upto_region 11 with fail
   refine wp_region_list ?_
   refine wpList_whole (by rfl) 42 _ rfl gC rfl B1.out _ Tryz.underlying42 rfl iC ?_
   try simp only [Rg.lp]
   refine wpList_whole (by rfl) 48 _ rfl (gC+1) rfl B2.out _ Tryz.underlying48 rfl iI ?_
   try simp only [Rg.lp]
   refine wpList_built rfl 68 _ rfl (.agg RR) (by simp only [List.map_toArray,List.map_cons,List.map_nil];exact hbuild _) ?_
   try simp only [Rg.lp]
   refine wpList_wanted (by rfl) (fun K hK=>?_)
   go_simp
   refine hK _ _ ?_
   clear hK K
   try simp only [Rg.lp]
   refine wpList_wanted (by rfl) (fun K hK=>?_)
   go_simp
   refine hK _ _ ?_
   clear hK K
   try simp only [Rg.lp]
   clear hbuild iI
   have hbR:Below wq.heap.size wq (wq.alloc (.cells RR 68)):=(Below.refl _ _).alloc (Nat.le_refl _) _
   have BR:=Lib.hid (show Blk (wq.alloc (.cells RR 68)) wq.heap.size 68 RR from Blk.fresh _ _ _)
   have HGW:=Lib.hid (show gC+1+1<wq.heap.size from B3.out.lt)
   have B1:=Lib.hid (B1.out.below hbR B1.out.lt)
   have B1r:=Lib.hid (B1r.out.below hbR B1r.out.lt)
   have B2:=Lib.hid (B2.out.below hbR B2.out.lt)
   have B3:=Lib.hid (B3.out.below hbR B3.out.lt)
   have HB:=Lib.hid (onward HB.out (Nat.le_of_eq HGC.out.symm) hbR)
   have HSZ:=Lib.hid (show wq.heap.size<(wq.alloc (.cells RR 68)).heap.size by simp)
   clear hbR
   generalize(wq.alloc (.cells RR 68))=w2 at*
   obtain⟨gR,hgR⟩:∃g,wq.heap.size=g:=⟨_,rfl⟩
   rw [hgR]at BR HGW HSZ ⊢
   clear hgR
   have HV2:=Lib.hid (show ∀i,i<4→(VA i=none→VC i=0)∧(c.V i).length≤VC i∧Rd w2 w2.heap.size 1 (VA i) (c.V i).length (boolsV (c.V i))∧(0<(c.V i).length→∀a,VA i=some a→a.block<gC)from fun i hi=>by
    obtain⟨h1,h2,h3⟩:=HV.out i hi
    have hb2:Below w.heap.size w w2:=by rw [HGC.out];exact HB.out
    exact⟨h1,h2,(h3.below hb2).more hb2.size,fun hn a e=>by have:=rd_lt h3 hn e;rw [HGC.out]at this;exact this⟩)
   have HLS:=Lib.hid (show LiesAt w2 gC LA x.ls from by
    have hb2:Below w.heap.size w w2:=by rw [HGC.out];exact HB.out
    have:=HLS.out.below hb2
    rw [HGC.out]at this
    exact this)
   have HRA:=Lib.hid (show RunAt w2 gR gC s0 from by
    have hbl:=BR.out
    rw [←HRR.out]at hbl
    refine⟨hbl,by have:=HGW.out;omega,fun i hi=>?_,fun i hi=>?_,fun i j hi hj hij=>?_⟩
    ·
     rw [←HS0.out]
     obtain⟨h1,h2,h3,h4⟩:=HV2.out i hi
     exact⟨h1,h2,HS.out.v i hi,h3,fun hn a e=>⟨by have:=h4 hn a e;have:=HGW.out;have:=HSZ.out;omega,by have:=h4 hn a e;have:=HGW.out;omega,fun j hj e2=>by cases e2⟩⟩
    · rw [←HS0.out];exact Ms.OwnMsgs.nil _ _
    · rw [←HS0.out];exact .inl rfl)
   clear BR HRR
   clear hsz hs
   go_wp2_with fail
   go_loopw [57] (fun i wr=>∃k VA' VC',k≤4∧i=.int .i64 ((k:Nat):Int)∧RunAt wr gR gC (runOf c x VA' VC' LA LC)∧Keep w2 wr gR s0 (runOf c x VA' VC' LA LC)∧∀j,j<k→∀a,VA' j=some a→gR<a.block) (fun i _=>4-(intOf i).toNat)
   case atStart=>exact⟨0,VA,VC,by omega,rfl,by rw [HS0.out];exact HRA.out,by rw [HS0.out];exact Keep.refl _ _ _,fun j hj=>by omega⟩
   case round=>
    obtain⟨k,VA',VC',hk,rfl,hra,hkp,hva⟩:=hrel
    have HRJ:=Lib.hid hra
    have HKJ:=Lib.hid hkp
    have HVA:=Lib.hid hva
    clear hva
    have B1w:=Lib.hid (hkp.kept B1.out (by have:=HGW.out;omega) (fun j hj e=>by rw [←HS0.out]at e;cases e))
    clear hra hkp
    by_cases hlt:k<4
    ·
     have hk0:(0:Int)≤(k:Int):=by omega
     have hk4:(k:Int)<4:=by omega
     go_upto_region 15 with fail
     have hb:Below wr.heap.size wr wr.drew:=(Below.refl _ _).drew
     have HRJ:=Lib.hid (HRJ.out.below hb)
     have HKJ:=Lib.hid (HKJ.out.trans (Keep.of_below (R:=gR) (s:=runOf c x VA' VC' LA LC) hb))
     have HVK:=Lib.hid (show Rd wr.drew wr.drew.heap.size 1 (VA k) (c.V k).length (boolsV (c.V k))from rd_kept (HV2.out k hlt).2.2.1 HKJ.out.size (fun hn a e=>by
      have h4:=(HV2.out k hlt).2.2.2 hn a e
      have:=HGW.out
      have:=HSZ.out
      exact HKJ.out.block a.block (by omega) (by omega) (fun j hj e=>by rw [←HS0.out]at e;cases e)))
     have HAK:=Lib.hid (HV2.out k hlt).1
     have HLK:=Lib.hid (HS.out.v k hlt)
     have HCK:=Lib.hid (HV2.out k hlt).2.1
     have yv:=(B1w.out.below hb B1w.out.lt).cell (1+k*74+71+2)
     rw [←HRC.out,row_at (by omega),show cluCell c.fr c.F (verOf VA c.V VC) (1+k*74+71+2)=.slice (VA k) (c.V k).length (VC k)from by
      unfold cluCell
      rw [if_neg (by omega),show(1+k*74+71+2-1)/74=k by omega,show(1+k*74+71+2-1)%74=73 by omega]
      rfl]at yv
     clear hb
     refine wp_region_noPanic ?_
     refine Rg.beginR [7] (fun w'=> w'.cell? ⟨gC,1+k*74+71+2,none⟩=some (.slice (VA k) (c.V k).length (VC k))) (by kernel_rfl) ?_
     have HSS:=yv
     clear yv
     generalize wr.drew=wv at*
     refine Rg.tp 0 ⟨some 60,.move (.tmp 9),_,_,_,none⟩ (v:=?_) rfl ?_ ?_
     rotate_left 1
     · (intro w;go_simp;(try with_reducible rfl))
     try simp only [Rg.lp]
     refine Rg.tp 1 ⟨some 61,.move (.tmp 10),_,_,_,none⟩ (v:=?_) rfl ?_ ?_
     rotate_left 1
     · (intro w;go_simp;(try with_reducible rfl))
     try simp only [Rg.lp]
     refine Rg.tp 2 ⟨some 62,.move (.tmp 10),_,_,_,none⟩ (v:=?_) rfl ?_ ?_
     rotate_left 1
     · (intro w;go_simp;(try with_reducible rfl))
     try simp only [Rg.lp]
     refine Rg.tp 3 ⟨some 63,.fieldAddr 42 (.tmp 2) 1,_,_,_,none⟩ (v:=?_) rfl ?_ ?_
     rotate_left 1
     · (intro w;go_simp;(try with_reducible rfl))
     try simp only [Rg.lp]
     refine Rg.tp 4 ⟨some 64,.indexAddr 40 (.tmp 63) (.tmp 62),_,_,_,none⟩ (v:=?_) rfl ?_ ?_
     rotate_left 1
     · (intro w;go_simp;(try with_reducible rfl))
     try simp only [Rg.lp]
     refine Rg.tp 5 ⟨some 65,.fieldAddr 39 (.tmp 64) 10,_,_,_,none⟩ (v:=?_) rfl ?_ ?_
     rotate_left 1
     · (intro w;go_simp;(try with_reducible rfl))
     try simp only [Rg.lp]
     refine Rg.tp 6 ⟨some 66,.fieldAddr 37 (.tmp 65) 2,_,_,_,none⟩ (v:=?_) rfl ?_ ?_
     rotate_left 1
     · (intro w;go_simp;(try with_reducible rfl))
     try simp only [Rg.lp]
     refine Rg.stp_s 7 ?_ HSS (hy:=?_) (h:=?_)
     rotate_left 1
     · (intro w hSw;(try dsimp only at hSw);(try go_split_ands);go_simp;(try with_reducible rfl))
     try simp only [Rg.lp]
     refine Rg.tp 9 ⟨some 69,.nilCheck (.tmp 60),_,_,_,none⟩ (v:=?_) rfl ?_ ?_
     rotate_left 1
     · (intro w;go_simp;(try with_reducible rfl))
     try simp only [Rg.lp]
     refine Rg.tp 10 ⟨some 70,.fieldAddr 68 (.tmp 69) 0,_,_,_,none⟩ (v:=?_) rfl ?_ ?_
     rotate_left 1
     · (intro w;go_simp;(try with_reducible rfl))
     try simp only [Rg.lp]
     refine Rg.tp 11 ⟨some 71,.fieldAddr 42 (.tmp 70) 1,_,_,_,none⟩ (v:=?_) rfl ?_ ?_
     rotate_left 1
     · (intro w;go_simp;(try with_reducible rfl))
     try simp only [Rg.lp]
     refine Rg.stp_o 8 ?_
     refine Rg.stepF ?_ ?_
     · kernel_rfl
     intro K hK
     rw [if_pos (by rfl)]
     clear HSS
     have HGV:=Lib.hid HRJ.out.blk.lt
     refine wp_append_rd _ (.const (.slice none 0 0)) (.tmp 67) 35 rfl (base:=wv.heap.size) elemBools rfl (World.ownsRow_nil _ _ _ _) rfl (fun h=>⟨by have:=HAK.out h;have:=HCK.out;omega,HAK.out h⟩) HVK.out (boolsV_one _) (by have:=HLK.out;unfold maxLen;omega) (by have:=HLK.out;omega) (Nat.le_refl _) ?_
     intro A2 c2 w4 hA2 hown hg
     simp only [List.nil_append,Nat.zero_add]at hown ⊢
     have hb:Below wv.heap.size wv w4:=(Below.refl _ _).grown hg (Nat.le_refl _) (by intro g e;cases e)
     have HRJ:=Lib.hid (HRJ.out.below hb)
     have HKJ:=Lib.hid (HKJ.out.trans (Keep.of_below (R:=gR) (s:=runOf c x VA' VC' LA LC) hb))
     have HOW:=Lib.hid hown
     have HOB:=Lib.hid (fun g e=>(hown.lt g e))
     obtain⟨hca,hcb⟩:=own_cap hown
     have f4:=HRJ.out.blk.thaw (1+k*74+71+2)
     have v4:=HRJ.out.blk.cell (1+k*74+71+2)
     rw [row_at (by omega)]at v4
     have HCA:=Lib.hid (And.intro hca hcb)
     clear hb hown hg hA2 hca hcb
     refine hK.out _ _ ?_
     clear hK K
     try simp only [Rg.lp]
     refine Rg.tp 12 ⟨some 72,.indexAddr 40 (.tmp 71) (.tmp 61),_,_,_,none⟩ (v:=?_) rfl ?_ ?_
     rotate_left 1
     · (intro w;go_simp;(try with_reducible rfl))
     try simp only [Rg.lp]
     refine Rg.tp 13 ⟨some 73,.fieldAddr 39 (.tmp 72) 10,_,_,_,none⟩ (v:=?_) rfl ?_ ?_
     rotate_left 1
     · (intro w;go_simp;(try with_reducible rfl))
     try simp only [Rg.lp]
     refine Rg.tp 14 ⟨some 74,.fieldAddr 37 (.tmp 73) 2,_,_,_,none⟩ (v:=?_) rfl ?_ ?_
     rotate_left 1
     · (intro w;go_simp;(try with_reducible rfl))
     try simp only [Rg.lp]
     refine Rg.stp_o 15 ?_
     refine Rg.stepF ?_ ?_
     · kernel_rfl
     intro K hK
     go_simp
     refine hK.out _ _ ?_
     clear hK K
     try simp only [Rg.lp]
     refine Rg.doneR (by kernel_rfl) ?_ _
     refine NoPanic.normal ?_
     have hset:=RunAt.setVer HRJ.out hlt A2 c2 ⟨HCA.out.1,HCA.out.2,HLK.out,Rd.of_own HOW.out,fun hn a e=>⟨rd_lt (Rd.of_own HOW.out) hn e,by have:=own_lo HOW.out a e;have:=HGV.out;omega,fun j hj e2=>by cases e2⟩⟩
     have HVN:=Lib.hid (show ∀j,j<k+1→∀a,setAt VA' k A2 j=some a→gR<a.block from fun j hj a e=>by
      by_cases ej:j=k
      · subst ej;rw [setAt_self]at e;have:=own_lo HOW.out a e;have:=HGV.out;omega
      · rw [setAt_ne _ _ ej]at e;exact HVA.out j (by omega) a e)
     rw [show(runOf c x VA' VC' LA LC).setNode k ((runOf c x VA' VC' LA LC).F k) A2 ((runOf c x VA' VC' LA LC).VL k) c2=runOf c x (setAt VA' k A2) (setAt VC' k c2) LA LC from runOf_set c x VA' VC' LA LC k A2 c2]at hset
     have HST:=Lib.hid (show RunAt (w4.setCell ⟨gR,1+k*74+71+2,none⟩ (.slice A2 (c.V k).length c2)) gR gC (runOf c x (setAt VA' k A2) (setAt VC' k c2) LA LC)∧Keep w4 (w4.setCell ⟨gR,1+k*74+71+2,none⟩ (.slice A2 (c.V k).length c2)) gR (runOf c x VA' VC' LA LC) (runOf c x (setAt VA' k A2) (setAt VC' k c2) LA LC)from hset)
     clear hset f4 v4
     generalize(w4.setCell ⟨gR,1+k*74+71+2,none⟩ (.slice A2 (c.V k).length c2))=w5 at*
     go_wp2_with fail
     exact⟨⟨k+1,setAt VA' k A2,setAt VC' k c2,by omega,by go_num,HST.out.1,HKJ.out.trans HST.out.2,HVN.out⟩,by simp [intOf];omega⟩
    ·
     obtain rfl:k=4:=by omega
     clear hlt
     have HFR:=Lib.hid (show FrAt wr wr gR gC x LA c.F c.V (fun _=>[]) (runOf c x VA' VC' LA LC)from⟨HRJ.out,rfl,rfl,rfl,rfl,rfl,rfl,⟨Nat.le_refl _,fun _ _ _=>rfl⟩,rfl,rfl,rfl,HVA.out⟩)
     have HLW:=Lib.hid (show LiesAt wr gC LA x.ls from HLS.out.keep fun b o hb=>cell_same (HKJ.out.block b (by have:=HGW.out;have:=HSZ.out;omega) (by have:=HGW.out;omega) (fun j hj e=>by rw [←HS0.out]at e;cases e)) o)
     have B2w:=Lib.hid (HKJ.out.kept B2.out (by have:=HGW.out;omega) (fun j hj e=>by rw [←HS0.out]at e;cases e))
     have B3w:=Lib.hid (HKJ.out.kept B3.out (by have:=HGW.out;omega) (fun j hj e=>by rw [←HS0.out]at e;cases e))
     have HBW:=Lib.hid (show Below gC w wr from HB.out.trans (HKJ.out.below HRA.out))
     have HYC:=Lib.hid (show wr.cell? ⟨gC,0,none⟩=some (.int .i64 c.fr)from by
      have:=B1w.out.cell 0
      rw [←HRC.out,row_at (by omega)]at this
      exact this)
     have HYI:=Lib.hid (show ∀k,k<4→wr.rangeAt (gC+1) (k*3) ((List.range 3).map fun j=>.int .i64 (x.rd (k*3+j)))from fun k hk=>by
      have h1:=B2w.out
      rw [←HRI.out]at h1
      have h2:=row_range h1 (k*3) 3 (by omega)
      rw [List.map_congr_left (g:=fun j=>.int .i64 (x.rd (k*3+j))) (fun j hj=>by
       have:=List.mem_range.1 hj
       unfold inCell
       rw [if_pos (by omega)])]at h2
      exact h2)
     have HSW:=Lib.hid (show gR<wr.heap.size from HRJ.out.blk.lt)
     clear HV2 HLS HRA B1 B2 B3 B1r HB HSZ HKJ HRJ HS0 iC
     have hmf:∀(fn:Fn) (first cap:Array Value) (w:World),(Instr.makeFunc fn first cap).run Tryz.prog w=.ok (.func fn first cap) w:=fun _ _ _ _=>rfl
     go_wp2_with fail
     refine(ph0 HS.out HFR.out HLW.out (by have:=HGW.out;have:=HSW.out;omega) (by have:=HGW.out;omega) hll HYC.out HYI.out).mono ?_
     rintro e w3 ⟨rfl,s1,h1⟩
     have HG1:=Lib.hid (good1 HS.out HWR.out)
     have HA1:=Lib.hid (all1 (x:=x) HS.out)
     have HF:=Lib.hid h1
     clear h1 HFR hmf
     go_wp2_with fail
     refine(ph1 HS.out HG1.out HA1.out HF.out HLW.out (by have:=HGW.out;have:=HSW.out;omega) (by have:=HGW.out;omega) hll).mono ?_
     rintro e w4 ⟨rfl,s2,h1⟩
     have HG2:=Lib.hid (good2 HG1.out)
     have HA2:=Lib.hid (all2 HA1.out)
     have HF:=Lib.hid h1
     clear h1 HG1 HA1
     go_wp2_with fail
     refine(ph2 HS.out HG2.out HA2.out HF.out HLW.out (by have:=HGW.out;have:=HSW.out;omega) (by have:=HGW.out;omega) hll).mono ?_
     rintro e w5 ⟨rfl,s3,h1⟩
     have HG3:=Lib.hid (good3 HG2.out)
     have HA3:=Lib.hid (all3 HA2.out)
     have HF:=Lib.hid h1
     clear h1 HG2 HA2
     go_wp2_with fail
     refine(ph3 HS.out HG3.out HA3.out HF.out HLW.out (by have:=HGW.out;have:=HSW.out;omega) (by have:=HGW.out;omega) hll).mono ?_
     rintro e w6 ⟨rfl,s4,h1⟩
     have HG4:=Lib.hid (good4 HG3.out)
     have HA4:=Lib.hid (all4 HA3.out)
     have HF:=Lib.hid h1
     clear h1 HG3 HA3
     go_wp2_with fail
     refine(ph4 HS.out HG4.out HA4.out HF.out HLW.out (by have:=HGW.out;have:=HSW.out;omega) (by have:=HGW.out;omega) hll).mono ?_
     rintro e w7 ⟨rfl,s5,h1⟩
     have HG5:=Lib.hid (good5 HG4.out)
     have HA5:=Lib.hid (all5 HA4.out)
     have HF:=Lib.hid h1
     clear h1 HG4 HA4
     clear HYC HYI HLW
     have HW5:=Lib.hid (show ∀i,i<4→(W5 c x i).length≤140737488351232 from fun i hi=>by
      have:=(HF.out.run.ver i hi).2.2.1
      rw [HF.out.hV]at this
      exact this)
     have HA6:=Lib.hid (allG6 HA5.out)
     have HK7:=Lib.hid (show gR<w7.heap.size from HF.out.run.blk.lt)
     have B1z:=Lib.hid (old_blk HF.out.old B1w.out (by have:=HGW.out;omega))
     have B2z:=Lib.hid (old_blk HF.out.old B2w.out (by have:=HGW.out;omega))
     have B3z:=Lib.hid (old_blk HF.out.old B3w.out (by have:=HGW.out;omega))
     have HB7:=Lib.hid (show Below gC w w7 from⟨HF.out.os.trans HBW.out.os,HF.out.tape.trans HBW.out.tape,HF.out.output.trans HBW.out.output,Nat.le_trans HBW.out.size HF.out.old.1,fun b hb=>(HF.out.old.2 b (by have:=HGW.out;have:=HSW.out;omega) (by have:=HGW.out;omega)).trans (HBW.out.block b hb)⟩)
     clear B1w B2w B3w HBW
     go_wp2_with fail
     go_loopw [87,11] (fun v u wr=>∃(i:Nat) (s':RunC) (RA:Option Addr) (RC':Nat),i≤4∧v=.int .i64 (i:Int)∧u=.slice RA (goods x.bad i).length RC'∧RunAt wr gR gC s'∧s'.F=newK x.bad (G6 c x) (F5 c x) i∧s'.VL=W5 c x∧s'.bX=X5 c x∧OldW w7 wr gR∧wr.ownsRow w7.heap.size 56 14 (.slice RA (goods x.bad i).length RC') (goods x.bad i).length (reps c x i)∧∀j,j<4→0<(s'.VL j).length→∀a,s'.VA j=some a→(Value.slice RA (goods x.bad i).length RC').ownBlock≠some a.block∧gR<a.block) (fun v _ _=>4-(intOf v).toNat)
     case atStart=>exact⟨0,s5,none,0,by omega,rfl,rfl,HF.out.run,by rw [HF.out.hF,newK_zero],HF.out.hV,HF.out.hX,OldW.refl _ _,World.ownsRow_nil _ _ _ _,fun j hj hn a e=>⟨(fun e2=>by cases e2),HF.out.va j hj a e⟩⟩
     case round=>
      obtain⟨i,s',RA,RC',hi,rfl,rfl,hra,hsF,hsV,hsX,hko,hrw,hvr⟩:=hrel
      have HRJ:=Lib.hid hra
      have HFE:=Lib.hid hsF
      have HVE:=Lib.hid hsV
      have HXE:=Lib.hid hsX
      have HKJ:=Lib.hid hko
      have HRW:=Lib.hid hrw
      have HVR:=Lib.hid hvr
      clear hra hsF hsV hsX hko hrw hvr
      by_cases hlt:i<4
      ·
       have hi0:(0:Int)≤(i:Int):=by omega
       have hi4:(i:Int)<4:=by omega
       have B2v:=Lib.hid (old_blk HKJ.out.old B2z.out (by have:=HGW.out;omega))
       have y12:=B2v.out.cell 12
       rw [←HRI.out,row_at (by omega),show inCell x.rd x.bad (.slice LA x.ls.length LC) 12=.int .i64 x.bad from rfl]at y12
       by_cases hbd:(i:Int)=x.bad
       ·
        have hbb:((i:Int)==x.bad)=true:=by simp [hbd]
        have HG1:=Lib.hid (Cl.newK_bad x.bad (G6 c x) (F5 c x) i hbd)
        have HGD:=Lib.hid (show goods x.bad (i+1)=goods x.bad i from by show goods x.bad i++(if(i:Int)=x.bad then []else [i])=_;rw [if_pos hbd,List.append_nil])
        clear hbd
        go_wp2_with fail
        exact⟨⟨i+1,s',RA,RC',by omega,by go_num,by rw [HGD.out],HRJ.out,HFE.out.trans HG1.out.symm,HVE.out,HXE.out,HKJ.out,by unfold reps;rw [HGD.out];exact HRW.out,by rw [HGD.out];exact HVR.out⟩,by simp [intOf];omega⟩
       ·
        have hbb:((i:Int)==x.bad)=false:=by simp [hbd]
        have HG1:=Lib.hid (Cl.newK_good x.bad (G6 c x) (F5 c x) i hbd)
        have HGD:=Lib.hid (show goods x.bad (i+1)=goods x.bad i++[i]from by show goods x.bad i++(if(i:Int)=x.bad then []else [i])=_;rw [if_neg hbd])
        have HBD:=Lib.hid hbd
        clear hbd
        go_upto_region 27 with fail
        go_cut [13,14] (fun p q wx=>∃gn gm AN cn,p=.pointer (some ⟨gn,0,none⟩)∧q=.pointer (some ⟨gm,0,none⟩)∧ClAt w7 wx gR gC s' gn gm (G6 c x i) (W5 c x i) (row 14 (repF (G6 c x i))) AN cn RA RC' (goods x.bad i).length (reps c x i))
        case first=>
         have HVI:=Lib.hid (show s'.VL i=W5 c x i from by rw [HVE.out])
         have HXI:=Lib.hid (show s'.bX i=X5 c x i from by rw [HXE.out])
         have YB:=Lib.hid (show ∀W,RunAt W gR gC s'→ W.cell? ⟨gR,311+i,none⟩=some (s'.boxV i)from fun W hr=>by
          have h1:=hr.blk.cell (311+i)
          rw [row_at (by omega),s'.cell_box hlt]at h1
          exact h1)
         have YN:=Lib.hid (show ∀W,RunAt W gR gC s'→W.rangeAt gR (1+i*74) ((List.range 74).map (nodeW (F5 c x i) (.slice (s'.VA i) (W5 c x i).length (s'.VC i))))from fun W hr=>by
          rw [show 1+i*74=1+74*i by omega]
          have h1:=row_range hr.blk (1+74*i) 74 (by omega)
          rw [List.map_congr_left (g:=nodeW (F5 c x i) (.slice (s'.VA i) (W5 c x i).length (s'.VC i))) (fun j hj=>by
           have hj':=List.mem_range.1 hj
           rw [s'.node_at hlt hj',HFE.out,newK_at]
           unfold RunC.verV
           rw [HVI.out])]at h1
          exact h1)
         have hb:Below wr.heap.size wr wr.drew:=(Below.refl _ _).drew
         have HRJ:=Lib.hid (HRJ.out.below hb)
         have HKJ:=Lib.hid (HKJ.out.below hb)
         have HRW:=Lib.hid (ownsRow_below HRW.out hb)
         clear hb y12 hbb
         refine wp_region_noPanic ?_
         have HSS:=(show wr.drew.cell? ⟨gR,311+i,none⟩=some (s'.boxV i)∧wr.drew.rangeAt gR (1+i*74) ((List.range 74).map (nodeW (F5 c x i) (.slice (s'.VA i) (W5 c x i).length (s'.VC i))))from⟨YB.out wr.drew HRJ.out,YN.out wr.drew HRJ.out⟩)
         refine Rg.beginR [6,12] (fun w'=> w'.cell? ⟨gR,311+i,none⟩=some (s'.boxV i)∧w'.rangeAt gR (1+i*74) ((List.range 74).map (nodeW (F5 c x i) (.slice (s'.VA i) (W5 c x i).length (s'.VC i))))) (by kernel_rfl) ?_
         generalize wr.drew=wv at*
         repeat' (first
          |(refine Rg.stp_sK 6 (.agg (row 74 (nodeW (F5 c x i) (.slice (s'.VA i) (W5 c x i).length (s'.VC i))))) HSS (hy:=?_) (h:=?_);· (intro w' hSw;exact exec_load_mid 39 _ rfl gR (1+i*74) 74 rfl _ _ hSw.2 Tryz.underlying39 rfl (by kernel_rfl)))
          |(refine Rg.stp_rK 12 HSS ?_)
          |(refine Rg.stp_qK 0 ?_)|(refine Rg.stp_qK 1 ?_)|(refine Rg.stp_qK 2 ?_)|(refine Rg.stp_qK 3 ?_)|(refine Rg.stp_qK 4 ?_)|(refine Rg.stp_qK 5 ?_)|(refine Rg.stp_qK 7 ?_)|(refine Rg.stp_qK 8 ?_)|(refine Rg.stp_qK 9 ?_)|(refine Rg.stp_qK 10 ?_)|(refine Rg.stp_qK 11 ?_)|(refine Rg.stp_qK 14 ?_)|(refine Rg.stp_qK 15 ?_)|(refine Rg.stp_qK 16 ?_)
          |(refine Rg.stp_oK 13 ?_)
          |(refine Rg.stp_t2K 13 17 ?_ ?_)
          |(refine Rg.stp_t3K 13 17 18 ?_ ?_ ?_)
          |(refine Rg.stp_t2K 13 18 ?_ ?_)
          |(refine Rg.stp_oK 17 ?_)
          |(refine Rg.stp_t2K 17 18 ?_ ?_)
          |(refine Rg.stp_oK 18 ?_)
          |(refine Rg.stp_oK 19 ?_)
          |(refine Rg.stp_oK 20 ?_)
          |(refine Rg.stepS ?_;intro K hK;rw [if_pos (by rfl)];(first
           |(clear HSS;refine wp_store_row 39 _ _ rfl gn RN rfl rfl 39 _ BN.out iN zN oN ?_;have hgr:=gr_setRowR wv gn RN;have HRJ:=Lib.hid (HRJ.out.aside BN.out hgr HON.out.1 HON.out.2 (by decide) HVN.out);have HKJ:=Lib.hid (HKJ.out.aside hgr HSN.out);have HRW:=Lib.hid (HRW.out.kept hgr (.inr HEN.out));have HAN:=Lib.hid (rd_kept HAN.out hgr.size fun hn0 a e=>setRow_other wv gn a.block RN (HQN.out hn0 a e));have BM:=Lib.hid (BM.out.setRow_other (g':=gn) (fun e=>HNM.out e.symm) RN);have BN:=Lib.hid (BN.out.setRow RN);clear hgr;generalize(wv.setRow gn RN)=wv at*;have HSS:=(show wv.cell? ⟨gR,311+i,none⟩=some (s'.boxV i)∧wv.rangeAt gR (1+i*74) ((List.range 74).map (nodeW (F5 c x i) (.slice (s'.VA i) (W5 c x i).length (s'.VC i))))from⟨YB.out wv HRJ.out,YN.out wv HRJ.out⟩))
           |(clear HSS;refine wp_store_row 56 _ _ rfl gm RR2 rfl rfl 56 _ BM.out iP zP oP ?_;have hgr:=gr_setRowR wv gm RR2;have HRJ:=Lib.hid (HRJ.out.aside BM.out hgr HOM.out.1 HOM.out.2 (by decide) HVM.out);have HKJ:=Lib.hid (HKJ.out.aside hgr HSM.out);have HRW:=Lib.hid (HRW.out.kept hgr (.inr HEM.out));have HAN:=Lib.hid (rd_kept HAN.out hgr.size fun hn0 a e=>setRow_other wv gm a.block RR2 (HQM.out hn0 a e));have BN:=Lib.hid (BN.out.setRow_other (g':=gm) HNM.out RR2);have BM:=Lib.hid (BM.out.setRow RR2);clear hgr;generalize(wv.setRow gm RR2)=wv at*;have HSS:=(show wv.cell? ⟨gR,311+i,none⟩=some (s'.boxV i)∧wv.rangeAt gR (1+i*74) ((List.range 74).map (nodeW (F5 c x i) (.slice (s'.VA i) (W5 c x i).length (s'.VC i))))from⟨YB.out wv HRJ.out,YN.out wv HRJ.out⟩))
           |(refine Rg.wp_alloc0 39 Tryz.zeroCells39 rfl (by kernel_rfl) ?_;clear HSS;have hb:Below wv.heap.size wv (wv.alloc (.cells Tryz.zeroCells39 39)):=(Below.refl _ _).alloc (Nat.le_refl _) _;have BN':=Lib.hid (show Blk (wv.alloc (.cells Tryz.zeroCells39 39)) wv.heap.size 39 Tryz.zeroCells39 from Blk.fresh _ _ _);have HVN:=Lib.hid (show ∀j,j<4→0<(s'.VL j).length→∀a,s'.VA j=some a→a.block≠wv.heap.size from fun j hj hn0 a e=>Nat.ne_of_lt ((HRJ.out.ver j hj).2.2.2.2 hn0 a e).1);have HON:=Lib.hid (show wv.heap.size≠gR∧∀j,j<4→s'.own j≠some wv.heap.size from⟨Nat.ne_of_gt HRJ.out.blk.lt,fun j hj e=>Nat.lt_irrefl _ (HRJ.out.own_ge hj e).2⟩);have HSN:=Lib.hid (show w7.heap.size≤wv.heap.size from HKJ.out.size);have HEN:=Lib.hid (show(Value.slice RA (goods x.bad i).length RC').ownBlock≠some wv.heap.size from fun e=>Nat.lt_irrefl _ (HRW.out.lt _ e).2);(try(have HNM:=Lib.hid (show wv.heap.size≠gm from Nat.ne_of_gt BM.out.lt)));(try(have HQN:=Lib.hid (show 0<(W5 c x i).length→∀a,AN=some a→a.block≠wv.heap.size from fun hn0 a e=>Nat.ne_of_lt (rd_lt HAN.out hn0 e))));have HRJ:=Lib.hid (HRJ.out.below hb);have HKJ:=Lib.hid (HKJ.out.below hb);have HRW:=Lib.hid (ownsRow_below HRW.out hb);(try(have BN:=Lib.hid (BN.out.below hb BN.out.lt)));(try(have BM:=Lib.hid (BM.out.below hb BM.out.lt)));(try(have HAN:=Lib.hid ((HAN.out.below hb).more hb.size)));have BN:=BN';clear hb BN';obtain⟨gn,hgn⟩:∃g,wv.heap.size=g:=⟨_,rfl⟩;rw [hgn]at BN HVN HON HSN HEN ⊢;(try rw [hgn]at HNM);(try rw [hgn]at HQN);clear hgn;generalize(wv.alloc (.cells Tryz.zeroCells39 39))=wv at*;have HSS:=(show wv.cell? ⟨gR,311+i,none⟩=some (s'.boxV i)∧wv.rangeAt gR (1+i*74) ((List.range 74).map (nodeW (F5 c x i) (.slice (s'.VA i) (W5 c x i).length (s'.VC i))))from⟨YB.out wv HRJ.out,YN.out wv HRJ.out⟩))
           |(refine Rg.wp_alloc0 56 #[.int .i64 0,.int .i64 0,.int .i64 0,.int .i64 0,.int .i64 0,.int .i64 0,.int .i64 0,.int .i64 0,.int .i64 0,.bool false,.bool false,.bool false,.bool false,.bool false] rfl (by kernel_rfl) ?_;clear HSS;have hb:Below wv.heap.size wv (wv.alloc (.cells #[.int .i64 0,.int .i64 0,.int .i64 0,.int .i64 0,.int .i64 0,.int .i64 0,.int .i64 0,.int .i64 0,.int .i64 0,.bool false,.bool false,.bool false,.bool false,.bool false] 56)):=(Below.refl _ _).alloc (Nat.le_refl _) _;have BM':=Lib.hid (show Blk (wv.alloc (.cells #[.int .i64 0,.int .i64 0,.int .i64 0,.int .i64 0,.int .i64 0,.int .i64 0,.int .i64 0,.int .i64 0,.int .i64 0,.bool false,.bool false,.bool false,.bool false,.bool false] 56)) wv.heap.size 56 #[.int .i64 0,.int .i64 0,.int .i64 0,.int .i64 0,.int .i64 0,.int .i64 0,.int .i64 0,.int .i64 0,.int .i64 0,.bool false,.bool false,.bool false,.bool false,.bool false]from Blk.fresh _ _ _);have HVM:=Lib.hid (show ∀j,j<4→0<(s'.VL j).length→∀a,s'.VA j=some a→a.block≠wv.heap.size from fun j hj hn0 a e=>Nat.ne_of_lt ((HRJ.out.ver j hj).2.2.2.2 hn0 a e).1);have HOM:=Lib.hid (show wv.heap.size≠gR∧∀j,j<4→s'.own j≠some wv.heap.size from⟨Nat.ne_of_gt HRJ.out.blk.lt,fun j hj e=>Nat.lt_irrefl _ (HRJ.out.own_ge hj e).2⟩);have HSM:=Lib.hid (show w7.heap.size≤wv.heap.size from HKJ.out.size);have HEM:=Lib.hid (show(Value.slice RA (goods x.bad i).length RC').ownBlock≠some wv.heap.size from fun e=>Nat.lt_irrefl _ (HRW.out.lt _ e).2);(try(have HNM:=Lib.hid (show gn≠wv.heap.size from Nat.ne_of_lt BN.out.lt)));(try(have HQM:=Lib.hid (show 0<(W5 c x i).length→∀a,AN=some a→a.block≠wv.heap.size from fun hn0 a e=>Nat.ne_of_lt (rd_lt HAN.out hn0 e))));have HRJ:=Lib.hid (HRJ.out.below hb);have HKJ:=Lib.hid (HKJ.out.below hb);have HRW:=Lib.hid (ownsRow_below HRW.out hb);(try(have BN:=Lib.hid (BN.out.below hb BN.out.lt)));(try(have BM:=Lib.hid (BM.out.below hb BM.out.lt)));(try(have HAN:=Lib.hid ((HAN.out.below hb).more hb.size)));have BM:=BM';clear hb BM';obtain⟨gm,hgm⟩:∃g,wv.heap.size=g:=⟨_,rfl⟩;rw [hgm]at BM HVM HOM HSM HEM ⊢;(try rw [hgm]at HNM);(try rw [hgm]at HQM);clear hgm;generalize(wv.alloc (.cells #[.int .i64 0,.int .i64 0,.int .i64 0,.int .i64 0,.int .i64 0,.int .i64 0,.int .i64 0,.int .i64 0,.int .i64 0,.bool false,.bool false,.bool false,.bool false,.bool false] 56))=wv at*;have HSS:=(show wv.cell? ⟨gR,311+i,none⟩=some (s'.boxV i)∧wv.rangeAt gR (1+i*74) ((List.range 74).map (nodeW (F5 c x i) (.slice (s'.VA i) (W5 c x i).length (s'.VC i))))from⟨YB.out wv HRJ.out,YN.out wv HRJ.out⟩))
           |(go_simp;clear HSS;have hv:=HRJ.out.ver i hlt;rw [HVI.out]at hv;have hms:=(HRJ.out.box i hlt).at.1;rw [HXI.out]at hms;obtain⟨q1,q2,q3,q4⟩:=HG5.out i hlt HBD.out;rw [show s'.boxV i=.slice (s'.bA i) (X5 c x i).length (s'.bC i)from by unfold RunC.boxV;rw [HXI.out]];refine(close_any (F5 c x i) q3 i hlt q1 c.fr q2 (s'.VA i) (s'.VC i) (W5 c x i) (s'.bA i) (s'.bC i) (X5 c x i) wv.heap.size wv (Nat.le_refl _) hv.1 hv.2.1 hv.2.2.1 hv.2.2.2.1 (phX_small _ _ _ _ _ _ _ hll i) hms).mono ?_;rintro e w4 ⟨AN,cn,rfl,hra,hb,hlo,han,hnc⟩;rw [show closeF (fun j:Nat=>Ms.firstOf (i:Int) c.fr 5 24 (j:Int) (X5 c x i)) (F5 c x i)=G6 c x i from rfl];(have iN:(Tryz.prog.info? 39).map (·.size)=some (row 74 (nodeW (G6 c x i) (.slice AN (W5 c x i).length cn))).size:=by rw [row_size];kernel_rfl);(have zN:(Tryz.zeroCells39).size=(row 74 (nodeW (G6 c x i) (.slice AN (W5 c x i).length cn))).size:=by rw [row_size];kernel_rfl);have oN:=one_of (HA6.out i hlt) (A:=AN) (n:=(W5 c x i).length) (c:=cn);obtain⟨RN,hRN⟩:∃R,(row 74 (nodeW (G6 c x i) (.slice AN (W5 c x i).length cn)))=R:=⟨_,rfl⟩;rw [hRN]at iN zN oN ⊢;have HRN:=Lib.hid hRN;clear hRN;(have iP:(Tryz.prog.info? 56).map (·.size)=some (row 14 (repF (G6 c x i))).size:=by rw [row_size];kernel_rfl);(have zP:(#[.int .i64 0,.int .i64 0,.int .i64 0,.int .i64 0,.int .i64 0,.int .i64 0,.int .i64 0,.int .i64 0,.int .i64 0,.bool false,.bool false,.bool false,.bool false,.bool false]:Array Value).size=(row 14 (repF (G6 c x i))).size:=by rw [row_size];rfl);have oP:=rep_one (HA6.out i hlt);obtain⟨RR2,hRR2⟩:∃R,row 14 (repF (G6 c x i))=R:=⟨_,rfl⟩;rw [hRR2]at iP zP oP ⊢;have HRR2:=Lib.hid hRR2;clear hRR2;have HCN:=Lib.hid (And.intro han hnc);have HEA:=Lib.hid (show ∀a,AN=some a→(Value.slice RA (goods x.bad i).length RC').ownBlock≠some a.block∧gR<a.block from fun a e=>⟨fun e2=>by have:=hlo a e;have:=(HRW.out.lt _ e2).2;omega,by have:=hlo a e;have:=HRJ.out.blk.lt;omega⟩);have HLO:=Lib.hid (show ∀a,AN=some a→a.block≠gR∧∀j,j<4→s'.own j≠some a.block from fun a e=>⟨fun e2=>by have:=hlo a e;have:=HRJ.out.blk.lt;omega,fun j hj e2=>by have:=hlo a e;have:=(HRJ.out.own_ge hj e2).2;omega⟩);(try(have HQN:=Lib.hid (show 0<(W5 c x i).length→∀a,AN=some a→a.block≠gn from fun _ a e e2=>by have:=hlo a e;have:=BN.out.lt;omega)));(try(have HQM:=Lib.hid (show 0<(W5 c x i).length→∀a,AN=some a→a.block≠gm from fun _ a e e2=>by have:=hlo a e;have:=BM.out.lt;omega)));have HAN:=Lib.hid hra;have HRJ:=Lib.hid (HRJ.out.below hb);have HKJ:=Lib.hid (HKJ.out.below hb);have HRW:=Lib.hid (ownsRow_below HRW.out hb);(try(have BN:=Lib.hid (BN.out.below hb BN.out.lt)));(try(have BM:=Lib.hid (BM.out.below hb BM.out.lt)));clear hb hv hms hra hlo han hnc q1 q2 q3 q4;generalize wv=wq at*;generalize w4=wv at*;have HSS:=(show wv.cell? ⟨gR,311+i,none⟩=some (s'.boxV i)∧wv.rangeAt gR (1+i*74) ((List.range 74).map (nodeW (F5 c x i) (.slice (s'.VA i) (W5 c x i).length (s'.VC i))))from⟨YB.out wv HRJ.out,YN.out wv HRJ.out⟩)));refine hK.out _ _ HSS ?_;clear hK K;(try simp only [Rg.lp]))
          |(refine Rg.doneR (by kernel_rfl) ?_ _;refine NoPanic.normal ?_;clear HSS;go_wp2_with fail;go_meet;exact⟨gn,gm,AN,cn,rfl,rfl,⟨by rw [HRN.out];exact BN.out,by rw [HRR2.out];exact BM.out,HRJ.out,HKJ.out,HAN.out,HRW.out,HCN.out,fun hn0 a e=>⟨rd_lt HAN.out hn0 e,HLO.out a e⟩,HON.out.1,HOM.out.1,HEA.out⟩⟩))
        case rest=>
         obtain⟨gn,gm,AN,cn,rfl,rfl,hp⟩:=hcut
         have HP:=Lib.hid hp
         have BN:=Lib.hid hp.node
         have iN:(Tryz.prog.info? 39).map (·.size)=some (row 74 (nodeW (G6 c x i) (.slice AN (W5 c x i).length cn))).size:=by rw [row_size];kernel_rfl
         obtain⟨RN,hRN⟩:∃R,(row 74 (nodeW (G6 c x i) (.slice AN (W5 c x i).length cn)))=R:=⟨_,rfl⟩
         rw [hRN]at BN iN
         have iN':=iN
         have HRN:=Lib.hid hRN
         clear hRN hp
         go_upto_region 28 with fail
         have hb8:Below wc.heap.size wc wc.drew:=(Below.refl _ _).drew
         have HRJ:=Lib.hid (HP.out.run.below hb8)
         have HKJ:=Lib.hid (HP.out.old.below hb8)
         have BN:=Lib.hid (BN.out.below hb8 BN.out.lt)
         have HSS:Blk wc.drew gn 39 RN:=BN.out
         have HAN:=Lib.hid ((HP.out.ra.below hb8).more hb8.size)
         have BM:=Lib.hid (HP.out.rep.below hb8 HP.out.rep.lt)
         have HRW:=Lib.hid (ownsRow_below HP.out.own hb8)
         clear hb8
         refine wp_region_noPanic ?_
         refine Rg.beginR [2] (fun w'=>Blk w' gn 39 RN) (by kernel_rfl) ?_
         generalize wc.drew=wv at*
         refine Rg.tp 0 ⟨some 111,.move (.tmp 9),_,_,_,none⟩ (v:=?_) rfl ?_ ?_
         rotate_left 1
         · (intro w;go_simp;(try with_reducible rfl))
         try simp only [Rg.lp]
         refine Rg.tp 1 ⟨some 112,.move (.tmp 12),_,_,_,none⟩ (v:=?_) rfl ?_ ?_
         rotate_left 1
         · (intro w;go_simp;(try with_reducible rfl))
         try simp only [Rg.lp]
         refine Rg.stp_s 2 (.agg RN) HSS (hy:=?_) (h:=?_)
         · (intro w' hSw;exact exec_load_row 39 _ rfl _ rfl hSw Tryz.underlying39 rfl iN')
         try simp only [Rg.lp]
         refine Rg.tp 3 ⟨some 114,.nilCheck (.tmp 111),_,_,_,none⟩ (v:=?_) rfl ?_ ?_
         rotate_left 1
         · (intro w;go_simp;(try with_reducible rfl))
         try simp only [Rg.lp]
         refine Rg.tp 4 ⟨some 115,.fieldAddr 68 (.tmp 114) 0,_,_,_,none⟩ (v:=?_) rfl ?_ ?_
         rotate_left 1
         · (intro w;go_simp;(try with_reducible rfl))
         try simp only [Rg.lp]
         refine Rg.tp 5 ⟨some 116,.fieldAddr 42 (.tmp 115) 1,_,_,_,none⟩ (v:=?_) rfl ?_ ?_
         rotate_left 1
         · (intro w;go_simp;(try with_reducible rfl))
         try simp only [Rg.lp]
         refine Rg.tp 6 ⟨some 117,.indexAddr 40 (.tmp 116) (.tmp 112),_,_,_,none⟩ (v:=?_) rfl ?_ ?_
         rotate_left 1
         · (intro w;go_simp;(try with_reducible rfl))
         try simp only [Rg.lp]
         refine Rg.stp_o 7 ?_
         refine Rg.stepF ?_ ?_
         · kernel_rfl
         intro K hK
         rw [if_pos (by rfl)]
         have oN:=one_of (HA6.out i hlt) (A:=AN) (n:=(W5 c x i).length) (c:=cn)
         rw [HRN.out]at oN
         refine wp_store_mid 39 _ _ rfl gR (1+i*74) RN rfl rfl (by rw [←HRN.out,row_size];exact row_there HRJ.out.blk (1+i*74) 74 (by omega)) iN oN ?_
         clear HSS
         refine hK.out _ _ ?_
         clear hK K
         try simp only [Rg.lp]
         refine Rg.doneR (by kernel_rfl) ?_ _
         refine NoPanic.normal ?_
         have hset:=HRJ.out.setNode hlt (G6 c x i) AN (W5 c x i) cn ⟨HP.out.an.1,HP.out.an.2,HW5.out i hlt,HAN.out,fun hn0 a e=>⟨rd_lt HAN.out hn0 e,(HP.out.lo hn0 a e).2⟩⟩
         rw [HRN.out,show 1+74*i=1+i*74 by omega]at hset
         have HST:=Lib.hid hset
         clear hset
         have BM:=Lib.hid (show Blk (wv.setCells gR (1+i*74) RN.toList) gm 56 (row 14 (repF (G6 c x i)))from blk_mid_other (w:=wv) HP.out.nm RN.toList (1+i*74) wv BM.out)
         have hgr:=gr_setCellsR wv gR RN.toList (1+i*74)
         have HKJ:=Lib.hid (HKJ.out.run hgr)
         have HRW:=Lib.hid (HRW.out.kept hgr (.inr fun e=>by have h1:=(HRW.out.lt _ e).1;have h2:=HK7.out;omega))
         have HVR2:=Lib.hid (show ∀j,j<4→0<((s'.setNode i (G6 c x i) AN (W5 c x i) cn).VL j).length→∀a,(s'.setNode i (G6 c x i) AN (W5 c x i) cn).VA j=some a→(Value.slice RA (goods x.bad i).length RC').ownBlock≠some a.block∧gR<a.block from fun j hj hn a e=>by
          by_cases ej:j=i
          · subst ej;exact HP.out.er a (by rw [←e];exact(setAt_self _ _ _).symm)
          · exact HVR.out j hj (by rw [←(show(s'.setNode i (G6 c x i) AN (W5 c x i) cn).VL j=s'.VL j from setAt_ne _ _ ej)];exact hn) a (by rw [←e];exact(setAt_ne _ _ ej).symm))
         have HRJ:=Lib.hid HST.out.1
         clear hgr HST
         generalize(wv.setCells gR (1+i*74) RN.toList)=wz at*
         have hr14:=repF_row (G6 c x i)
         obtain⟨v0,q0⟩:∃v,G6 c x i 0=v:=⟨_,rfl⟩
         obtain⟨v1,q1⟩:∃v,G6 c x i 1=v:=⟨_,rfl⟩
         obtain⟨v2,q2⟩:∃v,G6 c x i 67=v:=⟨_,rfl⟩
         obtain⟨v3,q3⟩:∃v,G6 c x i 68=v:=⟨_,rfl⟩
         obtain⟨v4,q4⟩:∃v,G6 c x i 69=v:=⟨_,rfl⟩
         obtain⟨v5,q5⟩:∃v,G6 c x i 6=v:=⟨_,rfl⟩
         obtain⟨v6,q6⟩:∃v,G6 c x i 13=v:=⟨_,rfl⟩
         obtain⟨v7,q7⟩:∃v,G6 c x i 20=v:=⟨_,rfl⟩
         obtain⟨v8,q8⟩:∃v,G6 c x i 70=v:=⟨_,rfl⟩
         obtain⟨v9,q9⟩:∃v,G6 c x i 72=v:=⟨_,rfl⟩
         obtain⟨v10,q10⟩:∃v,G6 c x i 27=v:=⟨_,rfl⟩
         obtain⟨v11,q11⟩:∃v,G6 c x i 28=v:=⟨_,rfl⟩
         obtain⟨v12,q12⟩:∃v,G6 c x i 29=v:=⟨_,rfl⟩
         obtain⟨v13,q13⟩:∃v,G6 c x i 30=v:=⟨_,rfl⟩
         rw [q0,q1,q2,q3,q4,q5,q6,q7,q8,q9,q10,q11,q12,q13]at hr14
         have o14:=rep_one (HA6.out i hlt)
         rw [hr14]at BM o14
         have HR14:=Lib.hid hr14
         have hbA:Below wz.heap.size wz (wz.alloc (.cells #[v0,v1,v2,v3,v4,v5,v6,v7,v8,v9,v10,v11,v12,v13] 56)):=(Below.refl _ _).alloc (Nat.le_refl _) _
         have HRJ:=Lib.hid (HRJ.out.below hbA)
         have HKJ:=Lib.hid (HKJ.out.below hbA)
         have HRW:=Lib.hid (ownsRow_below HRW.out hbA)
         have HCF:=Lib.hid (cells_fresh wz [v0,v1,v2,v3,v4,v5,v6,v7,v8,v9,v10,v11,v12,v13] 56)
         have HO14:=Lib.hid (show ∀u∈[v0,v1,v2,v3,v4,v5,v6,v7,v8,v9,v10,v11,v12,v13],u.oneCell'=true from fun u hu=>by rw [Array.all_eq_true']at o14;exact o14 u (by simpa using hu))
         have HBS:=Lib.hid (show w7.heap.size≤(wz.alloc (.cells #[v0,v1,v2,v3,v4,v5,v6,v7,v8,v9,v10,v11,v12,v13] 56)).heap.size from HKJ.out.size)
         have HGL:=Lib.hid (goods_len x.bad i)
         clear hr14 o14 hbA
         go_wp2_with(first|(refine wpList_whole rfl 56 _ rfl gm rfl BM.out _ Tryz.underlying56 rfl (by kernel_rfl) ?_)|(at_builtin;refine wpList_append_at _ rfl (.tmp 118) (.tmp 120) 44 rfl (base:=w7.heap.size) elemReps rfl HRW.out rfl (news:=[v0,v1,v2,v3,v4,v5,v6,v7,v8,v9,v10,v11,v12,v13]) rfl HCF.out HO14.out (by have:=HGL.out;unfold maxLen;omega) (by have:=HGL.out;omega) HBS.out ?_;intro A4 c4 w9 hown4 hg4 hat4;have HO4:=Lib.hid hown4;have HG4:=Lib.hid hg4;have HT4:=Lib.hid hat4;clear hown4 hg4 hat4))
         have HLN:=Lib.hid (show(goods x.bad (i+1)).length=(goods x.bad i).length+1 from by rw [HGD.out,List.length_append];rfl)
         have HRP:=Lib.hid (show reps c x (i+1)=reps c x i++[v0,v1,v2,v3,v4,v5,v6,v7,v8,v9,v10,v11,v12,v13]from by unfold reps;rw [HGD.out,List.flatMap_append];show _++((row 14 (repF (G6 c x i))).toList++[])=_;rw [HR14.out];rfl)
         have HOB:=Lib.hid (fun g e=>HRW.out.lt g e)
         exact⟨⟨i+1,s'.setNode i (G6 c x i) AN (W5 c x i) cn,A4,c4,by omega,by go_num,by rw [HLN.out],run_grown HRJ.out HG4.out (fun e=>by have h1:=(HOB.out _ e).1;have h2:=HK7.out;omega) (fun j hj=>by cases hoj:(s'.setNode i (G6 c x i) AN (W5 c x i) cn).own j with|none=>exact .inl rfl|some g=>exact .inr fun e=>own_not HRJ.out hj hoj (Ms.own_is HRW.out (show 56≠72 by decide) g e.symm)) (Ms.own_is HRW.out (by decide)) (fun j hj hn a e=>(HVR2.out j hj hn a e).1),(show setAt s'.F i (G6 c x i)=_ from by rw [HFE.out,HG1.out]),(show setAt s'.VL i (W5 c x i)=_ from by rw [HVE.out,setAt_id]),HXE.out,HKJ.out.grown HG4.out (fun g e=>(HOB.out g e).1),by rw [HLN.out,HRP.out];exact HO4.out,fun j hj hn a e=>⟨by rw [HLN.out];exact HT4.out.elim (fun h=>by rw [h];exact(HVR2.out j hj hn a e).1) (fun h=>by rw [h];exact fun e2=>by injection e2 with e2;have:=((HRJ.out.ver j hj).2.2.2.2 hn a e).1;omega),(HVR2.out j hj hn a e).2⟩⟩,by simp [intOf];omega⟩
      ·
       obtain rfl:i=4:=by omega
       clear hlt
       have B1v:=Lib.hid (old_blk HKJ.out.old B1z.out (by have:=HGW.out;omega))
       have B3v:=Lib.hid (old_blk HKJ.out.old B3z.out (by have:=HGW.out;omega))
       have y0:=B1v.out.cell 0
       rw [←HRC.out,row_at (by omega),show cluCell c.fr c.F (verOf VA c.V VC) 0=.int .i64 c.fr from rfl]at y0
       have yr:=HRJ.out.blk.cell 0
       rw [row_at (by omega)]at yr
       have fr0:=HRJ.out.blk.thaw 0
       have hwr:IntKind.i64.wrap (c.fr+1)=c.fr+1:=by rw [IntKind.wrap_i64];have:=HS.out.fr;omega
       go_upto_region 32 with fail
       have hbk:=HRJ.out.blk.set 0 (.int .i64 (c.fr+1))
       rw [row_set]at hbk
       have HBK:=Lib.hid hbk
       have B3v:=Lib.hid (B3v.out.other (p:=⟨gR,0,none⟩) (by show gC+1+1≠gR;have:=HGW.out;omega) (.int .i64 (c.fr+1)))
       have hgr:=gr_setCell wr gR 0 (.int .i64 (c.fr+1))
       have HKJ:=Lib.hid (HKJ.out.run hgr)
       have HRW:=Lib.hid (HRW.out.kept hgr (.inr fun e=>by have h1:=(HRW.out.lt _ e).1;have h2:=HK7.out;omega))
       have HVE2:=Lib.hid (fun j (hj:j<4)=>HRJ.out.ver j hj)
       have HRD:=Lib.hid (show ∀j,j<4→Rd (wr.setCell ⟨gR,0,none⟩ (.int .i64 (c.fr+1))) (wr.setCell ⟨gR,0,none⟩ (.int .i64 (c.fr+1))).heap.size 1 (s'.VA j) (s'.VL j).length (boolsV (s'.VL j))from fun j hj=>rd_kept (HRJ.out.ver j hj).2.2.2.1 hgr.size (fun hn a e=>hgr.block a.block ((HRJ.out.ver j hj).2.2.2.2 hn a e).1 (fun e2=>by injection e2 with e2;have:=(HVR.out j hj hn a e).2;omega)))
       clear hbk hgr y0 yr fr0 HRJ
       generalize(wr.setCell ⟨gR,0,none⟩ (.int .i64 (c.fr+1)))=w9 at*
       have hrow:(row 297 fun j=>(fun i=>if i=0 then(.int .i64 (c.fr+1):Value)else s'.cell i) (0+j))=row 297 (cluCell (c.fr+1) (F6 c x) (verOf s'.VA (W5 c x) s'.VC)):=row_congr fun j hj=>by
        rw [Nat.zero_add]
        show(if j=0 then(.int .i64 (c.fr+1):Value)else s'.cell j)=_
        unfold cluCell
        by_cases h0:j=0
        · rw [if_pos h0,if_pos h0]
        ·
         rw [if_neg h0,if_neg h0]
         unfold RunC.cell RunC.verV
         rw [if_neg h0,if_pos (by omega),HFE.out,HVE.out]
         rfl
       have i2:(Tryz.prog.info? 42).map (·.size)=some (row 297 (cluCell (c.fr+1) (F6 c x) (verOf s'.VA (W5 c x) s'.VC))).size:=by rw [row_size];kernel_rfl
       have z2:(Tryz.zeroCells42).size=(row 297 (cluCell (c.fr+1) (F6 c x) (verOf s'.VA (W5 c x) s'.VC))).size:=by rw [row_size];kernel_rfl
       have o2:(row 297 (cluCell (c.fr+1) (F6 c x) (verOf s'.VA (W5 c x) s'.VC))).all (·.oneCell')=true:=row_one (cluCell_one (AllOk.new HA6.out HA5.out) _ _ _ _)
       obtain⟨RQ,hRQ⟩:∃R,row 297 (cluCell (c.fr+1) (F6 c x) (verOf s'.VA (W5 c x) s'.VC))=R:=⟨_,rfl⟩
       have HRQ:=Lib.hid hRQ
       rw [hRQ]at hrow i2 z2 o2
       clear hRQ
       go_wp2_with(first
        |(refine wpList_mid rfl 42 _ rfl gR 0 297 rfl HBK.out (by omega) _ Tryz.underlying42 rfl (by kernel_rfl) ?_;rw [hrow])
        |(refine wpList_store_row rfl 42 _ _ rfl (gC+1+1) RQ rfl rfl 42 _ B3v.out i2 z2 o2 ?_))
       have hgr:=gr_setRowR w9 (gC+1+1) RQ
       have HBE:=Lib.hid (show Below gC w (w9.setRow (gC+1+1) RQ)from below_setRow (show Below gC w w9 from⟨HKJ.out.os.trans HB7.out.os,HKJ.out.tape.trans HB7.out.tape,HKJ.out.output.trans HB7.out.output,Nat.le_trans HB7.out.size HKJ.out.old.1,fun b hb=>(HKJ.out.old.2 b (by have:=HGW.out;have:=HK7.out;omega) (by have:=HGW.out;omega)).trans (HB7.out.block b hb)⟩) (by omega) RQ)
       refine ret_row3 rfl rfl rfl rfl (B3v.out.setRow RQ) ⟨by rw [Tryz.underlying42],i2⟩ rfl ⟨s'.VA,s'.VC,RA,RC',?_,fun j hj=>?_,?_,?_⟩
       · rw [←HRQ.out];rfl
       ·
        obtain⟨h1,h2,h3,h4,h5⟩:=HVE2.out j hj
        rw [HVE.out]at h2 h4
        have h6:=HRD.out j hj
        rw [HVE.out]at h6
        exact⟨h1,h2,rd_kept h6 hgr.size (fun hn a e=>setRow_other w9 (gC+1+1) a.block RQ (by have:=(HVR.out j hj (by rw [HVE.out];exact hn) a e).2;have:=HGW.out;omega)),fun hn a e=>by have:=(HVR.out j hj (by rw [HVE.out];exact hn) a e).2;have:=HGW.out;rw [HGC.out];omega⟩
       ·
        refine own_weaken (HRW.out.kept hgr (.inr fun e=>by have h1:=(HRW.out.lt _ e).1;have h2:=HK7.out;have:=HGW.out;omega)) ?_
        rw [HGC.out];have:=HK7.out;have:=HGW.out;omega
       · rw [HGC.out];exact HBE.out
end Cf
end Go.Proofs.YtljpoibnkkcjdaaGreatDoor
