import Derived.Test.YtljpoibnkkcjdaaGreatDoorPc24
set_option linter.unusedVariables false
set_option linter.unusedSimpArgs false
namespace Go.Proofs.YtljpoibnkkcjdaaGreatDoor
namespace Cf
open Go.ChangeShapes Go.WideShapes Go.ChangeAt Go.RowKit Mem Go.Proofs.YtljpoibnkkcjdaaGreatDoor.Op Rws Nd Cl
instance:Inhabited InS:=⟨⟨fun _=>0,0,[]⟩⟩
def inL (x:InS) (LA:Option Addr) (LC:Nat):List Value:=(row 14 (inCell x.rd x.bad (.slice LA x.ls.length LC))).toList
def InsAt (w:World) (B:Nat) (A:Option Addr) (xs:List InS):Prop:=
 ∃cs,Rd w B 14 A xs.length cs∧∀i x,xs[i]?=some x→∃LA LC,(cs.drop (i*14)).take 14=inL x LA LC∧(LA=none→LC=0)∧x.ls.length≤LC∧LC≤9223372036854775807∧LiesAt w B LA x.ls
theorem InsAt.keep {w w':World} {B:Nat} {A:Option Addr} {xs:List InS} (h:InsAt w B A xs) (hk:∀b o,b<B→ w'.cell? ⟨b,o,none⟩= w.cell? ⟨b,o,none⟩):InsAt w' B A xs:=by
 obtain⟨cs,hr,hx⟩:=h
 refine⟨cs,hr.keep hk,fun i x hi=>?_⟩
 obtain⟨LA,LC,h1,h2,h3,h4,h5⟩:=hx i x hi
 exact⟨LA,LC,h1,h2,h3,h4,h5.keep hk⟩
theorem lies_more {w:World} {B B':Nat} {A:Option Addr} {ls:List Lie} (h:LiesAt w B A ls) (hB:B≤B'):LiesAt w B' A ls:=by
 obtain⟨xs,hr,hx⟩:=h
 refine⟨xs,hr.more hB,fun i l hl=>?_⟩
 obtain⟨a,c,h1,h2,h3,h4,h5,h6⟩:=hx i l hl
 exact⟨a,c,h1,h2,h3,h4,h5,h6.more hB⟩
theorem InsAt.more {w:World} {B B':Nat} {A:Option Addr} {xs:List InS} (h:InsAt w B A xs) (hB:B≤B'):InsAt w B' A xs:=by
 obtain⟨cs,hr,hx⟩:=h
 refine⟨cs,hr.more hB,fun i x hi=>?_⟩
 obtain⟨LA,LC,h1,h2,h3,h4,h5⟩:=hx i x hi
 exact⟨LA,LC,h1,h2,h3,h4,lies_more h5 hB⟩
theorem InsAt.below {w w':World} {B:Nat} {A:Option Addr} {xs:List InS} (h:InsAt w B A xs) (hb:Below B w w'):InsAt w' B A xs:=h.keep fun b o hp=>hb.cell (p:=⟨b,o,none⟩) hp
theorem InsAt.nil (w:World) (B:Nat) (A:Option Addr):InsAt w B A []:=⟨[],Rd.nil _ _ _ _,fun i l h=>by simp at h⟩
theorem InsAt.at {w:World} {B:Nat} {A:Option Addr} {xs:List InS} (h:InsAt w B A xs) {i:Nat} {x:InS} (hi:xs[i]?=some x):∃b o LA LC,A=some ⟨b,o,none⟩∧b<B∧w.rangeAt b (o+i*14) ((List.range 14).map (inCell x.rd x.bad (.slice LA x.ls.length LC)))∧(LA=none→LC=0)∧x.ls.length≤LC∧LC≤9223372036854775807∧LiesAt w B LA x.ls:=by
 obtain⟨cs,hr,hx⟩:=h
 obtain⟨LA,LC,h1,h2,h3,h4,h5⟩:=hx i x hi
 have hl:i<xs.length:=(List.getElem?_eq_some_iff.1 hi).1
 obtain⟨b,o,e,hb,hc⟩:=hr.2 (by omega)
 refine⟨b,o,LA,LC,e,hb,fun j v hv=>?_,h2,h3,h4,h5⟩
 have hj:j<14:=by have:=(List.getElem?_eq_some_iff.1 hv).1;simpa using this
 have hv2:(inL x LA LC)[j]?=some v:=by unfold inL;rw [row_toList];exact hv
 rw [←h1,List.getElem?_take,if_pos hj,List.getElem?_drop]at hv2
 have:=hc _ _ hv2
 rwa [←Nat.add_assoc]at this
section
variable {H : Type} {enc : TypeId × Value → H} {W : World} {base : Nat} {spare : Nat → Bool} {held : Bool}
theorem lie_of_cells (hsp:∀b,spare b=true) {vs:List Value} (k:Cells enc Tryz.prog W base spare held [3,3,58] vs):
  ∃l a c,vs=lieL l a c∧(a=none→c=0)∧l.bs.length≤c∧c≤140737488351232∧(∀x∈l.bs,x<256)∧Rd W W.heap.size 1 a l.bs.length (Sm.bytesV l.bs)∧Wf l.p∧Wf l.t:=by
 obtain⟨x0,l,rfl,f0,k⟩:=k.cons
 obtain⟨x1,l,rfl,f1,k⟩:=k.cons
 obtain⟨x2,l,rfl,f2,k⟩:=k.cons
 obtain rfl:=k.nil_
 obtain⟨m0,rfl,w0⟩:=f0.int Tryz.underlying3
 obtain⟨m1,rfl,w1⟩:=f1.int Tryz.underlying3
 obtain⟨A,c,zs,rfl,h1,h2,h3,h4,h5,h6⟩:=f2.ints Tryz.underlying58 Tryz.underlying5 (by kernel_rfl) hsp
 rw [show Tryz.prog.bytesOf 5=1 from by kernel_rfl]at h3
 obtain⟨bs,g1,g2,g3⟩:=Sm.bytes_of zs h6
 rw [g1,←g2]at h5
 rw [←g2]at h1 ⊢
 have hr:reachBytes=140737488351232:=by decide
 exact⟨⟨m0,m1,bs⟩,A,c,rfl,h4,h1,by omega,g3,h5,w0,w1⟩
set_option maxRecDepth 100000 in
theorem in_of_cells (hsp:∀b,spare b=true) {vs:List Value} (k:Cells enc Tryz.prog W base spare held [3,3,3,3,3,3,3,3,3,3,3,3,3,46] vs):
  ∃x LA LC,vs=inL x LA LC∧(LA=none→LC=0)∧x.ls.length≤LC∧LC*40≤140737488351232∧LiesAt W W.heap.size LA x.ls∧(∀i,i<12→Wf (x.rd i))∧Wf x.bad∧∀l∈x.ls,Wf l.p∧Wf l.t:=by
 obtain⟨x0,l,rfl,f0,k⟩:=k.cons
 obtain⟨x1,l,rfl,f1,k⟩:=k.cons
 obtain⟨x2,l,rfl,f2,k⟩:=k.cons
 obtain⟨x3,l,rfl,f3,k⟩:=k.cons
 obtain⟨x4,l,rfl,f4,k⟩:=k.cons
 obtain⟨x5,l,rfl,f5,k⟩:=k.cons
 obtain⟨x6,l,rfl,f6,k⟩:=k.cons
 obtain⟨x7,l,rfl,f7,k⟩:=k.cons
 obtain⟨x8,l,rfl,f8,k⟩:=k.cons
 obtain⟨x9,l,rfl,f9,k⟩:=k.cons
 obtain⟨x10,l,rfl,f10,k⟩:=k.cons
 obtain⟨x11,l,rfl,f11,k⟩:=k.cons
 obtain⟨x12,l,rfl,f12,k⟩:=k.cons
 obtain⟨y,l,rfl,f13,k⟩:=k.cons
 obtain rfl:=k.nil_
 obtain⟨m0,rfl,w0⟩:=f0.int Tryz.underlying3
 obtain⟨m1,rfl,w1⟩:=f1.int Tryz.underlying3
 obtain⟨m2,rfl,w2⟩:=f2.int Tryz.underlying3
 obtain⟨m3,rfl,w3⟩:=f3.int Tryz.underlying3
 obtain⟨m4,rfl,w4⟩:=f4.int Tryz.underlying3
 obtain⟨m5,rfl,w5⟩:=f5.int Tryz.underlying3
 obtain⟨m6,rfl,w6⟩:=f6.int Tryz.underlying3
 obtain⟨m7,rfl,w7⟩:=f7.int Tryz.underlying3
 obtain⟨m8,rfl,w8⟩:=f8.int Tryz.underlying3
 obtain⟨m9,rfl,w9⟩:=f9.int Tryz.underlying3
 obtain⟨m10,rfl,w10⟩:=f10.int Tryz.underlying3
 obtain⟨m11,rfl,w11⟩:=f11.int Tryz.underlying3
 obtain⟨m12,rfl,w12⟩:=f12.int Tryz.underlying3
 obtain⟨A,n,c,xs,rfl,h1,h2,h3,h4,h5,h6⟩:=Op.Leaf.slice (le:=[3,3,58]) Tryz.underlying46 (by kernel_rfl) (by kernel_rfl) (by simp) hsp f13
 rw [show Tryz.prog.bytesOf 117=40 from by kernel_rfl]at h3
 obtain⟨f,hf⟩:=Deep.choose_lt (n:=n) (fun i hi=>lie_of_cells hsp (h6 i hi))
 have hlen:((List.range n).map f).length=n:=by simp
 have hr:reachBytes=140737488351232:=by decide
 refine⟨⟨fun i=>[m0,m1,m2,m3,m4,m5,m6,m7,m8,m9,m10,m11].getD i 0,m12,(List.range n).map f⟩,A,c,by unfold inL;dsimp only;rw [hlen];rfl,h4,by rw [hlen];exact h1,by omega,⟨xs,by rw [hlen];exact h5,fun i l hl=>?_⟩,fun i hi=>?_,w12,fun l hl=>?_⟩
 ·
  have hi:i<n:=by have:=(List.getElem?_eq_some_iff.1 hl).1;simpa using this
  simp [hi]at hl
  subst hl
  obtain⟨a,c',q1,q2,q3,q4,q5,q6,_⟩:=hf i hi
  exact⟨a,c',q1,q2,q3,⟨by omega,by omega⟩,q5,q6⟩
 ·
  obtain rfl|rfl|rfl|rfl|rfl|rfl|rfl|rfl|rfl|rfl|rfl|rfl:i=0∨i=1∨i=2∨i=3∨i=4∨i=5∨i=6∨i=7∨i=8∨i=9∨i=10∨i=11:=by omega
  all_goals assumption
 ·
  obtain⟨i,hi,rfl⟩:=List.mem_map.1 hl
  obtain⟨a,c',q1,q2,q3,q4,q5,q6,q7⟩:=hf i (List.mem_range.1 hi)
  exact q7
end
set_option maxRecDepth 100000 in
theorem openInputs2 {H:Type} {enc:TypeId×Value→H} {W:World} {base:Nat} {v:Value} {d:DataW H} {ps:List MemPlace} (hv:Value.okWide Tryz.prog W .any base 24 v)
  (h:DataW.Trod enc Tryz.prog W 0 (fun _=>true) true 24 v d ps) (hl:Op.Light Tryz.prog 24 d):
  ∃(A:Option Addr) (c:Nat) (xs:List InS),v=.slice A xs.length c∧xs.length≤c∧c*128≤140737488351232∧(A=none→c=0)∧InsAt W W.heap.size A xs∧∀x∈xs,((∀i,i<12→Wf (x.rd i))∧Wf x.bad)∧(∀l∈x.ls,Wf l.p∧Wf l.t)∧x.ls.length*40≤140737488351232:=by
 obtain⟨a0,len,cap,rfl⟩:=okWide_slice Tryz.underlying24 hv
 obtain⟨n0,hn⟩:=h
 obtain⟨A,n,c,xs,e,h1,h2,h3,h4,h5,h6⟩:=Op.Leaf.slice (enc:=enc) (held:=true) (base:=0) (spare:=fun _=>true) (w:=W) (v:=.slice a0 len cap) (le:=[3,3,3,3,3,3,3,3,3,3,3,3,3,46]) Tryz.underlying24 (by kernel_rfl) (by kernel_rfl) (by simp) (fun _=>rfl) ⟨n0,_,hn,hl⟩
 rw [show Tryz.prog.bytesOf 48=128 from by kernel_rfl]at h3
 obtain⟨f,hf⟩:=Deep.choose_lt (n:=n) (fun i hi=>in_of_cells (fun _=>rfl) (h6 i hi))
 rw [e]
 have hlen:((List.range n).map f).length=n:=by simp
 have hr:reachBytes=140737488351232:=by decide
 refine⟨A,c,(List.range n).map f,by rw [hlen],by rw [hlen];exact h1,by omega,h4,⟨xs,by rw [hlen];exact h5,fun i x hx=>?_⟩,fun x hx=>?_⟩
 ·
  have hi:i<n:=by have:=(List.getElem?_eq_some_iff.1 hx).1;simpa using this
  simp [hi]at hx
  subst hx
  obtain⟨LA,LC,q1,q2,q3,q4,q5,_⟩:=hf i hi
  exact⟨LA,LC,q1,q2,q3,by omega,q5⟩
 ·
  obtain⟨i,hi,rfl⟩:=List.mem_map.1 hx
  obtain⟨LA,LC,q1,q2,q3,q4,q5,q6,q7,q8⟩:=hf i (List.mem_range.1 hi)
  exact⟨⟨q6,q7⟩,q8,by omega⟩
set_option maxRecDepth 100000 in
theorem openInputs {H:Type} {enc:TypeId×Value→H} {W:World} {base:Nat} {v:Value} {d:DataW H} {ps:List MemPlace} (hv:Value.okWide Tryz.prog W .any base 24 v)
  (h:DataW.Trod enc Tryz.prog W 0 (fun _=>true) true 24 v d ps) (hl:Op.Light Tryz.prog 24 d):
  ∃(A:Option Addr) (c:Nat) (xs:List InS),v=.slice A xs.length c∧xs.length≤c∧c*128≤140737488351232∧(A=none→c=0)∧InsAt W W.heap.size A xs∧∀x∈xs,((∀i,i<12→Wf (x.rd i))∧Wf x.bad)∧∀l∈x.ls,Wf l.p∧Wf l.t:=by
 obtain⟨A,c,xs,h1,h2,h3,h4,h5,h6⟩:=openInputs2 hv h hl
 exact⟨A,c,xs,h1,h2,h3,h4,h5,fun x hx=>⟨(h6 x hx).1,(h6 x hx).2.1⟩⟩
end Cf
namespace Nd
open Go.RowKit Mem Rws Flat
def cluK (t0 t1 t2 t3:Int) (k i:Nat):Value:=if i=0 then .int .i64 0 else if(i-1)/74<k then nodeK ((i-1)/74:Nat) t0 t1 t2 t3 3 ((i-1)%74)else node0 ((i-1)%74)
theorem cluK_succ (t0 t1 t2 t3:Int) (k:Nat) (i:Nat):over (1+k*74) 74 (nodeK (k:Int) t0 t1 t2 t3 3) (cluK t0 t1 t2 t3 k) i=cluK t0 t1 t2 t3 (k+1) i:=by
 by_cases h:1+k*74≤i∧i<1+k*74+74
 ·
  rw [over_in h.1 h.2]
  have e1:(i-1)/74=k:=by omega
  have e2:(i-1)%74=i-(1+k*74):=by omega
  unfold cluK
  rw [if_neg (by omega),e1,e2,if_pos (by omega)]
 ·
  rw [over_out (by omega)]
  unfold cluK
  by_cases h0:i=0
  · rw [if_pos h0,if_pos h0]
  ·
   rw [if_neg h0,if_neg h0]
   by_cases h1:(i-1)/74<k
   · rw [if_pos h1,if_pos (by omega)]
   · rw [if_neg h1,if_neg (show ¬(i-1)/74<k+1 by omega)]
theorem node0_one (i:Nat):(node0 i).oneCell'=true:=by unfold node0;(repeat' split)<;>rfl
theorem cluK_one (t0 t1 t2 t3:Int) (k i:Nat):(cluK t0 t1 t2 t3 k i).oneCell'=true:=by
 unfold cluK
 split
 · rfl
 ·
  split
  · exact nodeK_one _ _ _ _ _ _ _
  · exact node0_one _
set_option maxRecDepth 100000 in
theorem zero_cluster (t0 t1 t2 t3:Int):Tryz.zeroCells42=row 297 (cluK t0 t1 t2 t3 0):=by
 have h:Tryz.zeroCells42=row 297 fun i=>if i=0 then .int .i64 0 else node0 ((i-1)%74):=by kernel_rfl
 rw [h]
 refine row_congr fun i _=>?_
 unfold cluK
 by_cases h0:i=0
 · rw [if_pos h0,if_pos h0]
 · rw [if_neg h0,if_neg h0,if_neg (by omega)]
set_option maxRecDepth 100000 in
set_option maxHeartbeats 1000000 in
theorem cluster_any (t0 t1 t2 t3:Int) (w:World):
  Calls Tryz.prog 5 #[.agg #[.int .i64 t0,.int .i64 t1,.int .i64 t2,.int .i64 t3]] w fun e w'=>e=.returned (.agg (row 297 (cluK t0 t1 t2 t3 4)))∧Below w.heap.size w w':=by
 go_enter Tryz.func5,Tryz.ntmps5
 go_wp2_with fail
 have D1:Hid (Blk (((w.alloc (.cells #[.int .i64 t0,.int .i64 t1,.int .i64 t2,.int .i64 t3] 23)).alloc (.cells Tryz.zeroCells42 42)).alloc (.cells Tryz.zeroCells42 42)) w.heap.size 23 #[.int .i64 t0,.int .i64 t1,.int .i64 t2,.int .i64 t3]):=Lib.hid (((Blk.new rfl).alloc _).alloc _)
 have D2:Hid (Blk (((w.alloc (.cells #[.int .i64 t0,.int .i64 t1,.int .i64 t2,.int .i64 t3] 23)).alloc (.cells Tryz.zeroCells42 42)).alloc (.cells Tryz.zeroCells42 42)) (w.heap.size+1) 42 (row 297 (cluK t0 t1 t2 t3 0))):=Lib.hid (by rw [zero_cluster t0 t1 t2 t3];exact(Blk.new (by simp)).alloc _)
 have D3:Hid (Blk (((w.alloc (.cells #[.int .i64 t0,.int .i64 t1,.int .i64 t2,.int .i64 t3] 23)).alloc (.cells Tryz.zeroCells42 42)).alloc (.cells Tryz.zeroCells42 42)) (w.heap.size+1+1) 42 (row 297 (cluK t0 t1 t2 t3 0))):=Lib.hid (by rw [zero_cluster t0 t1 t2 t3];exact Blk.new (by simp))
 have HB:=Lib.hid (((((Below.refl w.heap.size w).alloc (Nat.le_refl _) (.cells #[.int .i64 t0,.int .i64 t1,.int .i64 t2,.int .i64 t3] 23)).alloc (by simp) (.cells Tryz.zeroCells42 42)).alloc (by simp;omega) (.cells Tryz.zeroCells42 42)))
 generalize(((w.alloc (.cells #[.int .i64 t0,.int .i64 t1,.int .i64 t2,.int .i64 t3] 23)).alloc (.cells Tryz.zeroCells42 42)).alloc (.cells Tryz.zeroCells42 42))=W at*
 go_loopw [5] (fun i wr=>∃k:Nat,k≤4∧i=.int .i64 k∧Blk wr w.heap.size 23 #[.int .i64 t0,.int .i64 t1,.int .i64 t2,.int .i64 t3]∧Blk wr (w.heap.size+1) 42 (row 297 (cluK t0 t1 t2 t3 0))∧Blk wr (w.heap.size+1+1) 42 (row 297 (cluK t0 t1 t2 t3 k))∧Below w.heap.size w wr) (fun i _=>4-(intOf i).toNat)
 case atStart=>exact⟨0,by omega,rfl,D1.out,D2.out,D3.out,HB.out⟩
 case round=>
  clear D1 D2 D3 HB
  obtain⟨k,hk,rfl,d1,d2,d3,hb⟩:=hrel
  have D1:=Lib.hid d1
  have D2:=Lib.hid d2
  have D3:=Lib.hid d3
  have HB:=Lib.hid hb
  have x0:=d1.cell 0
  have x1:=d1.cell 1
  have x2:=d1.cell 2
  have x3:=d1.cell 3
  simp only [List.getElem?_toArray,List.getElem?_cons_zero,List.getElem?_cons_succ]at x0 x1 x2 x3
  clear d1 d2 d3 hb
  by_cases hlt:k<4
  ·
   go_wp2_with fail
   refine(nodeBegin_yes (k:Int) t0 t1 t2 t3 _ (by omega) (by omega)).mono ?_
   rintro e w1 ⟨rfl,hb1⟩
   have E1:=Lib.hid (D1.out.below hb1 D1.out.lt)
   have E2:=Lib.hid (D2.out.below hb1 D2.out.lt)
   have E3:=Lib.hid (D3.out.below hb1 D3.out.lt)
   have HB1:=Lib.hid (onward HB.out (Nat.le_refl _) hb1)
   have hi74:(Tryz.prog.info? 39).map (·.size)=some (row 74 (nodeK (k:Int) t0 t1 t2 t3 3)).size:=by rw [row_size];kernel_rfl
   have hth:w1.there (w.heap.size+1+1) (1+k*74) (row 74 (nodeK (k:Int) t0 t1 t2 t3 3)).size:=by rw [row_size];exact row_there E3.out (1+k*74) 74 (by omega)
   have h174:(row 74 (nodeK (k:Int) t0 t1 t2 t3 3)).all (·.oneCell')=true:=row_one fun i _=>nodeK_one _ _ _ _ _ _ i
   obtain⟨R,hRR⟩:∃R,row 74 (nodeK (k:Int) t0 t1 t2 t3 3)=R:=⟨_,rfl⟩
   have HRR:=Lib.hid hRR
   rw [hRR]at hi74 hth h174 ⊢
   clear hRR hb1 x0 x1 x2 x3
   go_wp2_with(refine wpList_wanted rfl (fun K hK=>?_);refine wp_store_mid 39 _ _ rfl (w.heap.size+1+1) (1+k*74) R rfl rfl hth hi74 h174 (hK _ _ ?_))
   rw [←HRR.out]
   refine⟨⟨k+1,by omega,by go_num,blk_mid_other (w:=w1) (by omega) _ _ _ E1.out,blk_mid_other (w:=w1) (by omega) _ _ _ E2.out,?_,below_setCells (by omega) _ _ HB1.out⟩,by simp [intOf];omega⟩
   have:=blk_mid E3.out (1+k*74) 74 (nodeK (k:Int) t0 t1 t2 t3 3)
   rw [row_congr (fun i _=>cluK_succ t0 t1 t2 t3 k i)]at this
   exact this
  ·
   obtain rfl:k=4:=by omega
   clear hlt x0 x1 x2 x3
   have hi:(Tryz.prog.info? 42).map (·.size)=some (row 297 (cluK t0 t1 t2 t3 4)).size:=by rw [row_size];kernel_rfl
   have h1:(row 297 (cluK t0 t1 t2 t3 4)).all (·.oneCell')=true:=row_one fun i _=>cluK_one _ _ _ _ _ i
   have hs:(row 297 (cluK t0 t1 t2 t3 0)).size=(row 297 (cluK t0 t1 t2 t3 4)).size:=by rw [row_size,row_size]
   obtain⟨R,hRR⟩:∃R,row 297 (cluK t0 t1 t2 t3 4)=R:=⟨_,rfl⟩
   have HRR:=Lib.hid hRR
   rw [hRR]at D3 hi h1 hs
   clear hRR
   go_wp2_with(first
    |(refine wpList_whole rfl 42 _ rfl (w.heap.size+1+1) rfl D3.out _ Tryz.underlying42 rfl hi ?_)
    |(refine wpList_store_row rfl 42 _ _ rfl (w.heap.size+1) R rfl rfl 42 _ D2.out hi hs h1 ?_))
   exact ret_row rfl rfl (D2.out.setRow R) Tryz.underlying42 rfl hi rfl ⟨by rw [HRR.out],below_setRow HB.out (by omega) _⟩
end Nd
namespace Cf
open Go.ChangeShapes Go.WideShapes Go.ChangeAt Go.RowKit Mem Rws Nd Cl
def beginS (t0 t1 t2 t3:Int):CluS:=⟨0,fun i=>nodeK (i:Int) t0 t1 t2 t3 3,fun _=>[]⟩
noncomputable def runS (t0 t1 t2 t3:Int) (ys:List InS):Nat→CluS
 |0=>beginS t0 t1 t2 t3
 |k+1=>next (runS t0 t1 t2 t3 ys k) (ys.getD k default)
theorem runS_succ (t0 t1 t2 t3:Int) (ys:List InS) (i:Nat):runS t0 t1 t2 t3 ys (i+1)=next (runS t0 t1 t2 t3 ys i) (ys.getD i default):=rfl
theorem runS_fr (t0 t1 t2 t3:Int) (ys:List InS):∀k,(runS t0 t1 t2 t3 ys k).fr=(k:Int)
 |0=>rfl
 |k+1=>by
  rw [runS_succ]
  show(runS t0 t1 t2 t3 ys k).fr+1=_
  rw [runS_fr t0 t1 t2 t3 ys k]
  omega
def GoodIns (ys:List InS):Prop:=ys.length≤400∧∀i,i<ys.length→(-1≤(ys.getD i default).bad∧(ys.getD i default).bad≤3)∧(∀j,j<12→Wf ((ys.getD i default).rd j))∧(ys.getD i default).ls.length≤400
theorem node_sane (id t0 t1 t2 t3:Int) (h0:0≤id∧id<4) (h:Wf t0∧Wf t1∧Wf t2∧Wf t3):WfF (nodeK id t0 t1 t2 t3 3):=fun i z hi e=>by
 have hs:∀v:Value,v∈(List.range 73).map (nodeK id t0 t1 t2 t3 3)→∀z,v=.int .i64 z→z=id∨z=t0∨z=t1∨z=t2∨z=t3∨z=0∨z=4294967296:=by
  rw [show(List.range 73).map (nodeK id t0 t1 t2 t3 3)=([.int .i64 id,.int .i64 0,.int .i64 t0,.int .i64 t1,.int .i64 t2,.int .i64 t3,.int .i64 0,.int .i64 0,.int .i64 4294967296,.int .i64 0,.int .i64 4294967296,.bool false,.int .i64 0,.int .i64 0,.int .i64 0,.int .i64 4294967296,.int .i64 0,.int .i64 4294967296,.bool false,.int .i64 0,.int .i64 0,.int .i64 0,.int .i64 4294967296,.int .i64 0,.int .i64 4294967296,.bool false,.int .i64 0,.bool true,.bool true,.bool true,.bool true,.int .i64 0,.int .i64 0,.int .i64 0,.int .i64 0,.int .i64 0,.int .i64 0,.int .i64 0,.int .i64 0,.int .i64 0,.int .i64 0,.int .i64 0,.int .i64 0,.int .i64 0,.int .i64 0,.int .i64 0,.int .i64 0,.int .i64 0,.int .i64 0,.int .i64 0,.int .i64 0,.int .i64 0,.int .i64 0,.int .i64 0,.int .i64 0,.int .i64 0,.int .i64 0,.int .i64 0,.int .i64 0,.int .i64 0,.int .i64 0,.int .i64 0,.int .i64 0,.int .i64 0,.int .i64 0,.int .i64 0,.int .i64 0,.int .i64 0,.int .i64 0,.int .i64 0,.int .i64 0,.int .i64 0,.bool false]:List Value)from by kernel_rfl]
  intro v hv z e
  simp only [List.mem_cons,List.mem_nil_iff,or_false]at hv
  (rcases hv with rfl|rfl|rfl|rfl|rfl|rfl|rfl|rfl|rfl|rfl|rfl|rfl|rfl|rfl|rfl|rfl|rfl|rfl|rfl|rfl|rfl|rfl|rfl|rfl|rfl|rfl|rfl|rfl|rfl|rfl|rfl|rfl|rfl|rfl|rfl|rfl|rfl|rfl|rfl|rfl|rfl|rfl|rfl|rfl|rfl|rfl|rfl|rfl|rfl|rfl|rfl|rfl|rfl|rfl|rfl|rfl|rfl|rfl|rfl|rfl|rfl|rfl|rfl|rfl|rfl|rfl|rfl|rfl|rfl|rfl|rfl|rfl|rfl)<;>first|(cases e;done)|(have:=int_inj e;omega)
 rcases hs _ (List.mem_map.2 ⟨i,List.mem_range.2 hi,rfl⟩) z e with h1|h1|h1|h1|h1|h1|h1<;>rw [h1]
 · exact wf_of (by omega)
 · exact h.1
 · exact h.2.1
 · exact h.2.2.1
 · exact h.2.2.2
 · exact wf_zero
 · exact wf_of (by omega)
def kindV:Value→Option Bool
 | .int .i64 _=>some true
 | .bool _=>some false
 |_=>none
theorem ok_kind {v:Value} {b:Bool} (h:kindV v=some b):okT b v:=by
 unfold kindV at h
 split at h
 · cases h;exact⟨_,rfl⟩
 · cases h;exact⟨_,rfl⟩
 · cases h
theorem ok_rows {f:Nat→Value} (h:(List.range 73).map (fun i=>kindV (f i))=(List.range 73).map (fun i=>some (nodeT i))):∀i,i<73→okT (nodeT i) (f i):=fun i hi=>by
 have h1:=congrArg (·[i]?) h
 simp [hi]at h1
 exact ok_kind h1
theorem ok_node (id t0 t1 t2 t3:Int):∀i,i<73→okT (nodeT i) (nodeK id t0 t1 t2 t3 3 i):=ok_rows (by kernel_rfl)
theorem sane_begin {t0 t1 t2 t3:Int} (h:Wf t0∧Wf t1∧Wf t2∧Wf t3):Sane (beginS t0 t1 t2 t3):=
 ⟨fun i hi=>rfl,fun i hi=>ok_node _ _ _ _ _,fun i hi=>node_sane _ _ _ _ _ (by omega) h,by show(0:Int)≤0∧(0:Int)<1073741824;omega,fun i hi=>by show(([]:List Bool)).length≤_;simp⟩
theorem sane_run {t0 t1 t2 t3:Int} {ys:List InS} (h:Wf t0∧Wf t1∧Wf t2∧Wf t3) (hg:GoodIns ys):∀k,k≤ys.length→Sane (runS t0 t1 t2 t3 ys k)
 |0,_=>sane_begin h
 |k+1,hk=>by
  rw [runS_succ]
  refine sane_next (sane_run h hg k (by omega)) (hg.2 k (by omega)).2.1 ?_
  rw [runS_fr]
  have:=hg.1
  omega
theorem begin_row (t0 t1 t2 t3:Int):row 297 (cluK t0 t1 t2 t3 4)=row 297 (cluCell (beginS t0 t1 t2 t3).fr (beginS t0 t1 t2 t3).F (verOf (fun _=>none) (beginS t0 t1 t2 t3).V (fun _=>0))):=row_congr fun i hi=>by
 unfold cluK cluCell
 by_cases h0:i=0
 · rw [if_pos h0,if_pos h0];rfl
 ·
  rw [if_neg h0,if_neg h0,if_pos (by omega)]
  unfold nodeW
  by_cases h:(i-1)%74=73
  · rw [if_pos h,h];rfl
  · rw [if_neg h];rfl
def VerOk (w:World) (c:CluS) (VA:Nat→Option Addr) (VC:Nat→Nat) (X:Nat→Prop):Prop:=∀j,j<4→(VA j=none→VC j=0)∧(c.V j).length≤VC j∧Rd w w.heap.size 1 (VA j) (c.V j).length (boolsV (c.V j))∧(0<(c.V j).length→∀a,VA j=some a→¬X a.block)
theorem VerOk.grown {w w':World} {c:CluS} {VA:Nat→Option Addr} {VC:Nat→Nat} {X:Nat→Prop} (h:VerOk w c VA VC X) {row:Option Nat} (hg:w.grownBy w' row) (hr:∀g,row=some g→X g):VerOk w' c VA VC X:=fun j hj=>by
 obtain⟨h1,h2,h3,h4⟩:=h j hj
 exact⟨h1,h2,rd_kept h3 hg.size (fun hn a e=>hg.block a.block (rd_lt h3 hn e) (fun e2=>h4 hn a e (hr _ e2.symm))),h4⟩
theorem VerOk.below {w w':World} {c:CluS} {VA:Nat→Option Addr} {VC:Nat→Nat} {X:Nat→Prop} (h:VerOk w c VA VC X) (hb:Below w.heap.size w w'):VerOk w' c VA VC X:=fun j hj=>by
 obtain⟨h1,h2,h3,h4⟩:=h j hj
 exact⟨h1,h2,(h3.below hb).more hb.size,h4⟩
theorem VerOk.wider {w:World} {c:CluS} {VA:Nat→Option Addr} {VC:Nat→Nat} {X Y:Nat→Prop} (h:VerOk w c VA VC X) (hY:∀b,b<w.heap.size→Y b→X b):VerOk w c VA VC Y:=fun j hj=>by
 obtain⟨h1,h2,h3,h4⟩:=h j hj
 exact⟨h1,h2,h3,fun hn a e hy=>h4 hn a e (hY _ (rd_lt h3 hn e) hy)⟩
def ClusIn (w:World) (cs:List Value) (cl:Nat→CluS) (n:Nat) (X:Nat→Prop):Prop:=∀j,j<n→∃VA VC,(cs.drop (j*297)).take 297=(row 297 (cluCell (cl j).fr (cl j).F (verOf VA (cl j).V VC))).toList∧VerOk w (cl j) VA VC X
theorem ClusIn.grown {w w':World} {cs:List Value} {cl:Nat→CluS} {n:Nat} {X:Nat→Prop} (h:ClusIn w cs cl n X) {row:Option Nat} (hg:w.grownBy w' row) (hr:∀g,row=some g→X g):ClusIn w' cs cl n X:=fun j hj=>by
 obtain⟨VA,VC,h1,h2⟩:=h j hj;exact⟨VA,VC,h1,h2.grown hg hr⟩
theorem ClusIn.below {w w':World} {cs:List Value} {cl:Nat→CluS} {n:Nat} {X:Nat→Prop} (h:ClusIn w cs cl n X) (hb:Below w.heap.size w w'):ClusIn w' cs cl n X:=fun j hj=>by
 obtain⟨VA,VC,h1,h2⟩:=h j hj;exact⟨VA,VC,h1,h2.below hb⟩
theorem ClusIn.wider {w:World} {cs:List Value} {cl:Nat→CluS} {n:Nat} {X Y:Nat→Prop} (h:ClusIn w cs cl n X) (hY:∀b,b<w.heap.size→Y b→X b):ClusIn w cs cl n Y:=fun j hj=>by
 obtain⟨VA,VC,h1,h2⟩:=h j hj;exact⟨VA,VC,h1,h2.wider hY⟩
theorem ClusIn.snoc {w:World} {cs new:List Value} {cl:Nat→CluS} {n:Nat} {X:Nat→Prop} (h:ClusIn w cs cl n X) (hl:cs.length=n*297) {VA:Nat→Option Addr} {VC:Nat→Nat} (hn:new=(row 297 (cluCell (cl n).fr (cl n).F (verOf VA (cl n).V VC))).toList) (hv:VerOk w (cl n) VA VC X):ClusIn w (cs++new) cl (n+1) X:=fun j hj=>by
 by_cases e:j=n
 ·
  subst e
  rw [chunk_last hl (by rw [hn,Array.length_toList,row_size])]
  exact⟨VA,VC,hn,hv⟩
 ·
  rw [chunk_snoc hl j (by omega)]
  exact h j (by omega)
def RepIn (w:World) (os:List Value) (rp:Nat→List Value×Nat) (n:Nat) (X:Nat→Prop):Prop:=∀j,j<n→∃RA RC,os[j]?=some (.slice RA (rp j).2 RC)∧(RA=none→RC=0)∧(rp j).2≤RC∧Rd w w.heap.size 14 RA (rp j).2 (rp j).1∧(0<(rp j).2→∀a,RA=some a→¬X a.block)
theorem RepIn.grown {w w':World} {os:List Value} {rp:Nat→List Value×Nat} {n:Nat} {X:Nat→Prop} (h:RepIn w os rp n X) {row:Option Nat} (hg:w.grownBy w' row) (hr:∀g,row=some g→X g):RepIn w' os rp n X:=fun j hj=>by
 obtain⟨RA,RC,h1,h2,h3,h4,h5⟩:=h j hj
 exact⟨RA,RC,h1,h2,h3,rd_kept h4 hg.size (fun hn a e=>hg.block a.block (rd_lt h4 hn e) (fun e2=>h5 hn a e (hr _ e2.symm))),h5⟩
theorem RepIn.below {w w':World} {os:List Value} {rp:Nat→List Value×Nat} {n:Nat} {X:Nat→Prop} (h:RepIn w os rp n X) (hb:Below w.heap.size w w'):RepIn w' os rp n X:=fun j hj=>by
 obtain⟨RA,RC,h1,h2,h3,h4,h5⟩:=h j hj
 exact⟨RA,RC,h1,h2,h3,(h4.below hb).more hb.size,h5⟩
theorem RepIn.wider {w:World} {os:List Value} {rp:Nat→List Value×Nat} {n:Nat} {X Y:Nat→Prop} (h:RepIn w os rp n X) (hY:∀b,b<w.heap.size→Y b→X b):RepIn w os rp n Y:=fun j hj=>by
 obtain⟨RA,RC,h1,h2,h3,h4,h5⟩:=h j hj
 exact⟨RA,RC,h1,h2,h3,h4,fun hn a e hy=>h5 hn a e (hY _ (rd_lt h4 hn e) hy)⟩
theorem RepIn.snoc {w:World} {os:List Value} {rp:Nat→List Value×Nat} {n:Nat} {X:Nat→Prop} (h:RepIn w os rp n X) (hl:os.length=n) {RA:Option Addr} {RC:Nat} (h2:RA=none→RC=0) (h3:(rp n).2≤RC) (h4:Rd w w.heap.size 14 RA (rp n).2 (rp n).1) (h5:0<(rp n).2→∀a,RA=some a→¬X a.block):RepIn w (os++[.slice RA (rp n).2 RC]) rp (n+1) X:=fun j hj=>by
 by_cases e:j=n
 ·
  subst e
  exact⟨RA,RC,by rw [←hl,List.getElem?_append_right (Nat.le_refl _),Nat.sub_self];rfl,h2,h3,h4,h5⟩
 ·
  obtain⟨RA2,RC2,g1,g2⟩:=h j (by omega)
  exact⟨RA2,RC2,by rw [List.getElem?_append_left (by omega)];exact g1,g2⟩
theorem own_ne_blk {w:World} {base:Nat} {e t:TypeId} {size n g:Nat} {v:Value} {xs:List Value} {cs:Array Value} (h:w.ownsRow base e size v n xs) (hb:Blk w g t cs) (he:e≠t):v.ownBlock≠some g:=fun e2=>by
 obtain⟨cur,t',g1,g2⟩:=Ms.own_is h he g e2
 unfold Blk at hb
 rw [hb]at g1
 injection g1 with g1
 injection g1 with _ g1 _
 exact g2 g1.symm
def WZ (X:Nat→Prop) (o:Option Nat) (b:Nat):Prop:=X b∨o=some b
theorem wz_wider {X:Nat→Prop} {o o0:Option Nat} {N:Nat} (h:o=o0∨o=some N) (hX:∀b,o0=some b→X b):∀b,b<N→WZ X o b→X b:=fun b hb hz=>by
 rcases hz with hz|hz
 · exact hz
 ·
  rcases h with h|h
  · exact hX b (h.symm.trans hz)
  · rw [h]at hz;injection hz with hz;omega
structure BeAt (wr wx:World) (c':CluS) (gd:Nat) (VA2:Nat→Option Addr) (VC2:Nat→Nat) (RA:Option Addr) (RC n:Nat) (xs:List Value):Prop where
 d:Blk wx gd 42 (row 297 (cluCell c'.fr c'.F (verOf VA2 c'.V VC2)))
 v:∀j,j<4→(VA2 j=none→VC2 j=0)∧(c'.V j).length≤VC2 j∧Rd wx wx.heap.size 1 (VA2 j) (c'.V j).length (boolsV (c'.V j))∧(0<(c'.V j).length→∀a,VA2 j=some a→wr.heap.size≤a.block)
 r:wx.ownsRow wr.heap.size 56 14 (.slice RA n RC) n xs
 b:Below wr.heap.size wr wx
 g:wr.heap.size≤gd
end Cf
namespace Cf
open Go.RowKit Mem Rws Nd Cl
theorem alike_begin (t0 t1 t2 t3 bad:Int):Alike (beginS t0 t1 t2 t3) bad:=by
 refine⟨fun p q _ _ _ _ j h1 h2=>?_,fun p q _ hq _ _=>?_,fun p _ _=>?_⟩
 ·
  show nodeK (p:Int) t0 t1 t2 t3 3 j=nodeK (q:Int) t0 t1 t2 t3 3 j
  unfold nodeK nodeU
  by_cases a:6≤j∧j<27
  · rw [if_pos a,if_pos a]
  ·
   rw [if_neg a,if_neg a]
   by_cases b:27≤j∧j<39
   · rw [if_pos b,if_pos b]
   · rw [if_neg b,if_neg b,if_neg (show ¬j=0 by omega),if_neg (show ¬j=0 by omega)]
 ·
  obtain rfl|rfl|rfl|rfl:q=0∨q=1∨q=2∨q=3:=by omega
  all_goals exact⟨rfl,rfl⟩
 · rfl
def aliveIn:InS:=⟨fun i=>if i%3=0 then 4294967296 else 0,-1,[]⟩
def aliveB:CluS:=beginS 4294967296 0 4294967296 429496729600
theorem alive_wf:Wf 4294967296∧Wf 0∧Wf 4294967296∧Wf 429496729600:=⟨wf_of (by omega),wf_zero,wf_of (by omega),wf_of (by omega)⟩
theorem alive_rd:∀i,i<12→Wf (aliveIn.rd i):=fun i _=>by
 show Wf (if i%3=0 then 4294967296 else 0)
 split
 · exact wf_of (by omega)
 · exact wf_zero
theorem alive_used {p:Nat} (hp:p<4):usedZ (F2 aliveB aliveIn p) (A3 aliveB aliveIn p) 0=4294967296:=by
 have h:=used_within (c:=aliveB) (x:=aliveIn) (sane_begin alive_wf) alive_rd (alike_begin _ _ _ _ _) hp (by show(p:Int)≠ -1;omega) (a:=0) (by omega) (lo:=4294967296) (hi:=4294967296) (fun s hs hb=>by
  show(4294967296:Int)≤(if(s*3+0)%3=0 then 4294967296 else 0)∧(if(s*3+0)%3=0 then(4294967296:Int)else 0)≤4294967296
  rw [if_pos (by omega)]
  omega)
 omega
theorem alive_place {p:Nat} (hp:p<4):0<(newSt (F2 aliveB aliveIn p) (A3 aliveB aliveIn p) 0).X:=by
 have hb:(p:Int)≠aliveIn.bad:=by show(p:Int)≠ -1;omega
 unfold newSt
 rw [alive_used hp]
 have hst:stOf (F2 aliveB aliveIn p) 0=⟨0,0,4294967296,0,4294967296,false,0⟩:=by
  rw [stOf_congr (g:=aliveB.F p) (fun j h1 h2=>F2_keeps hp hb j (by omega) (by omega)) 0 (by omega)]
  rfl
 have ht:∀j,2≤j→j<6→F2 aliveB aliveIn p j=aliveB.F p j:=fun j h1 h2=>F2_keeps hp hb j (by omega) (by omega)
 rw [hst,ht 2 (by omega) (by omega),ht 3 (by omega) (by omega),ht 4 (by omega) (by omega),ht 5 (by omega) (by omega)]
 show 0<(BigW.fstep ⟨0,0,4294967296,0,4294967296,false,0⟩ 4294967296 0 4294967296 429496729600 4294967296).1.X
 decide+kernel
theorem alive_cells {p:Nat} (hp:p<4):G6 aliveB aliveIn p 72=.bool true∧G6 aliveB aliveIn p 67=.int .i64 4294967296∧∃z,0<z∧G6 aliveB aliveIn p 6=.int .i64 z:=by
 have hs:Sane aliveB:=sane_begin alive_wf
 have hb:(p:Int)≠aliveIn.bad:=by show(p:Int)≠ -1;omega
 have hf:=facts hs alive_rd (alike_begin _ _ _ _ _) hp hb
 have e:G6 aliveB aliveIn p=F6 aliveB aliveIn p:=by unfold F6;rw [newK_good hp hb]
 rw [e]
 refine⟨(F6_high hp hb hf).2.2,?_,_,alive_place hp,?_⟩
 · rw [F6_low hp hb hf 67 (by omega),decG_us _ _ _ _ _ (by omega) 0 (by omega) (by omega),alive_used hp]
 ·
  rw [F6_low hp hb hf 6 (by omega)]
  unfold decG
  rw [if_pos (by omega)]
  rfl
end Cf
namespace Cf
open Go.ChangeShapes Go.WideShapes Go.ChangeAt Go.RowKit Mem Rws Nd Cl
theorem reps_get (g:Nat→Nat→Value):∀(gs:List Nat) (k j:Nat),k<gs.length→j<14→(gs.flatMap fun i=>(row 14 (repF (g i))).toList)[k*14+j]?=some (repF (g (gs.getD k 0)) j)
 |[],k,j,hk,_=>by simp at hk
 |a::gs,0,j,_,hj=>by
  rw [List.flatMap_cons,Nat.zero_mul,Nat.zero_add,List.getElem?_append_left (by rw [Array.length_toList,row_size];exact hj),row_toList,List.getElem?_map,List.getElem?_range hj]
  rfl
 |a::gs,k+1,j,hk,hj=>by
  rw [List.flatMap_cons,List.getElem?_append_right (by rw [Array.length_toList,row_size];omega),Array.length_toList,row_size,show(k+1)*14+j-14=k*14+j by omega,reps_get g gs k j (by simpa using hk) hj]
  rfl
theorem alive_sane:Sane aliveB:=sane_begin alive_wf
theorem alive_goods:goods aliveIn.bad 4=[0,1,2,3]:=by decide
set_option maxRecDepth 100000 in
set_option maxHeartbeats 4000000 in
theorem alive_any (w:World):Calls Tryz.prog 9 #[] w fun e w'=>e=.returned (.bool true)∧Below w.heap.size w w':=by
 go_enter Tryz.func9,Tryz.ntmps9
 go_wp2_with fail
 refine(cluster_any 4294967296 0 4294967296 429496729600 w).mono ?_
 rintro e w2 ⟨rfl,hb⟩
 rw [begin_row]
 have HB:=Lib.hid hb
 clear hb
 obtain⟨R0,hR0⟩:∃R,row 297 (cluCell (beginS 4294967296 0 4294967296 429496729600).fr (beginS 4294967296 0 4294967296 429496729600).F (verOf (fun _=>none) (beginS 4294967296 0 4294967296 429496729600).V (fun _=>0)))=R:=⟨_,rfl⟩
 rw [hR0]
 have HR0:=Lib.hid hR0
 clear hR0
 go_wp2_with fail
 rw [←HR0.out,show((#[.int .i64 4294967296,.int .i64 0,.int .i64 0,.int .i64 4294967296,.int .i64 0,.int .i64 0,.int .i64 4294967296,.int .i64 0,.int .i64 0,.int .i64 4294967296,.int .i64 0,.int .i64 0,.int .i64 (-1),.slice none 0 0]):Array Value)=row 14 (inCell aliveIn.rd aliveIn.bad (.slice none aliveIn.ls.length 0))from rfl]
 refine(frame_any aliveB aliveIn alive_sane (by show(-1:Int)≤ -1∧(-1:Int)≤3;omega) alive_rd (by show([]:List Lie).length≤400;simp) (fun _=>none) (fun _=>0) none 0 w2 (fun j hj=>⟨fun _=>rfl,by show(([]:List Bool)).length≤0;simp,Rd.nil _ _ _ _⟩) (LiesAt.nil _ _ _)).mono ?_
 rintro e w3 ⟨VA2,VC2,RA,RC,rfl,hv2,hown,hb⟩
 rw [HR0.out]
 have iN:(Tryz.prog.info? 42).map (·.size)=some (row 297 (cluCell (next aliveB aliveIn).fr (next aliveB aliveIn).F (verOf VA2 (next aliveB aliveIn).V VC2))).size:=by rw [row_size];kernel_rfl
 have zN:(Tryz.zeroCells42).size=(row 297 (cluCell (next aliveB aliveIn).fr (next aliveB aliveIn).F (verOf VA2 (next aliveB aliveIn).V VC2))).size:=by rw [row_size];kernel_rfl
 have oN:=row_one (cluCell_one (sane_next alive_sane alive_rd (by show(0:Int)+1<_;omega)).ok (next aliveB aliveIn).fr (next aliveB aliveIn).V VA2 VC2)
 have c0:(row 297 (cluCell (next aliveB aliveIn).fr (next aliveB aliveIn).F (verOf VA2 (next aliveB aliveIn).V VC2)))[0]?=some (.int .i64 1):=by rw [row_at (by omega)];rfl
 obtain⟨RN,hRN⟩:∃R,(row 297 (cluCell (next aliveB aliveIn).fr (next aliveB aliveIn).F (verOf VA2 (next aliveB aliveIn).V VC2)))=R:=⟨_,rfl⟩
 rw [hRN]at iN zN oN c0 ⊢
 clear hRN
 have HOW:=Lib.hid hown
 have HB:=Lib.hid (HB.out.trans (hb.mono HB.out.size))
 clear hb hown hv2
 have F1:Hid (Blk (w3.alloc (.cells Tryz.zeroCells42 42)) w3.heap.size 42 Tryz.zeroCells42):=Lib.hid (Blk.fresh _ _ _)
 go_upto_region 2 with(refine wpList_store_row rfl 42 _ _ rfl w3.heap.size RN rfl rfl 42 _ F1.out iN zN oN ?_)
 have hbn:=below_setRow ((Below.refl w3.heap.size w3).alloc (Nat.le_refl _) (.cells Tryz.zeroCells42 42)) (Nat.le_refl _) RN
 have HOW:=Lib.hid (ownsRow_below HOW.out hbn)
 have HB:=Lib.hid (HB.out.trans (hbn.mono HB.out.size))
 have y0:=(F1.out.setRow RN).cell 0
 rw [c0]at y0
 clear F1 hbn iN zN oN c0
 generalize((w3.alloc (.cells Tryz.zeroCells42 42)).setRow w3.heap.size RN)=w4 at*
 obtain⟨g1,hg1⟩:∃g,w3.heap.size=g:=⟨_,rfl⟩
 rw [hg1]at y0 ⊢
 clear hg1
 have hlen:(goods aliveIn.bad 4).length=4:=by rw [alive_goods];rfl
 rw [hlen]at HOW ⊢
 obtain⟨br,orr,rfl,_,hrc⟩:=(Rd.of_own HOW.out).2 (by omega)
 have hrep:∀k j v,k<4→j<14→repF (G6 aliveB aliveIn k) j=v→ w4.cell? ⟨br,orr+(k*14+j),none⟩=some v:=fun k j v hk hj e=>by
  refine hrc _ _ ?_
  have:=reps_get (G6 aliveB aliveIn) (goods aliveIn.bad 4) k j (by rw [hlen];exact hk) hj
  rw [show(goods aliveIn.bad 4).getD k 0=k from by
                            rw [alive_goods];obtain rfl|rfl|rfl|rfl:k=0∨k=1∨k=2∨k=3:=by omega
                            all_goals rfl,e]at this
  exact this
 obtain⟨s3,_,_⟩:=alive_cells (p:=3) (by omega)
 obtain⟨_,u2,_⟩:=alive_cells (p:=2) (by omega)
 obtain⟨_,_,z,hz,p1⟩:=alive_cells (p:=1) (by omega)
 have x3:=hrep 3 9 _ (by omega) (by omega) s3
 have x2:=hrep 2 2 _ (by omega) (by omega) u2
 have x1:=hrep 1 5 _ (by omega) (by omega) p1
 have hzd:decide (0<z)=true:=decide_eq_true hz
 clear hrep hrc s3 u2 p1 hz
 go_wp2_with fail
 go_ret
 exact⟨rfl,HB.out⟩
end Cf
namespace Tx
open Go.RowKit Mem Sm
def ch (ds:List Nat):List Nat:=ds.map (· +48)
theorem ch_append (a b:List Nat):ch (a++b)=ch a++ch b:=by simp [ch]
theorem ch_length (a:List Nat):(ch a).length=a.length:=by simp [ch]
def OwnB (base:Nat) (wr:World) (v:Value) (bs:List Nat):Prop:=∃A c,v=.slice A bs.length c∧wr.ownsRow base 5 1 (.slice A bs.length c) bs.length (bytesV bs)
theorem ownB_below {base:Nat} {w w':World} {v:Value} {bs:List Nat} (h:OwnB base w v bs) (hb:Below w.heap.size w w'):OwnB base w' v bs:=by
 obtain⟨A,c,e,h⟩:=h
 exact⟨A,c,e,ownsRow_below h hb⟩
end Tx
namespace Tx
open Go.RowKit Mem Sm
theorem strB_data (l:List Nat):(strB l).data.toList=l.map fun x=>UInt8.ofNat x:=by
 unfold strB
 rw [strOfNums_data,List.map_map]
 exact List.map_congr_left fun x _=>rfl
theorem strB_eq {s:ByteArray} {l:List Nat} (h:s.data.toList=l.map fun x=>UInt8.ofNat x):s=strB l:=by
 apply ByteArray.ext
 apply Array.ext'
 rw [strB_data,h]
theorem strB_size (l:List Nat):(strB l).size=l.length:=by
 have h:=congrArg List.length (strB_data l)
 rw [List.length_map]at h
 exact h
theorem strB_append (a b:List Nat):strB a++strB b=strB (a++b):=by
 apply strB_eq
 rw [ByteArray.data_append,Array.toList_append,strB_data,strB_data,List.map_append]
theorem strB_extract (l:List Nat) (i j:Nat):(strB l).extract i j=strB ((l.drop i).take (j-i)):=by
 apply strB_eq
 rw [List.map_take,List.map_drop,←strB_data]
 have h:=ByteArray.extract_mk (strB l).data.toList i j
 have e:ByteArray.mk (strB l).data.toList.toArray=strB l:=by
  apply ByteArray.ext;simp
 rw [e]at h
 rw [h]
theorem strB_get (l:List Nat) (k:Nat) (h:k<(strB l).size) (hl:∀x∈l,x<256):(((strB l)[k]'h).toNat)=l.getD k 0:=by
 have hk:k<l.length:=by rwa [strB_size]at h
 have e:(strB l)[k]'h=(strB l).data.toList[k]'(by exact h):=rfl
 rw [e]
 have e2:(strB l).data.toList[k]?=some (UInt8.ofNat l[k]):=by rw [strB_data,List.getElem?_map,List.getElem?_eq_getElem hk];rfl
 have h3:=List.getElem?_eq_getElem (l:=(strB l).data.toList) (i:=k) (by exact h)
 rw [h3]at e2
 injection e2 with e2
 rw [e2,List.getD_eq_getElem?_getD,List.getElem?_eq_getElem hk]
 have:=hl l[k] (List.getElem_mem hk)
 show(UInt8.ofNat l[k]).toNat=l[k]
 rw [UInt8.toNat_ofNat']
 omega
theorem strB_one (x:Nat):(⟨#[UInt8.ofNat x]⟩:ByteArray)=strB [x]:=strB_eq rfl
end Tx
namespace ReadLaw
def dg (c:Nat):Bool:=decide (48≤c∧c≤57)
def digitsOf (l:List Nat):Bool:=decide (l≠[])&&l.all dg
def num (l:List Nat):Nat:=l.foldl (fun n c=>n*10+(c-48)) 0
def numD (l:List Nat):Nat:=l.foldl (fun n c=>n*10+c) 0
theorem foldl_num (f:Nat→Nat):∀(l:List Nat) (n:Nat),l.foldl (fun n c=>n*10+f c) n=n*10 ^ l.length+l.foldl (fun n c=>n*10+f c) 0
 |[],n=>by simp
 |c::l,n=>by
  rw [List.foldl_cons,List.foldl_cons,foldl_num f l,foldl_num f l (0*10+f c),List.length_cons,Nat.pow_succ]
  rw [Nat.add_mul,Nat.zero_mul,Nat.zero_add,Nat.mul_assoc,Nat.mul_comm 10,Nat.add_assoc]
theorem num_append (a b:List Nat):num (a++b)=num a*10 ^ b.length+num b:=by
 unfold num;rw [List.foldl_append,foldl_num]
theorem num_snoc (a:List Nat) (c:Nat):num (a++[c])=num a*10+(c-48):=by
 unfold num;rw [List.foldl_append];rfl
theorem numD_cons (c:Nat) (l:List Nat):numD (c::l)=c*10 ^ l.length+numD l:=by
 unfold numD;rw [List.foldl_cons,foldl_num (fun x=>x)];simp
theorem num_map (l:List Nat):numD (l.map (· -48))=num l:=by
 unfold numD num;rw [List.foldl_map]
theorem numD_lt:∀(l:List Nat),(∀c∈l,c<10)→numD l<10 ^ l.length
 |[],_=>by decide
 |c::l,h=>by
  have h1:=numD_lt l (fun x hx=>h x (List.mem_cons_of_mem _ hx))
  have h2:=h c List.mem_cons_self
  rw [numD_cons,List.length_cons,Nat.pow_succ]
  have h3:c*10 ^ l.length≤9*10 ^ l.length:=Nat.mul_le_mul_right _ (by omega)
  omega
theorem dg_sub {l:List Nat} (h:l.all dg=true):∀c∈l.map (· -48),c<10:=fun c hc=>by
 obtain⟨x,hx,rfl⟩:=List.mem_map.1 hc
 have:=(List.all_eq_true.1 h) x hx
 have:=of_decide_eq_true this
 omega
theorem num_lt {l:List Nat} (h:l.all dg=true):num l<10 ^ l.length:=by
 have:=numD_lt _ (dg_sub h)
 rwa [num_map,List.length_map]at this
theorem num_ge {c:Nat} {l:List Nat} (h:(c::l).all dg=true) (hc:c≠48):10 ^ l.length≤num (c::l):=by
 have h1:dg c=true:=by
  rw [List.all_cons,Bool.and_eq_true]at h;exact h.1
 have h2:=of_decide_eq_true h1
 have e:=num_append [c] l
 rw [List.singleton_append]at e
 rw [e,show num [c]=c-48 by simp [num]]
 have:10 ^ l.length≤(c-48)*10 ^ l.length:=Nat.le_mul_of_pos_left _ (by omega)
 omega
def cutOf (t:List Nat):List Nat×List Nat×Bool:=
 if t.takeWhile (· !=46)=t then(t,[],digitsOf t)
  else(t.takeWhile (· !=46),t.drop ((t.takeWhile (· !=46)).length+1),digitsOf (t.takeWhile (· !=46))&&digitsOf (t.drop ((t.takeWhile (· !=46)).length+1)))
theorem take_none {t:List Nat} (h:∀c∈t,c≠46):t.takeWhile (· !=46)=t:=by
 induction t with
 |nil=>rfl
 |cons c t ih=>
  rw [List.takeWhile_cons,if_pos (by simp;exact h c List.mem_cons_self),ih (fun x hx=>h x (List.mem_cons_of_mem _ hx))]
theorem take_some {a b:List Nat} (h:∀c∈a,c≠46):(a++46::b).takeWhile (· !=46)=a:=by
 induction a with
 |nil=>rfl
 |cons c t ih=>
  rw [List.cons_append,List.takeWhile_cons,if_pos (by simp;exact h c List.mem_cons_self),ih (fun x hx=>h x (List.mem_cons_of_mem _ hx))]
theorem cut_none {t:List Nat} (h:∀c∈t,c≠46):cutOf t=(t,[],digitsOf t):=by
 unfold cutOf;rw [if_pos (take_none h)]
theorem cut_some {a b:List Nat} (h:∀c∈a,c≠46):cutOf (a++46::b)=(a,b,digitsOf a&&digitsOf b):=by
 have e:(a++46::b).drop (a.length+1)=b:=by
  rw [←List.drop_drop,List.drop_left];rfl
 unfold cutOf
 rw [take_some h,if_neg (fun e=>by have:=congrArg List.length e;simp at this),e]
def in64 (X:Int):Bool:=decide (-9223372036854775808≤X∧X≤9223372036854775807)
def valOf (neg:Bool) (N k:Nat):Int×Int:=
 let r:=((if neg then-(N:Int)else(N:Int))*8589934592+((10 ^ k:Nat):Int))/((10 ^ k*2:Nat):Int)
 if in64 r then(r,0)else(0,3)
def bodyOf (neg:Bool) (t:List Nat):Int×Int:=
 let p:=cutOf t
 if p.2.2=false∨(1<p.1.length∧p.1.getD 0 0=48)then(0,2)else valOf neg (num (p.1++p.2.1)) p.2.1.length
def negOf (s:List Nat):Bool:=decide (s.getD 0 0=45)
def readOf (s:List Nat):Int×Int:=
 if 60<s.length then(0,1)else bodyOf (negOf s) (if negOf s then s.drop 1 else s)
def twd:List Nat→List Nat×Nat
 |[]=>([],0)
 |x::xs=>((2*x+(twd xs).2)%10::(twd xs).1,(2*x+(twd xs).2)/10)
theorem twd_length:∀l,(twd l).1.length=l.length
 |[]=>rfl
 |x::xs=>by show(twd xs).1.length+1=_;rw [twd_length xs];rfl
theorem twd_small:∀l,∀c∈(twd l).1,c<10
 |[],_,h=>by cases h
 |x::xs,c,h=>by
  rcases List.mem_cons.1 h with h|h
  · omega
  · exact twd_small xs c h
theorem twd_carry:∀l,(∀c∈l,c<10)→(twd l).2≤1
 |[],_=>Nat.zero_le _
 |x::xs,h=>by
  have:=twd_carry xs (fun c hc=>h c (List.mem_cons_of_mem _ hc))
  have:=h x List.mem_cons_self
  show(2*x+(twd xs).2)/10≤1
  omega
theorem twd_law:∀l,numD (twd l).1+(twd l).2*10 ^ l.length=2*numD l
 |[]=>rfl
 |x::xs=>by
  have ih:=twd_law xs
  show numD ((2*x+(twd xs).2)%10::(twd xs).1)+(2*x+(twd xs).2)/10*10 ^ (xs.length+1)=_
  rw [numD_cons,numD_cons,twd_length,Nat.pow_succ]
  generalize(twd xs).2=c at ih ⊢
  generalize numD (twd xs).1=a at ih ⊢
  generalize numD xs=b at ih ⊢
  generalize 10 ^ xs.length=p at ih ⊢
  have h1:(2*x+c)%10*p+(2*x+c)/10*(p*10)=(2*x+c)*p:=by
   have:=Nat.div_add_mod (2*x+c) 10
   generalize(2*x+c)/10=q at this ⊢
   generalize(2*x+c)%10=r at this ⊢
   rw [←this,Nat.add_mul,Nat.mul_comm p 10,←Nat.mul_assoc,Nat.mul_comm q 10,Nat.add_comm]
  have h2:(2*x+c)*p=2*(x*p)+c*p:=by rw [Nat.add_mul,Nat.mul_assoc]
  omega
structure FrAt (B P j u r:Nat):Prop where
 eq:B*2 ^ j=u*P+r
 lt:r<P
theorem FrAt.zero {B P:Nat} (h:B<P):FrAt B P 0 0 B:=⟨by simp,h⟩
theorem FrAt.step {B P j u r c r':Nat} (h:FrAt B P j u r) (hc:r'+c*P=2*r) (hr:r'<P):FrAt B P (j+1) (2*u+c) r':=by
 refine⟨?_,hr⟩
 rw [Nat.pow_succ,←Nat.mul_assoc,h.eq,Nat.add_mul,Nat.add_mul,Nat.mul_comm (u*P) 2,←Nat.mul_assoc,Nat.mul_comm r 2]
 omega
theorem FrAt.lt_pow {B P j u r:Nat} (h:FrAt B P j u r) (hB:B<P):u<2 ^ j:=by
 have h1:=h.eq
 have h2:B*2 ^ j<P*2 ^ j:=Nat.mul_lt_mul_of_pos_right hB (Nat.two_pow_pos j)
 rcases Nat.lt_or_ge u (2 ^ j)with h3|h3
 · exact h3
 ·
  have h4:2 ^ j*P≤u*P:=Nat.mul_le_mul_right _ h3
  rw [Nat.mul_comm]at h4
  omega
def half (P r:Nat):Int:=if 2*r<P then-1 else if 2*r=P then 0 else 1
theorem div_of {X D Q:Int} (hD:0<D) (h1:Q*D≤X) (h2:X<(Q+1)*D):X/D=Q:=by
 apply Int.le_antisymm
 · exact Int.lt_add_one_iff.1 (Int.ediv_lt_of_lt_mul hD h2)
 · exact Int.le_ediv_of_mul_le hD h1
theorem twice_ (u P:Int):u*(P*2)=2*(u*P):=by rw [←Int.mul_assoc,Int.mul_comm]
theorem near_pos {N P u r:Int} (hP:0<P) (h:N*4294967296=u*P+r) (h0:0≤r) (h1:r<P):(N*8589934592+P)/(P*2)=if 2*r<P then u else u+1:=by
 have e:N*8589934592=2*(u*P)+2*r:=by omega
 rw [e]
 by_cases hr:2*r<P
 ·
  rw [if_pos hr]
  exact div_of (by omega) (by rw [twice_];omega) (by rw [Int.add_mul,twice_];omega)
 ·
  rw [if_neg hr]
  exact div_of (by omega) (by rw [Int.add_mul,twice_];omega) (by rw [Int.add_mul,Int.add_mul,twice_];omega)
theorem near_neg {N P u r:Int} (hP:0<P) (h:N*4294967296=u*P+r) (h0:0≤r) (h1:r<P):((-N)*8589934592+P)/(P*2)=if 2*r≤P then-u else-(u+1):=by
 have e:(-N)*8589934592= -(2*(u*P))-2*r:=by omega
 rw [e]
 by_cases hr:2*r≤P
 ·
  rw [if_pos hr]
  exact div_of (by omega) (by rw [Int.neg_mul,twice_];omega) (by rw [Int.add_mul,Int.neg_mul,twice_];omega)
 ·
  rw [if_neg hr]
  exact div_of (by omega) (by rw [Int.neg_mul,Int.add_mul,twice_];omega) (by rw [Int.add_mul,Int.neg_mul,Int.add_mul,twice_];omega)
def progOf (neg:Bool) (W p:Nat) (c:Int):Int×Int:=
 let q:=if c=1∨(c=0∧neg=false)then p+1 else p
 let u:=W*4294967296+q
 if 2147483648<W∨(neg=false∧9223372036854775807<u)∨9223372036854775808<u then(0,3)else(if neg then-(u:Int)else(u:Int),0)
theorem prog_val (neg:Bool) (W B k p r:Nat) (h:FrAt B (10 ^ k) 32 p r):progOf neg W p (half (10 ^ k) r)=valOf neg (W*10 ^ k+B) k:=by
 have hP0:0<10 ^ k:=Nat.pow_pos (by omega)
 obtain⟨he,hlt⟩:=h
 have hpB:p*10 ^ k≤B*2 ^ 32:=by omega
 unfold progOf valOf
 generalize 10 ^ k=P at*
 rw [show(2:Nat) ^ 32=4294967296 from rfl]at he
 have hI:(((W*P+B:Nat)):Int)*4294967296=((W*4294967296+p:Nat):Int)*(P:Int)+(r:Int):=by
  have e1:(W*P+B)*4294967296=(W*4294967296+p)*P+r:=by
   rw [Nat.add_mul,he,Nat.add_mul,Nat.mul_assoc,Nat.mul_comm P,←Nat.mul_assoc];omega
  have e2:=congrArg (fun n:Nat=>(n:Int)) e1
  simpa using e2
 have hPI:(0:Int)<(P:Int):=by omega
 have hri:(r:Int)<(P:Int):=by omega
 have e2:((P*2:Nat):Int)=(P:Int)*2:=by omega
 rw [e2]
 generalize hN:((W*P+B:Nat):Int)=N at hI
 cases neg with
 |false=>
  have h1:=near_pos hPI hI (by omega) hri
  simp only [Bool.false_eq_true,if_false,and_true,true_and]
  rw [h1]
  unfold half in64
  by_cases a:2*r<P
  ·
   have a':2*(r:Int)<(P:Int):=by omega
   simp only [if_pos a,if_pos a']
   rw [if_neg (show ¬((-1:Int)=1∨(-1:Int)=0)by decide)]
   by_cases g:2147483648<W∨9223372036854775807<W*4294967296+p∨9223372036854775808<W*4294967296+p
   · rw [if_pos g,if_neg (by simp;omega)]
   · rw [if_neg g,if_pos (by simp;omega)]
  ·
   have a':¬2*(r:Int)<(P:Int):=by omega
   simp only [if_neg a,if_neg a']
   have hc:(if 2*r=P then(0:Int)else 1)=1∨(if 2*r=P then(0:Int)else 1)=0:=by split<;>simp
   rw [if_pos hc]
   by_cases g:2147483648<W∨9223372036854775807<W*4294967296+(p+1)∨9223372036854775808<W*4294967296+(p+1)
   · rw [if_pos g,if_neg (by simp;omega)]
   ·
    rw [if_neg g,if_pos (by simp;omega)]
    refine Prod.ext ?_ rfl
    show((W*4294967296+(p+1):Nat):Int)=((W*4294967296+p:Nat):Int)+1
    omega
 |true=>
  have h1:=near_neg hPI hI (by omega) hri
  simp only [if_true,Bool.true_eq_false,false_and,and_false,false_or,or_false]
  rw [h1]
  unfold half in64
  by_cases a:2*r≤P
  ·
   have a':2*(r:Int)≤(P:Int):=by omega
   rw [if_pos a']
   have hc:¬(if 2*r<P then(-1:Int)else if 2*r=P then 0 else 1)=1:=by
    split
    · decide
    · rw [if_pos (by omega)];decide
   rw [if_neg hc]
   by_cases g:2147483648<W∨9223372036854775808<W*4294967296+p
   · rw [if_pos g,if_neg (by simp;omega)]
   · rw [if_neg g,if_pos (by simp;omega)]
  ·
   have a':¬2*(r:Int)≤(P:Int):=by omega
   rw [if_neg a']
   have hc:(if 2*r<P then(-1:Int)else if 2*r=P then 0 else 1)=1:=by
    rw [if_neg (by omega),if_neg (by omega)]
   rw [if_pos hc]
   by_cases g:2147483648<W∨9223372036854775808<W*4294967296+(p+1)
   · rw [if_pos g,if_neg (by simp;omega)]
   ·
    rw [if_neg g,if_pos (by simp;omega)]
    refine Prod.ext ?_ rfl
    show-((W*4294967296+(p+1):Nat):Int)= -(((W*4294967296+p:Nat):Int)+1)
    omega
end ReadLaw
end Go.Proofs.YtljpoibnkkcjdaaGreatDoor
