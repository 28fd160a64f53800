import Derived.Test.YtljpoibnkkcjdaaGreatDoorPc16
import Derived.Test.YtljpoibnkkcjdaaGreatDoorPc19
import Derived.Test.YtljpoibnkkcjdaaGreatDoorPc20
set_option linter.unusedVariables false
set_option linter.unusedSimpArgs false
namespace Go.Proofs.YtljpoibnkkcjdaaGreatDoor
namespace Cf
open Go.ChangeShapes Go.WideShapes Go.ChangeAt Go.RowKit Mem Rws Nd Cl
theorem enter_of {P:Program} {f:FuncId} {fn:Func} {cd:Code} (hf:P.funcs[f]?=some fn) (hname:(fn.name== "runtime.NumGoroutine")=false) (hb:fn.body=some cd) (args:Array Value) (w:World):(callFunc f args).run P w=.ok (.enter f args) w:=by
 have h1:fn.name≠ "runtime.NumGoroutine" :=by simpa using hname
 simp [callFunc,hf,h1,hb]
theorem old_trans {w w1 w2:World} {R:Nat} (h:Old w w1 R) (k:Old w1 w2 R):Old w w2 R:=⟨Nat.le_trans h.1 k.1,fun b hb hR=>(k.2 b (Nat.lt_of_lt_of_le hb h.1) hR).trans (h.2 b hb hR)⟩
theorem old_blk {w w1:World} {R b:Nat} {t:TypeId} {cs:Array Value} (h:Old w w1 R) (hb:Blk w b t cs) (hR:b≠R):Blk w1 b t cs:=(h.2 b hb.lt hR).trans hb
theorem old_lies {w w1:World} {R B:Nat} {A:Option Addr} {ls:List Lie} (h:Old w w1 R) (hl:LiesAt w B A ls) (hB:B≤w.heap.size) (hR:B≤R):LiesAt w1 B A ls:=hl.keep fun b o hb=>cell_same (h.2 b (by omega) (by omega)) o
theorem newK_same {α:Type} (bad:Int) (G:Nat→α) (n:Nat):newK bad G G n=G:=funext fun i=>by unfold newK;split<;>rfl
structure FrAt (w0 wk:World) (gR gC:Nat) (x:InS) (LA:Option Addr) (F:Nat→Nat→Value) (V:Nat→List Bool) (X:Nat→List Ms.Msg) (s:RunC):Prop where
 run:RunAt wk gR gC s
 hF:s.F=F
 hV:s.VL=V
 hX:s.bX=X
 bad:s.bad=x.bad
 la:s.LA=LA
 ll:s.LL=x.ls.length
 old:Old w0 wk gR
 os:wk.os=w0.os
 tape:wk.tape=w0.tape
 output:wk.output=w0.output
 va:∀j,j<4→∀a,s.VA j=some a→gR<a.block
theorem FrAt.go {w0 wk:World} {gR gC:Nat} {x:InS} {LA:Option Addr} {F:Nat→Nat→Value} {V:Nat→List Bool} {X:Nat→List Ms.Msg} {s:RunC} (h:FrAt w0 wk gR gC x LA F V X s) (hls:LiesAt w0 gC LA x.ls) (hC:gC≤w0.heap.size) (hCR:gC≤gR) (hn:x.ls.length≤400)
  (ph:Int) (g:Nat) (lb:Array Value) (eg:∀args w,(callFunc g args).run Tryz.prog w=.ok (.enter g args) w) (G:Nat→Nat→Value) (V':Nat→List Bool) (k fr:Int) (mz:Nat→List Int) (hV:∀i,i<4→(V' i).length≤140737488351232) (hz:∀i,i<4→(mz i).length*8≤140737488351232) (hG:∀i,i<4→∀j,j<73→okT (nodeT j) (G i j))
  (hf:∀i:Nat,i<4→(i:Int)≠x.bad→∀(W:World) (A:Option Addr) (c:Nat) (AI:Option Addr) (ci:Nat),Old w0 W gR→(A=none→c=0)→(V i).length≤c→(V i).length≤140737488351232→Rd W W.heap.size 1 A (V i).length (boolsV (V i))→Ms.MsgsAt W W.heap.size AI (X i)→
   Calls Tryz.prog g (#[.agg (row 74 (nodeW (F i) (.slice A (V i).length c))),.slice AI (X i).length ci]++lb) W fun e w'=>NodeMsg W w' (G i) (V' i) k (i:Int) fr (mz i) e):
  Calls Tryz.prog 13 #[.pointer (some ⟨gR,0,none⟩),.int .i64 ph,.func (.func g) #[] lb] wk fun e w'=>e=.returned (.tuple #[])∧∃s',FrAt w0 w' gR gC x LA (newK x.bad G F 4) (newK x.bad V' V 4) (phX x.bad ph x.ls (fun _=>k) nod (fun _=>fr) mz 4) s':=by
 obtain⟨h1,rfl,rfl,rfl,h5,h6,h7,h8,h9,h10,h11,h12⟩:=h
 have hlt:=h1.blk.lt
 refine(phase_any gR gC s ph g lb eg x.ls h7 hn wk h1 (by rw [h6];exact old_lies h8 hls hC hCR) G V' (fun _=>k) nod (fun _=>fr) mz hV hz hG (fun i hi hb W A c AI ci hO=>?_)).mono ?_
 · exact hf i hi (by rw [←h5];exact hb) W A c AI ci (old_trans h8 hO)
 ·
  rintro e w' ⟨rfl,hO,ho,ht,hu,s',hr,⟨e1,e2,e3,e4,e5,e6⟩,e7,e8,e9,e10⟩
  exact⟨rfl,s',hr,by rw [e7,h5],by rw [e8,h5],by rw [e9,h5],e3.trans h5,e4.trans h6,e5.trans h7,old_trans h8 hO,ho.trans h9,ht.trans h10,hu.trans h11,fun j hj a e=>by
   rcases e10 j hj with e11|e11
   · exact h12 j hj a (e11.symm.trans e)
   · have:=e11 a e;omega⟩
section
variable {w0 wk : World} {gR gC : Nat} {c : CluS} {x : InS} {LA : Option Addr} {s : RunC}
theorem phX_small (bad ph:Int) (ls:List Lie) (mk mf mn:Nat→Int) (mz:Nat→List Int) (hn:ls.length≤400) (j:Nat):(phX bad ph ls mk mf mn mz 4 j).length≤140737488355328:=by
 have:=phX_len bad ph ls mk mf mn mz hn j 4
 omega
def AllOk (F:Nat→Nat→Value):Prop:=∀i,i<4→∀j,j<73→okT (nodeT j) (F i j)
theorem AllOk.new {bad:Int} {G F:Nat→Nat→Value} (hG:AllOk G) (hF:AllOk F):AllOk (newK bad G F 4):=fun i hi=>by
 by_cases h:(i:Int)=bad
 · rw [newK_bad h];exact hF i hi
 · rw [newK_good hi h];exact hG i hi
theorem all1 (hs:Sane c):AllOk (F1 c x):=AllOk.new (fun i hi=>ok_sense (hs.ok i hi) _ _ hi _ _ _) hs.ok
theorem allG2 (h:AllOk (F1 c x)):AllOk (G2 c x):=fun i hi=>ok_relay (h i hi) _ _ (Nat.le_refl _)
theorem all2 (h:AllOk (F1 c x)):AllOk (F2 c x):=AllOk.new (allG2 h) h
theorem allG3 (h:AllOk (F2 c x)):AllOk (G3 c x):=fun i hi=>ok_decF (h i hi) _ hi _
theorem all3 (h:AllOk (F2 c x)):AllOk (F3 c x):=AllOk.new (allG3 h) h
theorem allG4 (h:AllOk (F3 c x)):AllOk (G4 c x):=fun i hi=>ok_pass (h i hi) _ _ (Nat.le_refl _)
theorem all4 (h:AllOk (F3 c x)):AllOk (F4 c x):=AllOk.new (allG4 h) h
theorem allG5 (h:AllOk (F4 c x)):AllOk (G5 c x):=fun i hi=>ok_judge (h i hi) _
theorem all5 (h:AllOk (F4 c x)):AllOk (F5 c x):=AllOk.new (allG5 h) h
theorem allG6 (h:AllOk (F5 c x)):AllOk (G6 c x):=fun i hi=>ok_close (h i hi) _
theorem ph0 {X:Nat→List Ms.Msg} (hs:Sane c) (h:FrAt w0 wk gR gC x LA c.F c.V X s) (hls:LiesAt w0 gC LA x.ls) (hC:gC+1<w0.heap.size) (hCR:gC+1<gR) (hn:x.ls.length≤400)
  (hc: w0.cell? ⟨gC,0,none⟩=some (.int .i64 c.fr)) (hi:∀k,k<4→w0.rangeAt (gC+1) (k*3) ((List.range 3).map fun j=>.int .i64 (x.rd (k*3+j)))):
  Calls Tryz.prog 13 #[.pointer (some ⟨gR,0,none⟩),.int .i64 0,.func (.func 14) #[] #[.pointer (some ⟨gC,0,none⟩),.pointer (some ⟨gC+1,0,none⟩)]] wk fun e w'=>e=.returned (.tuple #[])∧∃s',FrAt w0 w' gR gC x LA (F1 c x) c.V (X1 c x) s':=by
 have h0:=h.go hls (by omega) (by omega) hn 0 14 #[.pointer (some ⟨gC,0,none⟩),.pointer (some ⟨gC+1,0,none⟩)] (enter_of Tryz.func14 (by kernel_rfl) rfl) (G1 c x) c.V 1 c.fr (rds x) hs.v (fun i hi=>by unfold rds;simp) (fun i hi=>ok_sense (hs.ok i hi) _ _ hi _ _ _)
  (fun i hi' hb W A cc AI ci hO hA hl1 hl2 hr hm=>by
   have hsz:=hO.1
   exact closure_any (c.F i) (hs.ok i hi') i hi' (hs.id i hi') c.fr x.rd A cc (c.V i) AI _ ci gC (gC+1) W hA hl1 hl2 hr (by omega) (by omega) ((cell_same (hO.2 gC (by omega) (by omega)) 0).trans hc) (fun j v hv=>(cell_same (hO.2 (gC+1) (by omega) (by omega)) _).trans (hi i hi' j v hv)))
 rw [newK_same]at h0
 exact h0
theorem ph1 (hs:Sane c) (hg:Good x.bad c.fr (F1 c x)) (ha:AllOk (F1 c x)) (h:FrAt w0 wk gR gC x LA (F1 c x) c.V (X1 c x) s) (hls:LiesAt w0 gC LA x.ls) (hC:gC≤w0.heap.size) (hCR:gC≤gR) (hn:x.ls.length≤400):
  Calls Tryz.prog 13 #[.pointer (some ⟨gR,0,none⟩),.int .i64 1,.func (.func 16) #[] #[]] wk fun e w'=>e=.returned (.tuple #[])∧∃s',FrAt w0 w' gR gC x LA (F2 c x) c.V (X2 c x) s':=by
 have h0:=h.go hls hC hCR hn 1 16 #[] (enter_of Tryz.func16 (by kernel_rfl) rfl) (G2 c x) c.V 2 c.fr (fun i=>dvs (G2 c x i)) hs.v (fun i hi=>by unfold dvs;simp) (allG2 ha)
  (fun i hi hb W A cc AI ci hO hA hl1 hl2 hr hm=>by
   obtain⟨g1,g2,g3,g4⟩:=hg i hi hb
   exact relay_any (F1 c x i) g3 i hi g1 c.fr g2 A cc (c.V i) AI ci (X1 c x i) W.heap.size W (Nat.le_refl _) hA hl1 hl2 hr (phX_small _ _ _ _ _ _ _ hn i) hm)
 rw [newK_same]at h0
 exact h0
theorem ph2 (hs:Sane c) (hg:Good x.bad c.fr (F2 c x)) (ha:AllOk (F2 c x)) (h:FrAt w0 wk gR gC x LA (F2 c x) c.V (X2 c x) s) (hls:LiesAt w0 gC LA x.ls) (hC:gC≤w0.heap.size) (hCR:gC≤gR) (hn:x.ls.length≤400):
  Calls Tryz.prog 13 #[.pointer (some ⟨gR,0,none⟩),.int .i64 2,.func (.func 17) #[] #[]] wk fun e w'=>e=.returned (.tuple #[])∧∃s',FrAt w0 w' gR gC x LA (F3 c x) c.V (X3 c x) s':=by
 have h0:=h.go hls hC hCR hn 2 17 #[] (enter_of Tryz.func17 (by kernel_rfl) rfl) (G3 c x) c.V 3 c.fr (fun i=>[D3 c x i]) hs.v (fun i hi=>by simp) (allG3 ha)
  (fun i hi hb W A cc AI ci hO hA hl1 hl2 hr hm=>by
   obtain⟨g1,g2,g3,g4⟩:=hg i hi hb
   exact decide_any (F2 c x i) g3 i hi g1 c.fr g2 A cc (c.V i) AI ci (X2 c x i) W.heap.size W (Nat.le_refl _) hA hl1 hl2 hr (phX_small _ _ _ _ _ _ _ hn i) hm g4 (phX_wf _ _ _ _ _ _ _ _ _))
 rw [newK_same]at h0
 exact h0
theorem ph3 (hs:Sane c) (hg:Good x.bad c.fr (F3 c x)) (ha:AllOk (F3 c x)) (h:FrAt w0 wk gR gC x LA (F3 c x) c.V (X3 c x) s) (hls:LiesAt w0 gC LA x.ls) (hC:gC≤w0.heap.size) (hCR:gC≤gR) (hn:x.ls.length≤400):
  Calls Tryz.prog 13 #[.pointer (some ⟨gR,0,none⟩),.int .i64 3,.func (.func 18) #[] #[]] wk fun e w'=>e=.returned (.tuple #[])∧∃s',FrAt w0 w' gR gC x LA (F4 c x) c.V (X4 c x) s':=by
 have h0:=h.go hls hC hCR hn 3 18 #[] (enter_of Tryz.func18 (by kernel_rfl) rfl) (G4 c x) c.V 2 c.fr (fun i=>hvs (G4 c x i)) hs.v (fun i hi=>by unfold hvs;simp) (allG4 ha)
  (fun i hi hb W A cc AI ci hO hA hl1 hl2 hr hm=>by
   obtain⟨g1,g2,g3,g4⟩:=hg i hi hb
   exact pass_any (F3 c x i) g3 i hi g1 c.fr g2 A cc (c.V i) AI ci (X3 c x i) W.heap.size W (Nat.le_refl _) hA hl1 hl2 hr (phX_small _ _ _ _ _ _ _ hn i) hm)
 rw [newK_same]at h0
 exact h0
theorem ph4 (hs:Sane c) (hg:Good x.bad c.fr (F4 c x)) (ha:AllOk (F4 c x)) (h:FrAt w0 wk gR gC x LA (F4 c x) c.V (X4 c x) s) (hls:LiesAt w0 gC LA x.ls) (hC:gC≤w0.heap.size) (hCR:gC≤gR) (hn:x.ls.length≤400):
  Calls Tryz.prog 13 #[.pointer (some ⟨gR,0,none⟩),.int .i64 4,.func (.func 19) #[] #[]] wk fun e w'=>e=.returned (.tuple #[])∧∃s',FrAt w0 w' gR gC x LA (F5 c x) (W5 c x) (X5 c x) s':=by
 exact h.go hls hC hCR hn 4 19 #[] (enter_of Tryz.func19 (by kernel_rfl) rfl) (G5 c x) (V5 c x) 5 c.fr (fun i=>packZ (G5 c x i)) (fun i hi=>by unfold V5 agreeL;simp) (fun i hi=>by rw [packZ_len];omega) (allG5 ha)
  (fun i hi hb W A cc AI ci hO hA hl1 hl2 hr hm=>by
   obtain⟨g1,g2,g3,g4⟩:=hg i hi hb
   exact judge_any (F4 c x i) g3 i hi g1 c.fr g2 A cc (c.V i) AI ci (X4 c x i) W.heap.size W (Nat.le_refl _) hA hl1 hl2 hr (phX_small _ _ _ _ _ _ _ hn i) hm g4 (phX_wf _ _ _ _ _ _ _ _ _))
end
end Cf
namespace Cf
open Go.RowKit Mem Rws Nd
def cluCell (fr:Int) (F:Nat→Nat→Value) (S:Nat→Value) (i:Nat):Value:=if i=0 then .int .i64 fr else nodeW (F ((i-1)/74)) (S ((i-1)/74)) ((i-1)%74)
def inCell (rd:Nat→Int) (bad:Int) (L:Value) (i:Nat):Value:=if i<12 then .int .i64 (rd i)else if i=12 then .int .i64 bad else L
def verOf (VA:Nat→Option Addr) (V:Nat→List Bool) (VC:Nat→Nat) (i:Nat):Value:=.slice (VA i) (V i).length (VC i)
end Cf
namespace Nd
open Go.RowKit Mem Rws Flat
def UnpackAs (w w':World) (gn:Nat) (zs:List Int) (f:Nat→Value) (S:Value) (e:Ending):Prop:=
 e=.returned (.bool (unpackOk zs))∧Blk w' gn 39 (row 74 (nodeW (if unpackOk zs=true then unpackF zs f else f) S))∧w.grownBy w' (some gn)
set_option maxRecDepth 100000 in
set_option maxHeartbeats 2000000 in
theorem unpack_any (f:Nat→Value) (zs:List Int) (hl:zs.length=24) (a:Option Addr) (c:Nat) (hc:24≤c) (S:Value) (gn:Nat) (w:World) (hf:∀i,i<73→okT (nodeT i) (f i)) (hn:Blk w gn 39 (row 74 (nodeW f S))) (hr:Rd w w.heap.size 1 a zs.length (Ms.intsV zs)):
  Calls Tryz.prog 62 #[.pointer (some ⟨gn,0,none⟩),.slice a 24 c] w fun e w'=>UnpackAs w w' gn zs f S e:=by
 obtain⟨b,o,rfl,hb,hz⟩:=rd_zs hr hl
 have HZ:=Lib.hid hz
 have HN:=Lib.hid hn
 have HF:=Lib.hid hf
 have hgn:=hn.lt
 clear hr hn hz hf
 go_enter Tryz.func62,Tryz.ntmps62
 go_upto_region 2 with fail
 have HR:=Lib.hid (show Blk (w.alloc (.cells #[.bool false,.bool false,.bool false,.bool false,.int .i64 0,.int .i64 0,.int .i64 0,.int .i64 0,.int .i64 0,.int .i64 0,.int .i64 0,.int .i64 0] 32)) w.heap.size 32 (row 12 (rollF (uptoB (rollU zs).f 0) (uptoI (rollU zs).m 0) (uptoI (rollU zs).j 0)))from Blk.fresh _ _ _)
 have HG:=Lib.hid (gr_alloc w (.cells #[.bool false,.bool false,.bool false,.bool false,.int .i64 0,.int .i64 0,.int .i64 0,.int .i64 0,.int .i64 0,.int .i64 0,.int .i64 0,.int .i64 0] 32) (some gn))
 have HB:=Lib.hid ((Below.refl w.heap.size w).alloc (Nat.le_refl _) (.cells #[.bool false,.bool false,.bool false,.bool false,.int .i64 0,.int .i64 0,.int .i64 0,.int .i64 0,.int .i64 0,.int .i64 0,.int .i64 0,.int .i64 0] 32))
 generalize(w.alloc (.cells #[.bool false,.bool false,.bool false,.bool false,.int .i64 0,.int .i64 0,.int .i64 0,.int .i64 0,.int .i64 0,.int .i64 0,.int .i64 0,.int .i64 0] 32))=w1 at*
 have x21:=(HB.out.cell (p:=⟨b,o+21,none⟩) hb).trans (HZ.out 21 (by omega))
 have x22:=(HB.out.cell (p:=⟨b,o+22,none⟩) hb).trans (HZ.out 22 (by omega))
 have x23:=(HB.out.cell (p:=⟨b,o+23,none⟩) hb).trans (HZ.out 23 (by omega))
 obtain⟨z1,hz1⟩:∃z,zAt zs 21=z:=⟨_,rfl⟩
 obtain⟨z2,hz2⟩:∃z,zAt zs 22=z:=⟨_,rfl⟩
 obtain⟨z3,hz3⟩:∃z,zAt zs 23=z:=⟨_,rfl⟩
 rw [hz1]at x21
 rw [hz2]at x22
 rw [hz3]at x23
 have HZ1:=Lib.hid hz1
 have HZ2:=Lib.hid hz2
 have HZ3:=Lib.hid hz3
 clear hz1 hz2 hz3
 have HTO:=Lib.hid (show tailOk zs=decide (0≤z1∧z1<16∧0≤z2∧z2<4096∧0≤z3∧z3<4096)by unfold tailOk;rw [HZ1.out,HZ2.out,HZ3.out])
 have HBAD:=Lib.hid (fun(v:World) (h:unpackOk zs=false) (hb:Below w.heap.size w v)=>show UnpackAs w v gn zs f S (.returned (.bool false))from⟨by rw [h],by rw [if_neg (by rw [h];exact Bool.false_ne_true)];exact HN.out.below hb hgn,gr_below hb⟩)
 by_cases ht:0≤z1∧z1<16∧0≤z2∧z2<4096∧0≤z3∧z3<4096
 ·
  have HTK:=Lib.hid (show tailOk zs=true by rw [HTO.out];exact decide_eq_true ht)
  have e1:z1/16=0:=by omega
  have e2:z2/4096=0:=by omega
  have e3:z3/4096=0:=by omega
  go_wp2_with fail
  obtain⟨v1,rfl⟩:∃v:Nat,z1=(v:Int):=⟨z1.toNat,by omega⟩
  obtain⟨v2,rfl⟩:∃v:Nat,z2=(v:Int):=⟨z2.toNat,by omega⟩
  obtain⟨v3,rfl⟩:∃v:Nat,z3=(v:Int):=⟨z3.toNat,by omega⟩
  clear x21 x22 x23 e1 e2 e3 ht HTO HG
  go_loopw [38] (fun i wr=>∃j:Nat,j≤4∧i=.int .i64 (j:Int)∧Blk wr w.heap.size 32 (row 12 (rollF (uptoB (rollU zs).f j) (uptoI (rollU zs).m j) (uptoI (rollU zs).j j)))∧Below w.heap.size w wr) (fun i _=>4-(intOf i).toNat)
  case atStart=>exact⟨0,by omega,rfl,HR.out,HB.out⟩
  case round=>
   clear HR HB
   obtain⟨j,hj,rfl,hrr,hbb⟩:=hrel
   have HR:=Lib.hid hrr
   have HB:=Lib.hid hbb
   clear hrr hbb
   have x21:=(HB.out.cell (p:=⟨b,o+21,none⟩) hb).trans (HZ.out 21 (by omega))
   have x22:=(HB.out.cell (p:=⟨b,o+22,none⟩) hb).trans (HZ.out 22 (by omega))
   have x23:=(HB.out.cell (p:=⟨b,o+23,none⟩) hb).trans (HZ.out 23 (by omega))
   rw [HZ1.out]at x21
   rw [HZ2.out]at x22
   rw [HZ3.out]at x23
   by_cases hlt:j<4
   ·
    have c0:=HR.out.cell j
    have t0:=HR.out.thaw j
    have c1:=HR.out.cell (4+j)
    have t1:=HR.out.thaw (4+j)
    have c2:=HR.out.cell (8+j)
    have t2:=HR.out.thaw (8+j)
    rw [row_at (by omega)]at c0 c1 c2
    obtain rfl|rfl|rfl|rfl:j=0∨j=1∨j=2∨j=3:=by omega
    all_goals
     simp only [Nat.reduceAdd]at c1 t1 c2 t2
     go_wp2_with fail
     exact⟨⟨_+1,by omega,by rfl,roll_put (rollU zs) _ (by omega) HR.out (by rw [rollU_f,HZ1.out];exact bit_law v1 _ (by omega)) (by rw [rollU_m,HZ2.out];exact oct_law v2 _ (by omega)) (by rw [rollU_j,HZ3.out];exact oct_law v3 _ (by omega)),((HB.out.setCell (Nat.le_refl _) _).setCell (Nat.le_refl _) _).setCell (Nat.le_refl _) _⟩,by simp [intOf]⟩
   ·
    obtain rfl:j=4:=by omega
    clear hlt
    rw [show((4:Nat):Int)=4 from rfl]
    have HR:=Lib.hid (show Blk wr w.heap.size 32 (rollU zs).row from by rw [←upto_all];exact HR.out)
    have ir:(Tryz.prog.info? 32).map (·.size)=some (rollU zs).row.size:=by unfold RS.row;rw [row_size];kernel_rfl
    have cG:=fun w=>good_any (rollU zs).f (rollU zs).m (rollU zs).j w
    have CG:=Lib.hid (fun w=>show Calls Tryz.prog 58 #[.agg (rollU zs).row] w fun e w'=>e=.returned (.bool (goodU zs))∧Below w.heap.size w w' from cG w)
    clear cG x21 x22 x23
    obtain⟨RR,hRR⟩:∃R,(rollU zs).row=R:=⟨_,rfl⟩
    have HRR:=Lib.hid hRR
    rw [hRR]at HR ir CG
    clear hRR
    go_wp2_with(refine wpList_whole rfl 32 _ rfl w.heap.size rfl HR.out _ Tryz.underlying32 rfl ir ?_)
    refine(CG.out _).mono ?_
    rintro e wg ⟨rfl,hbg⟩
    have HR0:=HR
    have HX:=Lib.hid (Nat.lt_of_lt_of_le HR0.out.lt hbg.size)
    have HR:=Lib.hid (HR.out.below hbg HR.out.lt)
    have HB:=Lib.hid (onward HB.out (Nat.le_refl _) hbg)
    clear hbg CG
    cases hgu:goodU zs with
    |false=>
     have HUF:=Lib.hid (show unpackOk zs=false by unfold unpackOk;rw [hgu,Bool.and_false,Bool.false_and])
     clear hgu
     go_wp2_with fail
     go_ret
     exact HBAD.out _ HUF.out HB.out
    |true=>
     have HGU:=Lib.hid hgu
     clear hgu
     have HN2:=Lib.hid (HN.out.below HB.out hgn)
     have HA0:=Lib.hid (Blk.fresh wg 28 #[.int .i64 0,.int .i64 0,.int .i64 0,.int .i64 0,.int .i64 0,.bool false,.int .i64 0,.int .i64 0,.int .i64 0,.int .i64 0,.int .i64 0,.int .i64 0,.bool false,.int .i64 0,.int .i64 0,.int .i64 0,.int .i64 0,.int .i64 0,.int .i64 0,.bool false,.int .i64 0])
     have iA:∀F:Nat→Value,(Tryz.prog.info? 28).map (·.size)=some (row 21 F).size:=fun F=>by rw [row_size];kernel_rfl
     have IA:=Lib.hid iA
     have iA1:=iA fun i=>nodeW f S (6+i)
     have zA1:(#[.int .i64 0,.int .i64 0,.int .i64 0,.int .i64 0,.int .i64 0,.bool false,.int .i64 0,.int .i64 0,.int .i64 0,.int .i64 0,.int .i64 0,.int .i64 0,.bool false,.int .i64 0,.int .i64 0,.int .i64 0,.int .i64 0,.int .i64 0,.int .i64 0,.bool false,.int .i64 0]:Array Value).size=(row 21 fun i=>nodeW f S (6+i)).size:=by rw [row_size];rfl
     have oA1:(row 21 fun i=>nodeW f S (6+i)).all (·.oneCell')=true:=row_one fun i hi=>by
      have h:=one_of HF.out (A:=none) (n:=0) (c:=0)
      rw [Array.all_eq_true_iff_forall_mem]at h
      have h1:=h (nodeW f (.slice none 0 0) (6+i)) (Array.mem_of_getElem? (i:=6+i) (row_at (by omega)))
      unfold nodeW at h1 ⊢
      rw [if_neg (by omega)]at h1 ⊢
      exact h1
     clear iA
     go_upto_region 15 with(first
      |(refine wpList_mid rfl 28 _ rfl gn 6 21 rfl HN2.out (by omega) _ Tryz.underlying28 rfl (by kernel_rfl) ?_)
      |(refine wpList_store_row rfl 28 _ _ rfl wg.heap.size (row 21 fun i=>nodeW f S (6+i)) rfl rfl 28 _ HA0.out iA1 zA1 oA1 ?_))
     have hb5:Below wg.heap.size wg ((wg.alloc (.cells #[.int .i64 0,.int .i64 0,.int .i64 0,.int .i64 0,.int .i64 0,.bool false,.int .i64 0,.int .i64 0,.int .i64 0,.int .i64 0,.int .i64 0,.int .i64 0,.bool false,.int .i64 0,.int .i64 0,.int .i64 0,.int .i64 0,.int .i64 0,.int .i64 0,.bool false,.int .i64 0] 28)).setRow wg.heap.size (row 21 fun j=>nodeW f S (6+j))):=below_setRow ((Below.refl _ _).alloc (Nat.le_refl _) _) (Nat.le_refl _) _
     have HA:=Lib.hid (HA0.out.setRow (row 21 fun j=>nodeW f S (6+j)))
     have HR:=Lib.hid (HR.out.below hb5 HR.out.lt)
     have HB:=Lib.hid (onward HB.out (Nat.le_refl _) hb5)
     have hwg:=HR.out.lt
     have hwg2:=HB.out.size
     have HWG:w.heap.size<wg.heap.size:=HX.out
     clear hb5 HA0 HN2 iA1 zA1 oA1
     generalize((wg.alloc (.cells #[.int .i64 0,.int .i64 0,.int .i64 0,.int .i64 0,.int .i64 0,.bool false,.int .i64 0,.int .i64 0,.int .i64 0,.int .i64 0,.int .i64 0,.int .i64 0,.bool false,.int .i64 0,.int .i64 0,.int .i64 0,.int .i64 0,.int .i64 0,.int .i64 0,.bool false,.int .i64 0] 28)).setRow wg.heap.size (row 21 fun j=>nodeW f S (6+j)))=w5 at*
     obtain⟨ga,hga⟩:∃g,wg.heap.size=g:=⟨_,rfl⟩
     rw [hga]at HA HWG ⊢
     clear hga
     have hal:=HA.out.lt
     go_wp2_with fail
     go_loopw [89] (fun i wr=>∃k:Nat,k≤3∧i=.int .i64 (k:Int)∧bentTo zs k=true∧Blk wr ga 28 (row 21 fun i=>if i<k*7 then axV zs i else nodeW f S (6+i))∧Below ga w5 wr) (fun i _=>3-(intOf i).toNat)
     case atStart=>exact⟨0,by omega,rfl,rfl,by rw [row_congr (g:=fun j=>nodeW f S (6+j)) (fun i hi=>if_neg (by omega))];exact HA.out,Below.refl _ _⟩
     case round=>
      clear HA
      obtain⟨k,hk,rfl,hbt,ha,hbg⟩:=hrel
      have HA:=Lib.hid ha
      have HBG:=Lib.hid hbg
      have HBT:=Lib.hid hbt
      have HBW:=Lib.hid (HB.out.trans (hbg.mono (by omega)))
      clear ha hbg hbt
      have HC:=Lib.hid (fun j hj=>(HBW.out.cell (p:=⟨b,o+j,none⟩) hb).trans (HZ.out j hj))
      by_cases hlt:k<3
      ·
       have hc7:=axV_row zs k hlt
       have hbo:bentOk zs k=decide (zAt zs (k*7+5)=0∨zAt zs (k*7+5)=1):=rfl
       obtain⟨q,hq⟩:∃q,o+k*7=q:=⟨_,rfl⟩
       have hx:∀j,j<7→ wr.cell? ⟨b,q+j,none⟩=some (.int .i64 (zAt zs (k*7+j))):=fun j hj=>by rw [←hq,Nat.add_assoc];exact HC.out (k*7+j) (by omega)
       have x0:=hx 0 (by omega)
       have x1:=hx 1 (by omega)
       have x2:=hx 2 (by omega)
       have x3:=hx 3 (by omega)
       have x4:=hx 4 (by omega)
       have x5:=hx 5 (by omega)
       have x6:=hx 6 (by omega)
       rw [Nat.add_zero,Nat.add_zero]at x0
       generalize zAt zs (k*7)=p0 at*
       generalize zAt zs (k*7+1)=p1 at*
       generalize zAt zs (k*7+2)=p2 at*
       generalize zAt zs (k*7+3)=p3 at*
       generalize zAt zs (k*7+4)=p4 at*
       generalize zAt zs (k*7+5)=p5 at*
       generalize zAt zs (k*7+6)=p6 at*
       have HQ:=Lib.hid hq
       clear hx hq
       have HBT1:=Lib.hid (fun(hp:p5=0∨p5=1)=>(show(bentTo zs k&&bentOk zs k)=true by rw [HBT.out,hbo,decide_eq_true hp];rfl:bentTo zs (k+1)=true))
       have HBN:=Lib.hid (fun(hp:¬(p5=0∨p5=1))=>(by unfold unpackOk;rw [bent_bad (k:=k) (by rw [hbo];exact decide_eq_false hp) hlt,Bool.and_false]:unpackOk zs=false))
       have HAX:=Lib.hid (show ∀V V':World,V'=V.setCells ga (k*7) (#[.int .i64 p0,.int .i64 p1,.int .i64 p2,.int .i64 p3,.int .i64 p4,.bool (p5==1),.int .i64 p6]:Array Value).toList→Blk V ga 28 (row 21 fun i=>if i<k*7 then axV zs i else nodeW f S (6+i))→Blk V' ga 28 (row 21 fun i=>if i<(k+1)*7 then axV zs i else nodeW f S (6+i))from fun V V' e h=>by have h:=blk_mid h (k*7) 7 (fun j=>axV zs (k*7+j));rwa [ax_store zs k hlt,hc7,←e]at h)
       have HTH:=Lib.hid (row_there HA.out (k*7) 7 (by omega))
       clear hc7 hbo
       obtain rfl|rfl|rfl:k=0∨k=1∨k=2:=by omega
       all_goals go_upto_region 19 with fail
       (have e:q=o:=HQ.out.symm;subst e)
       rotate_left 1
       rw [show o+7=q from HQ.out]
       rotate_left 1
       rw [show o+14=q from HQ.out]
       all_goals
        by_cases hp:p5=0∨p5=1
        ·
         have HBT1:=Lib.hid (HBT1.out hp)
         have hq:(p5 !=0)=false∨((p5 !=0)=true∧(p5 !=1)=false):=by rcases hp with rfl|rfl<;>simp
         clear hp HBN
         rcases hq with q0|⟨q0,q1⟩<;>go_upto_region 21 with fail
         all_goals
          clear q0
          try clear q1
          have HS:=And.intro x0 (And.intro x1 (And.intro x2 (And.intro x3 (And.intro x4 (And.intro x5 x6)))))
          clear x0 x1 x2 x3 x4 x5 x6
          refine wp_region_noPanic ?_
          refine Rg.beginR [3,6,9,12,15,18,22] (fun w'=> w'.cell? ⟨b,q,none⟩=some (.int .i64 p0)∧ w'.cell? ⟨b,q+1,none⟩=some (.int .i64 p1)∧ w'.cell? ⟨b,q+2,none⟩=some (.int .i64 p2)∧ w'.cell? ⟨b,q+3,none⟩=some (.int .i64 p3)∧ w'.cell? ⟨b,q+4,none⟩=some (.int .i64 p4)∧ w'.cell? ⟨b,q+5,none⟩=some (.int .i64 p5)∧ w'.cell? ⟨b,q+6,none⟩=some (.int .i64 p6)) (by kernel_rfl) ?_
          have HA:=Lib.hid HA.out.drew
          have HBG:=Lib.hid HBG.out.drew
          have HTH:=Lib.hid ((World.there_drew _ _ _ _).2 HTH.out)
          have HS:=(show wr.drew.cell? ⟨b,q,none⟩=some (.int .i64 p0)∧ wr.drew.cell? ⟨b,q+1,none⟩=some (.int .i64 p1)∧ wr.drew.cell? ⟨b,q+2,none⟩=some (.int .i64 p2)∧ wr.drew.cell? ⟨b,q+3,none⟩=some (.int .i64 p3)∧ wr.drew.cell? ⟨b,q+4,none⟩=some (.int .i64 p4)∧ wr.drew.cell? ⟨b,q+5,none⟩=some (.int .i64 p5)∧ wr.drew.cell? ⟨b,q+6,none⟩=some (.int .i64 p6)from HS)
          generalize wr.drew=V0 at*
          refine Rg.tp 0 ⟨some 106,.move (.tmp 9),_,_,_,none⟩ (v:=?_) rfl ?_ ?_
          rotate_left 1
          · (intro w;go_simp;(try with_reducible rfl))
          try simp only [Rg.lp]
          refine Rg.tp 1 ⟨some 107,.move (.tmp 10),_,_,_,none⟩ (v:=?_) rfl ?_ ?_
          rotate_left 1
          · (intro w;go_simp;(try with_reducible rfl))
          try simp only [Rg.lp]
          refine Rg.tp 2 ⟨some 108,.indexAddr 70 (.tmp 107) (.const (.int .i64 0)),_,_,_,none⟩ (v:=?_) rfl ?_ ?_
          rotate_left 1
          · (intro w;go_simp;(try with_reducible rfl))
          try simp only [Rg.lp]
          refine Rg.stp_s 3 ?_ HS (hy:=?_) (h:=?_)
          rotate_left 1
          · (intro w hSw;(try dsimp only at hSw);(try go_split_ands);go_simp;(try with_reducible rfl))
          try simp only [Rg.lp]
          refine Rg.tp 4 ⟨some 110,.move (.tmp 10),_,_,_,none⟩ (v:=?_) rfl ?_ ?_
          rotate_left 1
          · (intro w;go_simp;(try with_reducible rfl))
          try simp only [Rg.lp]
          refine Rg.tp 5 ⟨some 111,.indexAddr 70 (.tmp 110) (.const (.int .i64 1)),_,_,_,none⟩ (v:=?_) rfl ?_ ?_
          rotate_left 1
          · (intro w;go_simp;(try with_reducible rfl))
          try simp only [Rg.lp]
          refine Rg.stp_s 6 ?_ HS (hy:=?_) (h:=?_)
          rotate_left 1
          · (intro w hSw;(try dsimp only at hSw);(try go_split_ands);go_simp;(try with_reducible rfl))
          try simp only [Rg.lp]
          refine Rg.tp 7 ⟨some 113,.move (.tmp 10),_,_,_,none⟩ (v:=?_) rfl ?_ ?_
          rotate_left 1
          · (intro w;go_simp;(try with_reducible rfl))
          try simp only [Rg.lp]
          refine Rg.tp 8 ⟨some 114,.indexAddr 70 (.tmp 113) (.const (.int .i64 2)),_,_,_,none⟩ (v:=?_) rfl ?_ ?_
          rotate_left 1
          · (intro w;go_simp;(try with_reducible rfl))
          try simp only [Rg.lp]
          refine Rg.stp_s 9 ?_ HS (hy:=?_) (h:=?_)
          rotate_left 1
          · (intro w hSw;(try dsimp only at hSw);(try go_split_ands);go_simp;(try with_reducible rfl))
          try simp only [Rg.lp]
          refine Rg.tp 10 ⟨some 116,.move (.tmp 10),_,_,_,none⟩ (v:=?_) rfl ?_ ?_
          rotate_left 1
          · (intro w;go_simp;(try with_reducible rfl))
          try simp only [Rg.lp]
          refine Rg.tp 11 ⟨some 117,.indexAddr 70 (.tmp 116) (.const (.int .i64 3)),_,_,_,none⟩ (v:=?_) rfl ?_ ?_
          rotate_left 1
          · (intro w;go_simp;(try with_reducible rfl))
          try simp only [Rg.lp]
          refine Rg.stp_s 12 ?_ HS (hy:=?_) (h:=?_)
          rotate_left 1
          · (intro w hSw;(try dsimp only at hSw);(try go_split_ands);go_simp;(try with_reducible rfl))
          try simp only [Rg.lp]
          refine Rg.tp 13 ⟨some 119,.move (.tmp 10),_,_,_,none⟩ (v:=?_) rfl ?_ ?_
          rotate_left 1
          · (intro w;go_simp;(try with_reducible rfl))
          try simp only [Rg.lp]
          refine Rg.tp 14 ⟨some 120,.indexAddr 70 (.tmp 119) (.const (.int .i64 4)),_,_,_,none⟩ (v:=?_) rfl ?_ ?_
          rotate_left 1
          · (intro w;go_simp;(try with_reducible rfl))
          try simp only [Rg.lp]
          refine Rg.stp_s 15 ?_ HS (hy:=?_) (h:=?_)
          rotate_left 1
          · (intro w hSw;(try dsimp only at hSw);(try go_split_ands);go_simp;(try with_reducible rfl))
          try simp only [Rg.lp]
          refine Rg.tp 16 ⟨some 122,.move (.tmp 10),_,_,_,none⟩ (v:=?_) rfl ?_ ?_
          rotate_left 1
          · (intro w;go_simp;(try with_reducible rfl))
          try simp only [Rg.lp]
          refine Rg.tp 17 ⟨some 123,.indexAddr 70 (.tmp 122) (.const (.int .i64 5)),_,_,_,none⟩ (v:=?_) rfl ?_ ?_
          rotate_left 1
          · (intro w;go_simp;(try with_reducible rfl))
          try simp only [Rg.lp]
          refine Rg.stp_s 18 ?_ HS (hy:=?_) (h:=?_)
          rotate_left 1
          · (intro w hSw;(try dsimp only at hSw);(try go_split_ands);go_simp;(try with_reducible rfl))
          try simp only [Rg.lp]
          refine Rg.tp 19 ⟨some 125,.binOp .eql 3 (.tmp 124) (.const (.int .i64 1)) 3,_,_,_,none⟩ (v:=?_) rfl ?_ ?_
          rotate_left 1
          · (intro w;go_simp;(try with_reducible rfl))
          try simp only [Rg.lp]
          refine Rg.tp 20 ⟨some 126,.move (.tmp 10),_,_,_,none⟩ (v:=?_) rfl ?_ ?_
          rotate_left 1
          · (intro w;go_simp;(try with_reducible rfl))
          try simp only [Rg.lp]
          refine Rg.tp 21 ⟨some 127,.indexAddr 70 (.tmp 126) (.const (.int .i64 6)),_,_,_,none⟩ (v:=?_) rfl ?_ ?_
          rotate_left 1
          · (intro w;go_simp;(try with_reducible rfl))
          try simp only [Rg.lp]
          refine Rg.stp_s 22 ?_ HS (hy:=?_) (h:=?_)
          rotate_left 1
          · (intro w hSw;(try dsimp only at hSw);(try go_split_ands);go_simp;(try with_reducible rfl))
          try simp only [Rg.lp]
          refine Rg.tp 23 ⟨some 129,.build 27 #[(0,.tmp 109),(1,.tmp 112),(2,.tmp 115),(3,.tmp 118),(4,.tmp 121),(5,.tmp 125),(6,.tmp 128)],_,_,_,none⟩ (v:=?_) rfl ?_ ?_
          rotate_left 1
          · (intro w;go_simp;(try with_reducible rfl))
          try simp only [Rg.lp]
          refine Rg.tp 24 ⟨some 130,.indexAddr 28 (.tmp 8) (.tmp 106),_,_,_,none⟩ (v:=?_) rfl ?_ ?_
          rotate_left 1
          · (intro w;go_simp;(try with_reducible rfl))
          try simp only [Rg.lp]
          refine Rg.stp_o 25 ?_
          refine Rg.stepF ?_ ?_
          · kernel_rfl
          intro K hK
          rw [if_pos (by rfl)]
          refine wp_store_midE 27 (.tmp 130) (.tmp 129) rfl ga _ #[.int .i64 p0,.int .i64 p1,.int .i64 p2,.int .i64 p3,.int .i64 p4,.bool (p5==1),.int .i64 p6] rfl rfl HTH.out (by kernel_rfl) (by simp [Value.oneCell']) (fun V1 hV=>?_)
          have HA:=Lib.hid (HAX.out _ _ hV HA.out)
          have HBG:=Lib.hid (below_setE (Nat.le_refl ga) hV HBG.out)
          clear hV
          refine hK.out _ _ ?_
          clear hK K
          try simp only [Rg.lp]
          refine Rg.doneR (by kernel_rfl) ?_ _
          refine NoPanic.normal ?_
          clear HS
          go_wp2_with fail
          exact⟨⟨_+1,by omega,by rfl,HBT1.out,HA.out,HBG.out⟩,by simp [intOf]⟩
        ·
         have q0:(p5 !=0)=true:=bne_iff_ne.2 (by omega)
         have q1:(p5 !=1)=true:=bne_iff_ne.2 (by omega)
         have HUF:=Lib.hid (HBN.out hp)
         clear hp
         go_wp2_with fail
         go_ret
         exact HBAD.out _ HUF.out HBW.out
      ·
       obtain rfl:k=3:=by omega
       clear hlt
       rw [show((3:Nat):Int)=3 from rfl]
       have HUT:=Lib.hid (show unpackOk zs=true by unfold unpackOk;rw [HTK.out,HGU.out,HBT.out];rfl)
       have HA:=Lib.hid (show Blk wr ga 28 (row 21 (axV zs))from by rw [←row_congr (f:=fun i=>if i<3*7 then axV zs i else nodeW f S (6+i)) (fun i hi=>if_pos (by omega))];exact HA.out)
       have HNW:=Lib.hid (HN.out.below HBW.out hgn)
       have HRW:=Lib.hid (HR.out.below HBG.out (by omega))
       have iA2:=IA.out (axV zs)
       have hgr:=HRW.out.lt
       go_upto_region 23 with fail
       have HA:=Lib.hid HA.out.drew
       have HNW:=Lib.hid HNW.out.drew
       have HRW:=Lib.hid HRW.out.drew
       have HGW:=Lib.hid (gr_below (row:=some gn) HBW.out.drew)
       have HS:=And.intro HA.out HRW.out
       refine wp_region_noPanic ?_
       refine Rg.beginR [2,3] (fun w'=>Blk w' ga 28 (row 21 (axV zs))∧Blk w' w.heap.size 32 RR) (by kernel_rfl) ?_
       generalize wr.drew=V0 at*
       refine Rg.tp 0 ⟨some 132,.move (.tmp 0),_,_,_,none⟩ (v:=?_) rfl ?_ ?_
       rotate_left 1
       · (intro w;go_simp;(try with_reducible rfl))
       try simp only [Rg.lp]
       refine Rg.tp 1 ⟨some 133,.move (.tmp 0),_,_,_,none⟩ (v:=?_) rfl ?_ ?_
       rotate_left 1
       · (intro w;go_simp;(try with_reducible rfl))
       try simp only [Rg.lp]
       refine Rg.stp_s 2 (.agg (row 21 (axV zs))) HS (hy:=?_) (h:=?_)
       · (intro w' hSw;exact exec_load_row 28 _ rfl _ rfl hSw.1 Tryz.underlying28 rfl iA2)
       try simp only [Rg.lp]
       refine Rg.stp_s 3 (.agg RR) HS (hy:=?_) (h:=?_)
       · (intro w' hSw;exact exec_load_row 32 _ rfl _ rfl hSw.2 Tryz.underlying32 rfl ir)
       try simp only [Rg.lp]
       refine Rg.tp 4 ⟨some 136,.nilCheck (.tmp 132),_,_,_,none⟩ (v:=?_) rfl ?_ ?_
       rotate_left 1
       · (intro w;go_simp;(try with_reducible rfl))
       try simp only [Rg.lp]
       refine Rg.tp 5 ⟨some 137,.fieldAddr 39 (.tmp 136) 3,_,_,_,none⟩ (v:=?_) rfl ?_ ?_
       rotate_left 1
       · (intro w;go_simp;(try with_reducible rfl))
       try simp only [Rg.lp]
       refine Rg.stp_o 6 ?_
       refine Rg.stepS ?_
       intro K hK
       rw [if_pos (by rfl)]
       refine wp_store_mid 28 (.tmp 137) (.tmp 134) rfl gn 6 (row 21 (axV zs)) rfl rfl (by rw [row_size];exact row_there HNW.out 6 21 (by omega)) iA2 (row_one fun i hi=>axV_one zs i) ?_
       have HGW:=Lib.hid (gr_trans HGW.out (gr_setCells V0 gn (row 21 (axV zs)).toList 6))
       have HNW:=Lib.hid (blk_mid HNW.out 6 21 (axV zs))
       have HA:=Lib.hid (blk_mid_other (w:=V0) (b':=gn) (by omega) (row 21 (axV zs)).toList 6 _ HA.out)
       have HRW:=Lib.hid (blk_mid_other (w:=V0) (b':=gn) (by omega) (row 21 (axV zs)).toList 6 _ HRW.out)
       clear HS
       generalize(V0.setCells gn 6 (row 21 (axV zs)).toList)=V1 at*
       have HS:=And.intro HA.out HRW.out
       refine hK.out _ _ HS ?_
       clear hK K
       try simp only [Rg.lp]
       refine Rg.tp 7 ⟨some 138,.nilCheck (.tmp 133),_,_,_,none⟩ (v:=?_) rfl ?_ ?_
       rotate_left 1
       · (intro w;go_simp;(try with_reducible rfl))
       try simp only [Rg.lp]
       refine Rg.tp 8 ⟨some 139,.fieldAddr 39 (.tmp 138) 4,_,_,_,none⟩ (v:=?_) rfl ?_ ?_
       rotate_left 1
       · (intro w;go_simp;(try with_reducible rfl))
       try simp only [Rg.lp]
       refine Rg.stp_o 9 ?_
       refine Rg.stepF ?_ ?_
       · kernel_rfl
       intro K hK
       rw [if_pos (by rfl)]
       have hRR:=HRR.out
       refine wp_store_mid 32 (.tmp 139) (.tmp 135) rfl gn 27 RR rfl rfl (by rw [←hRR];exact row_there HNW.out 27 12 (by omega)) ir (by rw [←hRR];exact row_one fun i hi=>rollF_one _ _ _ _) ?_
       have HGW:=Lib.hid (gr_trans HGW.out (gr_setCells V1 gn RR.toList 27))
       have HNW:=Lib.hid (blk_mid HNW.out 27 12 (rollF (rollU zs).f (rollU zs).m (rollU zs).j))
       rw [unpack_row]at HNW
       have HNW:Hid (Blk (V1.setCells gn 27 RR.toList) gn 39 (row 74 (nodeW (unpackF zs f) S))):=by rw [←hRR];exact HNW
       clear hRR
       generalize(V1.setCells gn 27 RR.toList)=V2 at*
       refine hK.out _ _ ?_
       clear hK K
       try simp only [Rg.lp]
       refine Rg.doneR (by kernel_rfl) ?_ _
       refine NoPanic.normal ?_
       go_wp2_with fail
       go_ret
       exact⟨by rw [HUT.out];rfl,by rw [if_pos HUT.out];exact HNW.out,HGW.out⟩
 ·
  have HUF:=Lib.hid (show unpackOk zs=false by unfold unpackOk;rw [HTO.out,decide_eq_false ht,Bool.false_and,Bool.false_and])
  have hq:(z1/16 !=0)=true∨(z1/16=0∧(z2/4096 !=0)=true)∨(z1/16=0∧z2/4096=0∧(z3/4096 !=0)=true):=by simp only [bne_iff_ne];omega
  clear HR HZ ht
  rcases hq with e1|⟨e1,e2⟩|⟨e1,e2,e3⟩<;>go_wp2_with fail
  all_goals
   go_ret
   exact HBAD.out _ HUF.out HB.out
end Nd
namespace Ms
open Go.ChangeShapes Go.WideShapes Go.ChangeAt Go.RowKit Mem
set_option maxHeartbeats 1000000 in
theorem same_eq (A A':Option Addr) (c c':Nat) (zs ys:List Int) (hn:ys.length=zs.length) (B:Nat) (w:World) (hl:zs.length≤140737488355328) (hr:Rd w B 1 A zs.length (intsV zs)) (hr':Rd w B 1 A' zs.length (intsV ys)):
  Calls Tryz.prog 61 #[.slice A zs.length c,.slice A' zs.length c'] w fun e w'=>e=.returned (.bool (decide (zs=ys)))∧Below w.heap.size w w':=by
 have HR:=Lib.hid hr
 have HR':=Lib.hid hr'
 have HNL:=Lib.hid hn
 have HD:=Lib.hid (fun k (h1:k<zs.length) (h2:k<ys.length) (h:¬zs[k]=ys[k])=>show decide (zs=ys)=false from decide_eq_false fun e=>h (by subst e;rfl))
 clear hr hr' hn
 go_enter Tryz.func61,Tryz.ntmps61
 go_wp2_with fail
 go_loopw [8] (fun i wr=>∃k q:Nat,k≤zs.length∧i=.int .i64 k∧zs.take k=ys.take k∧wr=w.drewN q) (fun i _=>zs.length-(intOf i).toNat)
 case atStart=>exact⟨0,0,by omega,rfl,rfl,rfl⟩
 case round=>
  obtain⟨k,q,hk,rfl,htk,rfl⟩:=hrel
  have HTK:=Lib.hid htk
  clear htk
  by_cases hlt:k<zs.length
  ·
   obtain⟨b,o,u,rfl,hbB,hu,hcell⟩:=HR.out.at hlt
   obtain⟨b',o',u',rfl,hbB',hu',hcell'⟩:=HR'.out.at hlt
   have hlt':k<ys.length:=by rw [HNL.out];exact hlt
   rw [intsV_at zs k hlt]at hu
   rw [intsV_at ys k hlt']at hu'
   obtain rfl:=Option.some.inj hu
   obtain rfl:=Option.some.inj hu'
   have HK:=Lib.hid (HD.out k hlt hlt')
   have HT1:=Lib.hid (fun(e:zs[k]=ys[k])=>show zs.take (k+1)=ys.take (k+1)from by
    rw [List.take_add_one,List.take_add_one,HTK.out,List.getElem?_eq_getElem hlt,List.getElem?_eq_getElem hlt',e])
   generalize zs[k]=z at*
   generalize ys[k]=y at*
   clear hu hu' hlt'
   have hl0:(0:Int)≤(k:Int):=by omega
   have hl1:(k:Int)<(zs.length:Int):=by omega
   have hcell:(w.drewN q).cell? ⟨b,o+k,none⟩=some (.int .i64 z):=hcell
   have hcell':(w.drewN q).cell? ⟨b',o'+k,none⟩=some (.int .i64 y):=hcell'
   go_wp2_with fail
   go_quiet (fail)
   by_cases e:z=y
   ·
    have HT2:=Lib.hid (HT1.out e)
    have hne:(z !=y)=false:=bne_eq_false_iff_eq.2 e
    clear HT1 HK e
    go_wp2_with fail
    exact⟨⟨k+1,q+nq,by omega,by go_num,HT2.out,rfl⟩,by simp [intOf];omega⟩
   ·
    have HK2:=Lib.hid (HK.out e)
    have hne:(z !=y)=true:=bne_iff_ne.2 e
    clear HT1 HK e
    go_wp2_with fail
    go_ret
    exact⟨by rw [HK2.out];rfl,below_drewN (below_drewN (Below.refl _ _) _) _⟩
  ·
   obtain rfl:k=zs.length:=by omega
   clear hlt
   have HE:=Lib.hid (show decide (zs=ys)=true from decide_eq_true (by have h:=HTK.out;rwa [List.take_length,←HNL.out,List.take_length]at h))
   clear HTK
   go_wp2_with fail
   go_ret
   exact⟨by rw [HE.out];rfl,below_drewN (Below.refl _ _) _⟩
end Ms
end Go.Proofs.YtljpoibnkkcjdaaGreatDoor
