import Derived.Test.YtjobajeggllmiaaGreatPc0
import Derived.Test.YtjobajeggllmiaaGreatPc42
import Derived.Test.YtjobajeggllmiaaGreatPc43
set_option linter.all false
set_option maxHeartbeats 100000000
set_option maxRecDepth 100000
namespace Go.Proofs.YtjobajeggllmiaaGreat
open Rg _root_.Go.Proofs.Tryz
namespace Cf
open Go.ChangeShapes Go.WideShapes Go.ChangeAt Go.RowKit Mem Rws Nd Cl
def one_set{Q:Nat->Value}(h:∀s,(Q s).oneCell'=true)(i:Nat)(a:Option Addr)(s:Nat):(setAt Q i (.pointer a) s).oneCell'=true:=by
 unfold setAt
 split
 . rfl
 exact h s
def NI(c:Du)(x:He)(hs:Gi c)(sQ: -1<=x.bad/\x.bad<=3)(uj:∀i,i<12->Wf (x.rd i))(rE:x.ls.length<=400)(VA:Nat->Option Addr)(VC:Nat->Nat)(LA:Option Addr)(LC:Nat)(w:World)(hv:∀i,i<4->(VA i=none->VC i=0)/\(c.V i).length<=VC i/\Rd w w.heap.size 1 (VA i) (c.V i).length (Au (c.V i)))(hls:Co w w.heap.size LA x.ls):
  Calls prog 8 #[.agg (row 297 (Ak c.fr c.F (AO VA c.V VC))),.agg (row 14 (BP x.rd x.bad (.slice LA x.ls.length LC)))] w fun e w'=>∃sJ tO RA H,e=.returned (.tuple #[.agg (row 297 (Ak (next c x).fr (next c x).F (AO sJ (next c x).V tO))),.slice RA (Bz x.bad 4).length H,.int .i64 0])
   /\(∀i,i<4->(sJ i=none->tO i=0)/\((next c x).V i).length<=tO i/\Rd w' w'.heap.size 1 (sJ i) ((next c x).V i).length (Au ((next c x).V i))/\(0<((next c x).V i).length->∀a,sJ i=some a->(∃j a0,j<4/\0<(c.V j).length/\VA j=some a0/\a0.block=a.block)\/w.heap.size<=a.block))/\w'.ownsRow w.heap.size 70 14 (.slice RA (Bz x.bad 4).length H) (Bz x.bad 4).length (Gy c x 4)/\Below w.heap.size w w':=by
 have HV:=zz hv;have uU:=zz hls;have HS:=zz hs;have rF:=zz uj;clear hv hls uj;obtain⟨H,ru⟩:=AJ (row 297 (Ak c.fr c.F (AO VA c.V VC)));obtain⟨RI,rH⟩:=AJ (row 14 (BP x.rd x.bad (.slice LA x.ls.length LC)));rw[ru,rH];have sw:=zz ru;have tH:=zz rH
 have iC:(prog.info? 40).map (·.size)=some H.size:=by rw[←ru,Ag];kernel_rfl
 have iI:(prog.info? 43).map (·.size)=some RI.size:=by rw[←rH,Ag];kernel_rfl
 have zC:(zeroCells40).size=H.size:=by rw[←ru,Ag];kernel_rfl
 have oC:H.all (·.oneCell')=true:=by
  rw[←ru];refine row_one fun j hj=>?_
  unfold Ak
  split
  . rfl
  have h:=Cv (hs.ok ((j-1)/74) Aa) (A:=VA ((j-1)/74)) (n:=(c.V ((j-1)/74)).length) (c:=VC ((j-1)/74));rw[Array.all_eq_true_iff_forall_mem]at h
  exact h _ (Array.mem_of_getElem? (Ah (show(j-1)%74<74 by omega)))
 have c0:H[0]?=some (.int .i64 c.fr):=by rw[←ru,Ah Aa];rfl
 have tZ:RI[12]?=some (.int .i64 x.bad):=by rw[←rH,Ah Aa];rfl
 have uH:RI[13]?=some (.slice LA x.ls.length LC):=by rw[←rH,Ah Aa];rfl
 have vG:=zz c0;have sU:=zz tZ
 have uF:=zz (show ∀k,k<4->H[1+k*74]?=some (.int .i64 (k:Int))from fun k hk=>by
  rw[←ru,Ah Aa]
  unfold Ak
  rw[Aj Aa,show(1+k*74-1)/74=k by omega,show(1+k*74-1)%74=0 by omega]
  unfold Ab
  rw[Aj Aa,hs.id k hk])
 have wF:=hs.fr;clear ru rH hs
 have B1:=zz (show Ae (((w.alloc (.cells H 40)).alloc (.cells RI 43)).alloc (.cells zeroCells40 40)) w.heap.size 40 H from((show Ae (w.alloc (.cells H 40)) w.heap.size 40 H from Ae.fresh _ _ _).alloc _).alloc _)
 have B2:=zz (show Ae (((w.alloc (.cells H 40)).alloc (.cells RI 43)).alloc (.cells zeroCells40 40)) (w.heap.size+1) 43 RI from(Tx _ _ _ _).alloc _)
 have B3:=zz (show Ae (((w.alloc (.cells H 40)).alloc (.cells RI 43)).alloc (.cells zeroCells40 40)) (w.heap.size+2) 40 zeroCells40 from YD _ _ _ _ _)
 have HB:=zz ((((Below.refl w.heap.size w).alloc Nr (.cells H 40)).alloc Bq (.cells RI 43)).alloc Ec (.cells zeroCells40 40))
 have uz:=zz (show(((w.alloc (.cells H 40)).alloc (.cells RI 43)).alloc (.cells zeroCells40 40)).heap.size=w.heap.size+3 by simp)
 go_in
 go_upto_region 1 with fail
 generalize(((w.alloc (.cells H 40)).alloc (.cells RI 43)).alloc (.cells zeroCells40 40))=w1 at*
 have su:=(B2.o.cell 12).trans tZ;have vP:=(B2.o.cell 13).trans uH;have y0:=(B1.o.cell 0).trans c0;have b1:¬x.bad< -1:=Aa;have b2:¬3<x.bad:=Aa;have b3:¬c.fr<0:=Aa;have b4:¬1073741824<=c.fr:=Aa;have b5:¬(400:Int)<(x.ls.length:Int):=Aa
 go_upto_region 5 with fail
 clear b1 b2 b3 b4 b5 su vP tZ uH c0;go_wp2_with fail;clear y0
 go_loopw[42] (fun i wr=>∃k:Nat,k<=4/\i=.int .i64 k/\wr=w1) (fun i _=>4-(intOf i).toNat)
 .exact⟨0,Aa,rfl,rfl⟩
 obtain⟨k,hk,rfl,rfl⟩:=hrel
 by_cases qW:k<4
 .have wG:(0:Int)<=(k:Int):=Aa;have wH:(k:Int)<4:=Aa;have yk:=(B1.o.cell (1+k*74)).trans (uF.o k qW);have wB:((k:Int)!=(k:Int))=false:=Bq;go_wp2_with fail;exact⟨⟨k+1,Aa,BG,trivial⟩,Ck⟩
 obtain rfl:k=4:=Aa;clear qW uF
 generalize wr=w1 at*
 have E8:=zz (show Ae (w1.alloc (.cells zeroCells40 40)) w1.heap.size 40 zeroCells40 from Ae.fresh _ _ _)
 go_upto_region 12 with(first
  |(refine Ad rfl 40 _ rfl w.heap.size rfl B1.o _ underlying40 rfl iC ?_)
  |(refine Ad rfl 40 _ rfl w.heap.size rfl (B1.o.alloc _) _ underlying40 rfl iC ?_)
  |(refine wpList_store_row rfl 40 _ _ rfl w1.heap.size H rfl rfl 40 _ E8.o iC zC oC ?_))
 have hb:=below_setRow ((Below.refl w1.heap.size w1).alloc Nr (.cells zeroCells40 40)) Nr H;have sH:=uz.o;rw[sH]at E8 hb;have HD:=zz (E8.o.setRow H)
 have vC:=zz (show((w1.alloc (.cells zeroCells40 40)).setRow (w.heap.size+3) H).heap.size=w.heap.size+4 by simp[World.setRow,sH])
 have uP:KU w ((w1.alloc (.cells zeroCells40 40)).setRow (w.heap.size+3) H) c.fr H RI c.F VA c.V VC:=by
  have vO:=B1.o.below (hb.mono Aa) (show w.heap.size<w.heap.size+3 by omega)
  have wh:=B2.o.below (hb.mono Aa) (show w.heap.size+1<w.heap.size+3 by omega)
  have wm:=B3.o.below (hb.mono Aa) (show w.heap.size+2<w.heap.size+3 by omega)
  have tX:=HB.o.trans (hb.mono Aa);refine⟨vO,wh,wm,by rw[sw.o];exact HD.o,fun j hj=>?_,tX⟩;obtain⟨g1,g2,g3⟩:=HV.o j hj;exact⟨g1,g2,(g3.below tX).more tX.size,fun hn a e=>.inl ⟨by obtain⟨b,o,e2,sN,_⟩:=g3.2 hn;rw[e2]at e;injection e with e;subst e;exact sN,_,_,_,_,_,sw.o.symm,j,a,hj,hn,e,rfl⟩⟩
 have qU:=zz uP;rw[sH];clear uP hb sH E8 HD B1 B2 B3 HB uz zC oC
 generalize((w1.alloc (.cells zeroCells40 40)).setRow (w.heap.size+3) H)=w2 at*
 go_upto_region 13 with fail
 have hb:Below w2.heap.size w2 (w2.alloc (.cells #[.pointer none,.pointer none,.pointer none,.pointer none] 79)):=DC
 have f:=zz (show Ae (w2.alloc (.cells #[.pointer none,.pointer none,.pointer none,.pointer none] 79)) w2.heap.size 79 #[.pointer none,.pointer none,.pointer none,.pointer none]from Ae.fresh _ _ _)
 have qU:=zz (qU.o.below hb);have uy:=vC.o;rw[uy]at f ⊢;clear hb uy vC
 generalize(w2.alloc (.cells #[.pointer none,.pointer none,.pointer none,.pointer none] 79))=w3 at*
 go_wp2_with fail
 go_loopw[10] (fun q wr=>∃(p:Nat) (VA:Nat->Option Addr) (VC:Nat->Nat) (P:Nat->Value),p<=5/\q=.int .i64 p/\KU w wr c.fr H RI (Fp c x p) VA (Vp c x p) VC/\Ae wr (w.heap.size+4) 79 #[P 0,P 1,P 2,P 3]/\
  (∀s:Nat,s<4->(s:Int)≠x.bad->0<p->FE wr (w.heap.size+5) wr.heap.size (P s) (kp (p-1)) (s:Int) c.fr (zp c x (p-1) s))) (fun q _=>5-(intOf q).toNat)
 .exact⟨0,VA,VC,fun _=>.pointer none,Aa,rfl,qU.o,f.o,fun s _ _ h=>absurd h Aa⟩
 clear qU f;obtain⟨p,sD,VCp,P,hp,rfl,vo,uS,sS⟩:=hrel;have qU:=zz vo;have f:=zz uS;have sI:=zz sS;clear vo uS sS
 by_cases qW:p<5
 .have wI:(p:Int)<5:=Aa
  go_upto_region 17 with fail
  have hb:Below wr.heap.size wr (wr.alloc (.cells #[.pointer none,.pointer none,.pointer none,.pointer none] 79)):=DC
  have u7:Ht w (wr.alloc (.cells #[.pointer none,.pointer none,.pointer none,.pointer none] 79)) c x H RI p 0 (Dv x.bad (Gp c x p) (Fp c x p) 0) (Dv x.bad (Lp c x p) (Vp c x p) 0) wr.heap.size (wr.alloc (.cells #[.pointer none,.pointer none,.pointer none,.pointer none] 79)).heap.size P (fun _=>.pointer none) sD VCp:=by
   rw[IY,IY];have vK:=f.o.lt
   refine⟨qU.o.below hb,f.o.below hb f.o.lt,(show Ae (wr.alloc (.cells #[.pointer none,.pointer none,.pointer none,.pointer none] 79)) wr.heap.size 79 #[.pointer none,.pointer none,.pointer none,.pointer none]from Ae.fresh _ _ _),Aa,⟨Bq,Nat.le_refl _⟩,fun s h1 h2 h3=>(sI.o s h1 h2 h3).keep (fun b _ E=>hb.block b E) Nr Nr,fun s vH _=>absurd vH Aa,fun j hj hn a e=>?_⟩
   obtain⟨_,_,g3,_⟩:=qU.o.v j hj;obtain⟨b,o,e2,sN,_⟩:=g3.2 hn;rw[e2]at e;injection e with e;subst e;exact⟨Nat.ne_of_lt sN,Nat.lt_of_lt_of_le sN hb.size⟩
  have Y:=zz u7;clear u7 hb qU f sI
  generalize(wr.alloc (.cells #[.pointer none,.pointer none,.pointer none,.pointer none] 79))=w4 at*
  obtain⟨gx,uD⟩:=AJ (wr.heap.size);rw[uD]at Y ⊢;clear uD;go_wp2_with fail
  generalize wr=wq at*
  go_loopw[59] (fun q wr=>∃(i:Nat) (VA:Nat->Option Addr) (VC:Nat->Nat) (Q:Nat->Value),i<=4/\q=.int .i64 i/\Ht w wr c x H RI p i (Dv x.bad (Gp c x p) (Fp c x p) i) (Dv x.bad (Lp c x p) (Vp c x p) i) gx wr.heap.size P Q VA VC/\∀s,(Q s).oneCell'=true) (fun q _=>4-(intOf q).toNat)
  .exact⟨0,sD,VCp,fun _=>.pointer none,Aa,rfl,Y.o,fun _=>rfl⟩
  clear Y;obtain⟨i,U,R,Q,hi,rfl,uK,uZ⟩:=hrel;have sG:=zz uZ;clear uZ;have Y:=zz uK;clear uK
  by_cases Z:i<4
  .have vS:(0:Int)<=(i:Int):=Aa;have vJ:(i:Int)<4:=Aa;have su:=(Y.o.rf.bI.cell 12).trans sU.o
   by_cases E:(i:Int)=x.bad
   .have tT:decide ((i:Int)=x.bad)=true:=by simp[E]
    have tL:((i:Int)==x.bad)=true:=by simp[E]
    have vF:=zz (show setAt (Dv x.bad (Gp c x p) (Fp c x p) i) i (c.F i)=Dv x.bad (Gp c x p) (Fp c x p) (i+1)from by
     rw[Cl.Dw _ _ _ _ E,←fB E p Aa];have:=Hw (Dv x.bad (Gp c x p) (Fp c x p) i) i
     rwa[Er]at this)
    have vZ:=zz (show setAt (Dv x.bad (Lp c x p) (Vp c x p) i) i (c.V i)=Dv x.bad (Lp c x p) (Vp c x p) (i+1)from by
     rw[Cl.Dw _ _ _ _ E,←dW E p Aa];have:=Hw (Dv x.bad (Lp c x p) (Vp c x p) i) i
     rwa[Er]at this)
    have C:=zz E
    have uo:=zz (show Ae wr w.heap.size 40 (row 297 (Ak c.fr c.F (AO VA c.V VC)))from by rw[sw.o];exact Y.o.rf.bC)
    have rA:=zz (show(row 74 fun j=>Ak c.fr c.F (AO VA c.V VC) (1+i*74+j))=row 74 (Ab (c.F i) (.slice (VA i) (c.V i).length (VC i)))from NV _ _ _ i Z)
    have N:∀(A:Option Addr) (n cc:Nat),∀j,j<74->(Ab (c.F i) (.slice A n cc) j).oneCell'=true:=fun A n cc=>NT (HS.o.ok i Z) A n cc;have sK:=zz N;clear E N
    go_wp2_with(refine Cb rfl 37 _ rfl w.heap.size (1+i*74) 74 rfl uo.o Aa _ underlying37 rfl Ap ?_;rw[rA.o])
    refine(Ey (c.F i) (HS.o.ok i Z) (VA i) (VC i) (c.V i) w.heap.size wr Y.o.rf.b.size (HV.o i Z).1 (HV.o i Z).2.1 (HS.o.v i Z) ((HV.o i Z).2.2.below Y.o.rf.b)).mono ?_;rintro e w5 ⟨A3,c3,rfl,M,hb⟩;have sZ:=zz (Y.o.below hb);have sO:∀a,A3=some a->gx<a.block:=fun a e=>Nat.lt_of_lt_of_le Y.o.bX.lt (Db M a e);have tC:=zz ((sZ.o.node Z (c.F i) A3 (c.V i) c3 (Rd.Bu M) (BU M).1 (BU M).2 sO).skip C.o);have O:=zz tC.o.top;rw[vF.o,vZ.o]at O;have N:=sK.o A3 (c.V i).length c3;clear M hb sO Y tC uo rA
    go_wp2_with(refine Hr rfl 37 _ _ rfl (w.heap.size+3) (1+i*74) 74 (Ab (c.F i) (.slice A3 (c.V i).length c3)) rfl rfl sZ.o.rf.bD Aa Ap N ?_;generalize(w5.setCells (w.heap.size+3) (1+i*74) (row 74 (Ab (c.F i) (.slice A3 (c.V i).length c3))).toList)=w6 at*)
    exact⟨⟨i+1,_,_,_,Aa,BG,O.o,sG.o⟩,Ck⟩
   have tT:decide ((i:Int)=x.bad)=false:=by simp[E]
   have tL:((i:Int)==x.bad)=false:=by simp[E]
   have rM:=zz (show setAt (Dv x.bad (Gp c x p) (Fp c x p) i) i (Gp c x p i)=Dv x.bad (Gp c x p) (Fp c x p) (i+1)from Cl.DV _ _ _ _ E)
   have vz:=zz (show setAt (Dv x.bad (Lp c x p) (Vp c x p) i) i (Lp c x p i)=Dv x.bad (Lp c x p) (Vp c x p) (i+1)from Cl.DV _ _ _ _ E)
   have C:=zz E
   have N:∀(A:Option Addr) (n cc:Nat),∀j,j<74->(Ab (Gp c x p i) (.slice A n cc) j).oneCell'=true:=fun A n cc=>NT (by
    have h:=YA (x:=x) HS.o (p+1) Aa i Z
    rwa[Pb qW,DV Z C.o]at h) A n cc
   have sK:=zz N;clear E N
   go_upto_region 23 with fail
   have r9:Below wr.heap.size wr (wr.alloc (.cells QV 65)):=DC
   have HM:=zz (show Ae (wr.alloc (.cells QV 65)) wr.heap.size 65 QV from Ae.fresh _ _ _)
   have Y:=zz (Y.o.below r9);clear r9
   generalize(wr.alloc (.cells QV 65))=w5 at*
   obtain⟨gm,D⟩:=AJ (wr.heap.size);rw[D]at Y HM ⊢;clear D su
   go_upto_region 24 with fail
   by_cases tJ:0<p
   .have uL:(0:Int)<(p:Int):=Aa
    have ew:IntKind.i64.wrap ((p:Int)-1)=((p-1:Nat):Int):=by rw[IntWalk.i64_in _ Aa];omega
    have m:=Cl.Sw i Z x.bad ((p-1:Nat):Int) C.o sQ x.rd LA LC x.ls rE P (fun _=>kp (p-1)) dB (fun _=>c.fr) (zp c x (p-1)) (fun s _ _=>rfl) w5 (fun s h1 h2=>Zy (Y.o.old s h1 h2 tJ).said (Nat.le_of_lt Y.o.bX.lt)) (Zw (uU.o.below Y.o.rf.b) Y.o.rf.b.size)
    rw[tH.o,show LZ x.bad ((p-1:Nat):Int) x.ls (fun _=>kp (p-1)) dB (fun _=>c.fr) (zp c x (p-1)) 4 i=Yp c x (p-1) i from rfl]at m
    have t:=zz m;have uh:=zz tJ;have e0:¬(p:Int)=0:=Aa;have vV:decide ((p:Int)=0)=false:=decide_eq_false e0;have vW:((p:Int)==0)=false:=beq_eq_false_iff_ne.2 e0;clear m tJ e0
    go_wp2_with(first
     |(refine Ad rfl 79 _ rfl (w.heap.size+4) rfl Y.o.bS _ underlying79 rfl Ap ?_)
     |(refine Ad rfl 43 _ rfl (w.heap.size+1) rfl Y.o.rf.bI _ underlying43 rfl iI ?_))
    refine t.o.mono ?_;rintro e wc ⟨BA,BC,rfl,M,hb⟩;have Y:=zz (Y.o.below hb);have HM:=AU HM hb;have rG:=zz M.at.1;clear M hb t ew uL
    have rA:=zz (show(row 74 fun j=>Ak c.fr (Dv x.bad (Gp c x p) (Fp c x p) i) (AO U (Dv x.bad (Lp c x p) (Vp c x p) i) R) (1+i*74+j))=row 74 (Ab (Fp c x p i) (.slice (U i) (Vp c x p i).length (R i)))from by
     rw[NV _ _ _ i Z,Er]
     unfold AO
     rw[Er])
    have W:=Y.o.rf.v i Z;rw[Er]at W
    go_upto_block 6 with fail
    go_cut[] (fun wx=>∃(B:Nat) (VA:Nat->Option Addr) (VC:Nat->Nat),Ht w wx c x H RI p i (Dv x.bad (Gp c x p) (Fp c x p) (i+1)) (Dv x.bad (Lp c x p) (Vp c x p) (i+1)) gx B P Q VA VC/\FE wx (gx+1) B (.pointer (some ⟨gm,0,none⟩)) (kp p) (i:Int) c.fr (zp c x p i))
    case first=>
     rcases(by have:=uh.o;omega:p=1\/p=2\/p=3\/p=4)with hp|hp|hp|hp
     case' inl=>
      have e1:(p:Int)=1:=Aa;have tQ:decide ((p:Int)=1)=true:=decide_eq_true e1;have ug:((p:Int)==1)=true:=beq_iff_eq.2 e1
      have t:=zz (qN (AI:=BA) (ci:=BC) HS.o rF.o rE (show p=1 by omega) Z C.o W.1 W.2.1 W.2.2.1 rG.o)
      clear hp e1
     case' inr.inl=>
      have e1:¬(p:Int)=1:=Aa;have tQ:decide ((p:Int)=1)=false:=decide_eq_false e1;have ug:((p:Int)==1)=false:=beq_eq_false_iff_ne.2 e1;have e2:(p:Int)=2:=Aa;have vB:decide ((p:Int)=2)=true:=decide_eq_true e2;have uw:((p:Int)==2)=true:=beq_iff_eq.2 e2
      have t:=zz (qG (AI:=BA) (ci:=BC) HS.o rF.o rE (show p=2 by omega) Z C.o W.1 W.2.1 W.2.2.1 rG.o)
      clear hp e1 e2
     case' inr.inr.inl=>
      have e1:¬(p:Int)=1:=Aa;have tQ:decide ((p:Int)=1)=false:=decide_eq_false e1;have ug:((p:Int)==1)=false:=beq_eq_false_iff_ne.2 e1;have e2:¬(p:Int)=2:=Aa;have vB:decide ((p:Int)=2)=false:=decide_eq_false e2;have uw:((p:Int)==2)=false:=beq_eq_false_iff_ne.2 e2;have e3:(p:Int)=3:=Aa;have vI:decide ((p:Int)=3)=true:=decide_eq_true e3;have vY:((p:Int)==3)=true:=beq_iff_eq.2 e3
      have t:=zz (qO (AI:=BA) (ci:=BC) HS.o rF.o rE (show p=3 by omega) Z C.o W.1 W.2.1 W.2.2.1 rG.o)
      clear hp e1 e2 e3
     case' inr.inr.inr=>
      have e1:¬(p:Int)=1:=Aa;have tQ:decide ((p:Int)=1)=false:=decide_eq_false e1;have ug:((p:Int)==1)=false:=beq_eq_false_iff_ne.2 e1;have e2:¬(p:Int)=2:=Aa;have vB:decide ((p:Int)=2)=false:=decide_eq_false e2;have uw:((p:Int)==2)=false:=beq_eq_false_iff_ne.2 e2;have e3:¬(p:Int)=3:=Aa;have vI:decide ((p:Int)=3)=false:=decide_eq_false e3;have vY:((p:Int)==3)=false:=beq_eq_false_iff_ne.2 e3
      have t:=zz (qE (AI:=BA) (ci:=BC) HS.o rF.o rE (show p=4 by omega) Z C.o W.1 W.2.1 W.2.2.1 rG.o)
      clear hp e1 e2 e3
     all_goals
      clear W
      go_wp2_with(refine Cb rfl 37 _ rfl (w.heap.size+3) (1+i*74) 74 rfl Y.o.rf.bD Aa _ underlying37 rfl Ap ?_;rw[rA.o])
      refine t.o.mono ?_;rintro e w7 ⟨A3,c3,A4,c4,rfl,qY,rY,hb,rq,rZ,rD,qX⟩;clear t
      unfold Ms.Jg
      have O:=zz (Y.o.below hb);have qV:=AU HM hb;have D:=HM.o.lt;obtain⟨J,T⟩:=O.o.sent Z qV.o (Gp c x p i) A3 (Lp c x p i) c3 qY rD qX (fun a e=>Nat.lt_of_lt_of_le D (rq a e)) A4 c4 rY (fun a e=>Nat.lt_of_lt_of_le D (rZ a e)) (ny HS.o rF.o qW Z C.o);rw[rM.o,vz.o]at J;have I:=zz J;have z:=zz T;have qR:=zz (Al (b':=w.heap.size+3) (w:=w7) (by have:=O.o.hgx;have:=O.o.hB;omega) (row 74 (Ab (Gp c x p i) (.slice A3 (Lp c x p i).length c3))).toList (1+i*74) _ qV.o);have N:=sK.o A3 (Lp c x p i).length c3;clear qY rY hb rq rZ rD qX D J T rA;obtain⟨RN,L⟩:=AJ (row 74 (Ab (Gp c x p i) (.slice A3 (Lp c x p i).length c3)))
      have iN:(prog.info? 37).map (·.size)=some RN.size:=by rw[←L,Ag];kernel_rfl
      have tN:w7.there (w.heap.size+3) (1+i*74) RN.size:=by rw[←L,Ag];exact Cg O.o.rf.bD (1+i*74) 74 Aa
      have oN:RN.all (·.oneCell')=true:=by rw[←L];exact row_one N
      rw[L]at I z qR ⊢;clear L N
      go_wp2_with(first|(refine Af Bb (fun K hK=>wp_store_mid 37 _ _ rfl (w.heap.size+3) (1+i*74) RN rfl rfl tN iN oN (hK _ _ ?_));try simp only[Rg.lp];generalize(w7.setCells (w.heap.size+3) (1+i*74) RN.toList)=w8 at*)|(refine wpList_store_row rfl 65 _ _ rfl gm #[.int .i64 (kp p),.int .i64 (i:Int),.int .i64 c.fr,.slice A4 (zp c x p i).length c4] rfl rfl 65 _ qR.o Ap rfl GR ?_;generalize(w8.setRow gm #[.int .i64 (kp p),.int .i64 (i:Int),.int .i64 c.fr,.slice A4 (zp c x p i).length c4])=w9 at*)|go_meet)
      exact⟨w7.heap.size,_,_,I.o,z.o⟩
    obtain⟨B,wE,wD,G,T⟩:=hcut;have yq:=jX G.bX Z;have fq:=G.bX.thaw i;have rC:=zz (G.said Z T).top;clear G T Y HM rA W;go_wp2_with fail;exact⟨⟨i+1,_,_,_,Aa,BG,rC.o,one_set sG.o _ _⟩,Ck⟩
   have uL:¬(0:Int)<(p:Int):=Aa;have e0:(p:Int)=0:=Aa
   generalize vU:w5=wc at*
   clear vU
   have rA:=zz (show(row 74 fun j=>Ak c.fr (Dv x.bad (Gp c x p) (Fp c x p) i) (AO U (Dv x.bad (Lp c x p) (Vp c x p) i) R) (1+i*74+j))=row 74 (Ab (Fp c x p i) (.slice (U i) (Vp c x p i).length (R i)))from by
    rw[NV _ _ _ i Z,Er]
    unfold AO
    rw[Er])
   have W:=Y.o.rf.v i Z;rw[Er]at W;have vV:decide ((p:Int)=0)=true:=decide_eq_true e0;have vW:((p:Int)==0)=true:=beq_iff_eq.2 e0
   have uh:=zz (show p=0 by omega)
   have sW:wc.rangeAt (w.heap.size+1) (i*3) ((List.range 3).map fun j=>.int .i64 (x.rd (i*3+j))):=by
    have h:=Dx (show Ae wc (w.heap.size+1) 43 (row 14 (BP x.rd x.bad (.slice LA x.ls.length LC)))from by rw[tH.o];exact Y.o.rf.bI) (i*3) 3 Aa
    rw[List.map_congr_left (g:=fun j=>.int .i64 (x.rd (i*3+j))) (fun j hj=>by have hj:=List.mem_range.1 hj;unfold BP;rw[Ao Aa])]at h;exact h
   have qQ:wc.rangeAt (w.heap.size+3) (1+i*74) ((List.range 74).map (Ab (Fp c x p i) (.slice (U i) (Vp c x p i).length (R i)))):=by
    have h:=Dx Y.o.rf.bD (1+i*74) 74 Aa
    rw[List.map_congr_left (g:=Ab (Fp c x p i) (.slice (U i) (Vp c x p i).length (R i))) (fun j hj=>by
     have hj:=List.mem_range.1 hj
     unfold Ak
     rw[Aj Aa,show(1+i*74+j-1)/74=i by omega,show(1+i*74+j-1)%74=j by omega,Er]
     unfold AO
     rw[Er])]at h
    exact h
   clear W e0
   go_upto_region 29 with fail
   have Y:=zz Y.o.drew;have HM:=zz HM.o.drew;have d:(fun w'=>w'.rangeAt (w.heap.size+3) (1+i*74) ((List.range 74).map (Ab (Fp c x p i) (.slice (U i) (Vp c x p i).length (R i))))/\ w'.cell? ⟨w.heap.size,0,none⟩=some (.int .i64 c.fr)/\w'.rangeAt (w.heap.size+1) (i*3) ((List.range 3).map fun j=>.int .i64 (x.rd (i*3+j)))) wc.drew:=⟨qQ,(Y.o.rf.bC.cell 0).trans vG.o,sW⟩;refine wp_region_noPanic ?_;refine A8 [4,6,10] (fun w'=>w'.rangeAt (w.heap.size+3) (1+i*74) ((List.range 74).map (Ab (Fp c x p i) (.slice (U i) (Vp c x p i).length (R i))))/\ w'.cell? ⟨w.heap.size,0,none⟩=some (.int .i64 c.fr)/\w'.rangeAt (w.heap.size+1) (i*3) ((List.range 3).map fun j=>.int .i64 (x.rd (i*3+j)))) Ap ?_;clear qQ sW
   generalize wc.drew=wv at*
   refine Ac 0 ?_;refine Ac 1 ?_;refine Ac 2 ?_;refine Ac 3 ?_;refine Ba 4 (.agg (row 74 (Ab (Fp c x p i) (.slice (U i) (Vp c x p i).length (R i))))) d (hy:=?_) (h:=?_)
   . (intro w' l;exact BK 37 _ rfl _ (1+i*74) 74 rfl _ _ l.1 underlying37 rfl Ap)
   refine Ac 5 ?_;refine Ba 6 (.int .i64 c.fr) d (hy:=?_) (h:=?_)
   . (intro w' l;have y:=l.2.1;go_simp)
   refine Ac 7 ?_;refine Ac 8 ?_;refine Ac 9 ?_;refine Ba 10 (.agg (G9 (x.rd (i*3)) (x.rd (i*3+1)) (x.rd (i*3+2)))) d (hy:=?_) (h:=?_)
   . (intro w' l;exact BK 31 _ rfl _ (i*3) 3 rfl (fun j=>.int .i64 (x.rd (i*3+j))) _ l.2.2 underlying31 rfl Ap)
   refine Ac 15 ?_;refine Aw 11 ?_;refine AX ?_ ?_
   . kernel_rfl
   intro K hK;rw[Ao Bb];go_simp
   go_at_call 25
   have W:=Y.o.rf.v i Z;rw[Er]at W;refine(qL HS.o uh.o Z W.1 W.2.1 W.2.2.1).mono ?_;rintro e w7 ⟨A3,c3,A4,c4,rfl,qY,rY,hb,rq,rZ,rD,qX⟩
   unfold Ms.Jg
   have O:=zz (Y.o.below hb);have qV:=AU HM hb;have D:=HM.o.lt;obtain⟨J,T⟩:=O.o.sent Z qV.o (Gp c x p i) A3 (Lp c x p i) c3 qY rD qX (fun a e=>Nat.lt_of_lt_of_le D (rq a e)) A4 c4 rY (fun a e=>Nat.lt_of_lt_of_le D (rZ a e)) (ny HS.o rF.o qW Z C.o);rw[rM.o,vz.o]at J;have I:=zz J;have z:=zz T;have qR:=zz (Al (b':=w.heap.size+3) (w:=w7) (by have:=O.o.hgx;have:=O.o.hB;omega) (row 74 (Ab (Gp c x p i) (.slice A3 (Lp c x p i).length c3))).toList (1+i*74) _ qV.o);have N:=sK.o A3 (Lp c x p i).length c3;clear qY rY hb rq rZ rD qX D J T rA;obtain⟨RN,L⟩:=AJ (row 74 (Ab (Gp c x p i) (.slice A3 (Lp c x p i).length c3)))
   have iN:(prog.info? 37).map (·.size)=some RN.size:=by rw[←L,Ag];kernel_rfl
   have tN:w7.there (w.heap.size+3) (1+i*74) RN.size:=by rw[←L,Ag];exact Cg O.o.rf.bD (1+i*74) 74 Aa
   have oN:RN.all (·.oneCell')=true:=by rw[←L];exact row_one N
   rw[L]at I z qR ⊢;clear L N;clear d W;refine hK.o _ _ ?_;refine Ac 12 ?_;refine Ac 13 ?_;refine Ac 14 ?_;refine Ac 16 ?_;refine Aw 17 ?_;refine AX ?_ ?_
   . kernel_rfl
   intro K hK;rw[Ao Bb];refine wp_store_mid 37 _ _ rfl (w.heap.size+3) (1+i*74) RN rfl rfl tN iN oN ?_
   generalize(w7.setCells (w.heap.size+3) (1+i*74) RN.toList)=w8 at*
   refine hK.o _ _ ?_;refine Aw 18 ?_;refine AX ?_ ?_
   . kernel_rfl
   intro K hK;rw[Ao Bb];refine wp_store_row 65 _ _ rfl gm #[.int .i64 (kp p),.int .i64 (i:Int),.int .i64 c.fr,.slice A4 (zp c x p i).length c4] rfl rfl 65 _ qR.o Ap rfl GR ?_
   generalize(w8.setRow gm #[.int .i64 (kp p),.int .i64 (i:Int),.int .i64 c.fr,.slice A4 (zp c x p i).length c4])=w9 at*
   refine hK.o _ _ ?_;(try simp only[Rg.lp]);refine Bg Ap ?_ _;refine NoPanic.normal ?_;have G:=I.o;have T:=z.o;have yq:=jX G.bX Z;have fq:=G.bX.thaw i;have rC:=zz (G.said Z T).top;clear G T I z O qV qR;go_wp2_with fail;exact⟨⟨i+1,_,_,_,Aa,BG,rC.o,one_set sG.o _ _⟩,Ck⟩
  obtain rfl:i=4:=Aa;clear Z;have r:=below_setRow (Below.refl 0 wr) (Nat.zero_le (w.heap.size+4)) #[Q 0,Q 1,Q 2,Q 3]
  have tK:(wr.setRow (w.heap.size+4) #[Q 0,Q 1,Q 2,Q 3]).heap.size=wr.heap.size:=by simp[World.setRow]
  have hg:wr.grownBy (wr.setRow (w.heap.size+4) #[Q 0,Q 1,Q 2,Q 3]) (some (w.heap.size+4)):=⟨r.os,r.tape,r.output,r.size,fun k _ vE=>setRow_other wr (w.heap.size+4) k _ (fun e=>vE (by rw[e]))⟩
  have uR:=zz (show KU w (wr.setRow (w.heap.size+4) #[Q 0,Q 1,Q 2,Q 3]) c.fr H RI (Fp c x (p+1)) U (Vp c x (p+1)) R from by
   rw[Pb qW,Zb qW]
   exact Y.o.rf.other hg tK Nr (fun j hj hn a e=>by have:=(Y.o.rf.v j hj).2.2.2 hn a e;omega))
  have uq:=zz (Y.o.bS.setRow #[Q 0,Q 1,Q 2,Q 3])
  have uX:=zz (show ∀s:Nat,s<4->(s:Int)≠x.bad->0<p+1->FE (wr.setRow (w.heap.size+4) #[Q 0,Q 1,Q 2,Q 3]) (w.heap.size+5) (wr.setRow (w.heap.size+4) #[Q 0,Q 1,Q 2,Q 3]).heap.size (Q s) (kp (p+1-1)) (s:Int) c.fr (zp c x (p+1-1) s)from fun s h1 h2 _=>(Y.o.new s h1 h2).keep (fun b vK _=>setRow_other wr (w.heap.size+4) b _ (by have:=Y.o.hgx;omega)) (by rw[tK];exact Nat.le_refl _) (by have:=Y.o.hgx;omega))
  have o4:(#[Q 0,Q 1,Q 2,Q 3]:Array Value).all (·.oneCell')=true:=by simp[sG.o]
  clear r tK hg
  go_wp2_with(first
   |(refine Ad rfl 79 _ rfl gx rfl Y.o.bX _ underlying79 rfl Ap ?_)
   |(refine wpList_store_row rfl 79 _ _ rfl (w.heap.size+4) #[Q 0,Q 1,Q 2,Q 3] rfl rfl 79 _ Y.o.bS Ap rfl o4 ?_;generalize(wr.setRow (w.heap.size+4) #[Q 0,Q 1,Q 2,Q 3])=w9 at*))
  exact⟨⟨p+1,U,R,Q,Aa,BG,uR.o,uq.o,uX.o⟩,Ck⟩
 obtain rfl:p=5:=Aa;clear qW;have uV:Fx w wr c x H RI 0 [] (Dv x.bad (G6 c x) (F5 c x) 0) wr.heap.size P sD VCp none 0:=⟨by rw[IY];exact qU.o,f.o,⟨f.o.lt,Nat.le_refl _⟩,fun s h1 h2=>sI.o s h1 h2 Aa,World.ownsRow_nil _ _ _ _,fun j hj hn a e e2=>by cases e2⟩;have X:=zz uV;have H6:=zz (WV (YA (x:=x) HS.o 5 Aa))
 have vX:=zz (show Dr (F6 c x)from Dr.new H6.o (YA (x:=x) HS.o 5 Aa))
 clear qU f sI uV;obtain⟨B0,vw⟩:=AJ (wr.heap.size);rw[vw]at X;clear vw
 rw[show((5:Nat):Int)=5 from rfl]
 go_wp2_with fail
 generalize wr=wq at*
 go_loopw[160,15] (fun q u wr=>∃(i:Nat) (VA:Nat->Option Addr) (VC:Nat->Nat) (RA:Option Addr) (rV:Nat),i<=4/\q=.int .i64 i/\u=.slice RA (Bz x.bad i).length rV/\Fx w wr c x H RI (Bz x.bad i).length (Gy c x i) (Dv x.bad (G6 c x) (F5 c x) i) B0 P VA VC RA rV) (fun q _ _=>4-(intOf q).toNat)
 .exact⟨0,sD,VCp,none,0,Aa,rfl,rfl,X.o⟩
 clear X;obtain⟨i,U,R,RA,rV,hi,rfl,rfl,ul⟩:=hrel;have X:=zz ul;clear ul
 by_cases Z:i<4
 .have vS:(0:Int)<=(i:Int):=Aa;have vJ:(i:Int)<4:=Aa;have su:=(X.o.rf.bI.cell 12).trans sU.o
  by_cases E:(i:Int)=x.bad
  .have tT:decide ((i:Int)=x.bad)=true:=by simp[E]
   have tL:((i:Int)==x.bad)=true:=by simp[E]
   have rM:=zz (Cl.Dw x.bad (G6 c x) (F5 c x) i E);have rJ:=zz (cZ E)
   have tF:=zz (show Gy c x (i+1)=Gy c x i from by unfold Gy;rw[rJ.o])
   clear E;go_wp2_with fail;exact⟨⟨i+1,U,R,RA,rV,Aa,BG,by rw[rJ.o],by rw[rJ.o,tF.o,rM.o];exact X.o⟩,Ck⟩
  have tT:decide ((i:Int)=x.bad)=false:=by simp[E]
  have tL:((i:Int)==x.bad)=false:=by simp[E]
  have rM:=zz (show setAt (Dv x.bad (G6 c x) (F5 c x) i) i (G6 c x i)=Dv x.bad (G6 c x) (F5 c x) (i+1)from Cl.DV _ _ _ _ E)
  have rJ:=zz (eT E);have C:=zz E;have tV:=zz X.o.lo;have uI:=zz X.o.hB.2;clear E
  go_upto_region 45 with fail
  have r9:Below wr.heap.size wr (wr.alloc (.cells R8 70)):=DC
  have HM:=zz (show Ae (wr.alloc (.cells R8 70)) wr.heap.size 70 R8 from Ae.fresh _ _ _)
  have X:=zz (X.o.below r9);clear r9
  generalize(wr.alloc (.cells R8 70))=w5 at*
  obtain⟨gm,D⟩:=AJ (wr.heap.size);rw[D]at HM tV uI ⊢;clear D su;have X:=zz X.o.drew;have HM:=zz HM.o.drew;have qQ:=X.o.qC Z;rw[Er]at qQ;have d:(fun w'=>w'.rangeAt (w.heap.size+3) (1+i*74) ((List.range 74).map (Ab (F5 c x i) (.slice (U i) (W5 c x i).length (R i))))/\Ae w' (w.heap.size+4) 79 #[P 0,P 1,P 2,P 3]/\Ae w' (w.heap.size+1) 43 RI) w5.drew:=⟨qQ,X.o.bS,X.o.rf.bI⟩;clear qQ;refine wp_region_noPanic ?_;refine A8 [4,6,7] (fun w'=>w'.rangeAt (w.heap.size+3) (1+i*74) ((List.range 74).map (Ab (F5 c x i) (.slice (U i) (W5 c x i).length (R i))))/\Ae w' (w.heap.size+4) 79 #[P 0,P 1,P 2,P 3]/\Ae w' (w.heap.size+1) 43 RI) Ap ?_
  generalize w5.drew=wv at*
  refine Ac 0 ?_;refine Ac 1 ?_;refine Ac 2 ?_;refine Ac 3 ?_;refine Ba 4 (.agg (row 74 (Ab (F5 c x i) (.slice (U i) (W5 c x i).length (R i))))) d (hy:=?_) (h:=?_)
  . (intro w' l;exact BK 37 _ rfl _ (1+i*74) 74 rfl _ _ l.1 underlying37 rfl Ap)
  refine Ac 5 ?_;refine Ba 6 (.agg #[P 0,P 1,P 2,P 3]) d (hy:=?_) (h:=?_)
  . (intro w' l;exact Az 79 _ rfl (w.heap.size+4) rfl l.2.1 underlying79 rfl Ap)
  refine Ba 7 (.agg RI) d (hy:=?_) (h:=?_)
  . (intro w' l;exact Az 43 _ rfl (w.heap.size+1) rfl l.2.2 underlying43 rfl iI)
  refine Ac 13 ?_;refine Aw 8 ?_;refine Bt ?_;intro K hK;rw[Ao Bb];go_simp
  go_at_call 24
  have m:=Cl.Sw i Z x.bad 4 C.o sQ x.rd LA LC x.ls rE P (fun _=>5) dB (fun _=>c.fr) (fun i=>Fy (G5 c x i)) (fun s _ _=>rfl) wv (fun s h1 h2=>Zy (X.o.old s h1 h2).said X.o.hB.2) (Zw (uU.o.below X.o.rf.b) X.o.rf.b.size)
  rw[tH.o,show LZ x.bad 4 x.ls (fun _=>5) dB (fun _=>c.fr) (fun i=>Fy (G5 c x i)) 4 i=X5 c x i from rfl]at m
  refine m.mono ?_;rintro e w6 ⟨BA,BC,rfl,M,hb⟩;clear m;have X:=zz (X.o.below hb);have HM:=AU HM hb;have rG:=zz M.at.1;have qQ:=X.o.qC Z;rw[Er]at qQ;have d:(fun w'=>w'.rangeAt (w.heap.size+3) (1+i*74) ((List.range 74).map (Ab (F5 c x i) (.slice (U i) (W5 c x i).length (R i))))/\Ae w' (w.heap.size+4) 79 #[P 0,P 1,P 2,P 3]/\Ae w' (w.heap.size+1) 43 RI) w6:=⟨qQ,X.o.bS,X.o.rf.bI⟩;clear qQ M hb;refine hK.o _ _ d ?_;refine Aw 9 ?_;refine AX ?_ ?_
  . kernel_rfl
  intro K hK;rw[Ao Bb];go_simp
  go_at_call 30
  have W:=X.o.rf.v i Z;refine(qH HS.o rF.o rE Z C.o W.1 W.2.1 W.2.2.1 rG.o).mono ?_;rintro e w7 ⟨A3,c3,rfl,qY,hb,rq,rD,qX⟩;have rR:=zz (X.o.below hb);have qV:=AU HM hb;obtain⟨J,ve,uQ⟩:=rR.o.pu Z qV.o uI.o tV.o.1 tV.o.2 (G6 c x i) A3 c3 qY rD qX (fun a e=>Nat.lt_of_lt_of_le HM.o.lt (rq a e)) (row 14 (EQ (G6 c x i)));rw[rM.o]at J;have I:=zz J;have tY:=zz ve;have qR:=zz uQ;obtain⟨RN,L⟩:=AJ (row 74 (Ab (G6 c x i) (.slice A3 (W5 c x i).length c3)))
  have iN:(prog.info? 37).map (·.size)=some RN.size:=by rw[←L,Ag];kernel_rfl
  have tN:w7.there (w.heap.size+3) (1+i*74) RN.size:=by rw[←L,Ag];exact Cg rR.o.rf.bD (1+i*74) 74 Aa
  have oN:RN.all (·.oneCell')=true:=by rw[←L];exact row_one (NT (H6.o i Z) A3 _ c3)
  obtain⟨RR,rO⟩:=AJ (row 14 (EQ (G6 c x i)))
  have oR:RR.all (·.oneCell')=true:=by rw[←rO];exact Pj (H6.o i Z)
  have iR:(prog.info? 70).map (·.size)=some RR.size:=by rw[←rO,Ag];kernel_rfl
  have zR:(R8:Array Value).size=RR.size:=by rw[←rO,Ag];rfl
  rw[L]at I tY qR ⊢;rw[rO]at I tY ⊢;have um:=zz rO;clear L rO qY hb rq rD qX J ve uQ W d X HM rG qV;refine hK.o _ _ ?_;refine Ac 10 ?_;refine Ac 11 ?_;refine Ac 12 ?_;refine Ac 14 ?_;refine Aw 15 ?_;refine AX ?_ ?_
  . kernel_rfl
  intro K hK;rw[Ao Bb];refine wp_store_mid 37 _ _ rfl (w.heap.size+3) (1+i*74) RN rfl rfl tN iN oN ?_
  generalize(w7.setCells (w.heap.size+3) (1+i*74) RN.toList)=w8 at*
  refine hK.o _ _ ?_;refine Aw 16 ?_;refine AX ?_ ?_
  . kernel_rfl
  intro K hK;rw[Ao Bb];refine wp_store_row 70 _ _ rfl gm RR rfl rfl 70 _ qR.o iR zR oR ?_
  generalize(w8.setRow gm RR)=w9 at*
  refine hK.o _ _ ?_;(try simp only[Rg.lp]);refine Bg Ap ?_ _;refine NoPanic.normal ?_;clear rR qR tN iN oN iR zR;have tu:=JO (G6 c x i);obtain⟨v0,q0⟩:=AJ (G6 c x i 0);obtain⟨v1,q1⟩:=AJ (G6 c x i 1);obtain⟨v2,q2⟩:=AJ (G6 c x i 67);obtain⟨v3,q3⟩:=AJ (G6 c x i 68);obtain⟨v4,q4⟩:=AJ (G6 c x i 69);obtain⟨v5,q5⟩:=AJ (G6 c x i 6);obtain⟨v6,q6⟩:=AJ (G6 c x i 13);obtain⟨v7,q7⟩:=AJ (G6 c x i 20);obtain⟨v8,q8⟩:=AJ (G6 c x i 70);obtain⟨v9,q9⟩:=AJ (G6 c x i 72);obtain⟨rT,vk⟩:=AJ (G6 c x i 27);obtain⟨rW,uJ⟩:=AJ (G6 c x i 28);obtain⟨rU,uO⟩:=AJ (G6 c x i 29);obtain⟨rX,u6⟩:=AJ (G6 c x i 30);rw[q0,q1,q2,q3,q4,q5,q6,q7,q8,q9,vk,uJ,uO,u6,um.o]at tu;subst tu;have uT:Below w9.heap.size w9 (w9.alloc (.cells #[v0,v1,v2,v3,v4,v5,v6,v7,v8,v9,rT,rW,rU,rX] 70)):=DC;have uf:=zz (I.o.below uT);have vD:=zz (Jm w9 [v0,v1,v2,v3,v4,v5,v6,v7,v8,v9,rT,rW,rU,rX] 70)
  have uM:=zz (show ∀u∈[v0,v1,v2,v3,v4,v5,v6,v7,v8,v9,rT,rW,rU,rX],u.oneCell'=true from fun u hu=>by rw[Array.all_eq_true']at oR;exact oR u (by simpa using hu))
  have uG:=zz (Hl x.bad i);clear uT oR q0 q1 q2 q3 q4 q5 q6 q7 q8 q9 vk uJ uO u6
  go_wp2_with(first
   |(refine Ad rfl 70 _ rfl gm rfl tY.o _ underlying70 rfl Ap ?_)
   |(at_builtin;refine EJ _ rfl (.tmp 182) (.tmp 184) 44 rfl (base:=B0) NQ rfl uf.o.rp rfl (news:=[v0,v1,v2,v3,v4,v5,v6,v7,v8,v9,rT,rW,rU,rX]) rfl vD.o uM.o (by have:=uG.o;unfold maxLen;omega) (by have:=uG.o;omega) uf.o.hB.2 ?_;intro A4 c4 wz rQ uN sP;have vM:=zz rQ;have vN:=zz uN;have vQ:=zz sP;clear rQ uN sP))
  have vg:=zz (show(Bz x.bad (i+1)).length=(Bz x.bad i).length+1 from by rw[rJ.o,List.length_append];rfl)
  have tF:=zz (show Gy c x (i+1)=Gy c x i++[v0,v1,v2,v3,v4,v5,v6,v7,v8,v9,rT,rW,rU,rX]from by unfold Gy;rw[rJ.o,List.flatMap_append];show _++((row 14 (EQ (G6 c x i))).toList++[])=_;rw[um.o];rfl)
  have rC:=zz (uf.o.grew vN.o vM.o vQ.o);exact⟨⟨i+1,_,_,A4,c4,Aa,BG,by rw[vg.o],by rw[vg.o,tF.o];exact rC.o⟩,Ck⟩
 obtain rfl:i=4:=Aa;clear Z;have yr:=X.o.rf.bD.cell 0
 rw[Ah Aa,show Ak c.fr (Dv x.bad (G6 c x) (F5 c x) 4) (AO U (W5 c x) R) 0=.int .i64 c.fr from rfl]at yr
 have vL:=X.o.rf.bD.thaw 0
 have wC:IntKind.i64.wrap (c.fr+1)=c.fr+1:=by rw[IntKind.wrap_i64];have:=HS.o.fr;omega
 go_upto_region 49 with fail
 have sM:=X.o.rf.bD.set 0 (.int .i64 (c.fr+1));rw[Di]at sM
 have r:(row 297 fun i=>if i=0 then(.int .i64 (c.fr+1):Value)else Ak c.fr (Dv x.bad (G6 c x) (F5 c x) 4) (AO U (W5 c x) R) i)=row 297 (Ak (c.fr+1) (F6 c x) (AO U (W5 c x) R)):=AA fun j hj=>by
  by_cases h0:j=0
  . subst h0;rfl
  show(if j=0 then _ else _)=_
  unfold Ak
  rw[Aj h0,Aj h0,Aj h0];rfl
 rw[r]at sM;have uE:=zz sM
 have uY:=zz (X.o.rf.bO.other (p:=⟨w.heap.size+3,0,none⟩) (by show w.heap.size+2≠w.heap.size+3;omega) (.int .i64 (c.fr+1)))
 have qZ:=Gj wr (w.heap.size+3) 0 (.int .i64 (c.fr+1));have uW:=zz (X.o.rp.kept qZ (.inr fun e=>by have h1:=(X.o.rp.lt _ e).1;have:=X.o.hB;omega))
 have wo:=zz (show ∀j,j<4->Rd (wr.setCell ⟨w.heap.size+3,0,none⟩ (.int .i64 (c.fr+1))) (wr.setCell ⟨w.heap.size+3,0,none⟩ (.int .i64 (c.fr+1))).heap.size 1 (U j) (W5 c x j).length (Au (W5 c x j))from fun j hj=>Cr (X.o.rf.v j hj).2.2.1 qZ.size (fun hn a e=>qZ.block a.block (X.o.lo.1 j hj hn a e) (fun e2=>by injection e2 with e2;have:=(X.o.rf.v j hj).2.2.2 hn a e;omega)))
 have vR:=zz (X.o.rf.b.grown qZ X.o.rf.b.size (fun g e=>by injection e with e;omega));clear sM qZ yr vL r
 generalize(wr.setCell ⟨w.heap.size+3,0,none⟩ (.int .i64 (c.fr+1)))=w9 at*
 obtain⟨RQ,rP⟩:=AJ (row 297 (Ak (c.fr+1) (F6 c x) (AO U (W5 c x) R)));have vT:=zz rP
 have i2:(prog.info? 40).map (·.size)=some RQ.size:=by rw[←rP,Ag];kernel_rfl
 have z2:(zeroCells40).size=RQ.size:=by rw[←rP,Ag];kernel_rfl
 have o2:RQ.all (·.oneCell')=true:=by rw[←rP];exact row_one (CP vX.o _ _ _ _)
 rw[rP]at uE;clear rP
 go_wp2_with(first
  |(refine Ad rfl 40 _ rfl (w.heap.size+3) rfl uE.o _ underlying40 rfl i2 ?_)
  |(refine wpList_store_row rfl 40 _ _ rfl (w.heap.size+2) RQ rfl rfl 40 _ uY.o i2 z2 o2 ?_))
 have qZ:=CK w9 (w.heap.size+2) RQ;refine CR rfl rfl rfl rfl (uY.o.setRow RQ) ⟨by rw[underlying40],i2⟩ rfl ⟨U,R,RA,rV,?_,fun j hj=>?_,?_,?_⟩
 . rw[←vT.o];rfl
 .obtain⟨h1,h2,h3,h4⟩:=X.o.rf.v j hj;exact⟨h1,h2,Cr (wo.o j hj) qZ.size (fun hn a e=>setRow_other w9 (w.heap.size+2) a.block RQ (by have:=h4 hn a e;omega)),fun hn a e=>(h4 hn a e).elim (fun h=>.inl (fT.of (by rw[sw.o];exact h.2))) (fun h=>.inr Aa)⟩
 .refine Bf (uW.o.kept qZ (.inr fun e=>by have h1:=(uW.o.lt _ e).1;have:=X.o.hB;omega)) ?_;have:=X.o.hB;omega
 exact below_setRow vR.o Aa RQ
end Cf
end Go.Proofs.YtjobajeggllmiaaGreat
